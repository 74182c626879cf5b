-- written by wip/tool/hprint.py of this repo: the kit's print, with contracts by hand joined; Lean checks it.
import Derived.Test.YtfnckickbpmcaaaPx0
import Derived.Test.YtfnckickbpmcaaaPx2
import Derived.Test.YtfnckickbpmcaaaPx3
namespace Go.Proofs.Ytfnckickbpmcaaa.P
open Go.RowKit Go.Proofs.YtfnckickbpmcaaaW.PrintWords Go.Proofs.YtfnckickbpmcaaaW.PrintLast Go.Proofs.YtfnckickbpmcaaaW.PrintMore
attribute [local go_sem] max2_int min2_int max_two min_two max_three min_three max_four min_four   -- for this text's walks alone
set_option linter.unusedVariables false
set_option linter.unusedSimpArgs false

/-! ### tolllaw03_awake: function 18 -/
def tolllaw03_awake.f (k : Nat)  : Option (Bool) := (path_Swap.f k 2 (⟨#[47, 97]⟩ : ByteArray) (⟨#[47, 120]⟩ : ByteArray) (⟨#[47, 97, 47, 98]⟩ : ByteArray)).bind fun bt129 => ((path_Swap.f k 2 (⟨#[47, 97]⟩ : ByteArray) (⟨#[47]⟩ : ByteArray) (⟨#[47, 97]⟩ : ByteArray)).bind fun bt131 => ((path_Swap.f k 2 (⟨#[47]⟩ : ByteArray) (⟨#[47, 120]⟩ : ByteArray) (⟨#[47, 98]⟩ : ByteArray)).bind fun bt133 => ((path_Holds.f k 2 (⟨#[47, 97]⟩ : ByteArray) (⟨#[47, 97, 47, 98]⟩ : ByteArray)).bind fun t135 => (if t135 = true then ((path_Holds.f k 2 (⟨#[47, 97]⟩ : ByteArray) (⟨#[47, 97, 47]⟩ : ByteArray)).bind fun t136 => (if t136 = true then ((path_Holds.f k 2 (⟨#[47, 97]⟩ : ByteArray) (⟨#[47, 97, 98]⟩ : ByteArray)).bind fun t137 => (if t137 = true then (none) else (if bt129.1.toList = ([47, 120, 47, 98] : List UInt8) then (if bt129.2 = 0 then (if bt131.1.toList = ([47] : List UInt8) then (if bt131.2 = 0 then (if bt133.1.toList = ([47, 120, 47, 98] : List UInt8) then (if bt133.2 = 0 then (some true) else (none)) else (none)) else (none)) else (none)) else (none)) else (none)))) else (none))) else (none)))))
theorem tolllaw03_awake.mono : ∀ k, LeO (tolllaw03_awake.f k ) (tolllaw03_awake.f (k + 1) ) := by
  intro  k
  unfold tolllaw03_awake.f
  repeat' first
      | (with_reducible exact path_Holds.mono _ _ _ _)
      | (with_reducible exact path_Swap.mono _ _ _ _ _)
      | (with_reducible exact LeO.refl _)
      | (with_reducible exact LeO.none _)
      | (with_reducible refine LeO.ite ?_ ?_)
      | (with_reducible refine LeO.bind ?_ (fun _ => ?_))
      | exact path_Holds.mono _ _ _ _
      | exact path_Swap.mono _ _ _ _ _
      | exact LeO.none _
      | refine LeO.ite ?_ ?_
      | refine LeO.bind ?_ (fun _ => ?_)
set_option maxHeartbeats 8000000 in
set_option maxRecDepth 100000 in
theorem tolllaw03_awake.calls (k : Nat)  (r : Bool) (w : World) (h : tolllaw03_awake.f k  = some r) :
    Calls Try.prog 18 #[] w fun e w' => e = .returned (.bool r) ∧ Below w.heap.size w w' := by
  have hu23 := Try.underlying23
  have HB := Aside0.mk (Below.refl w.heap.size w)
  have H : ((path_Swap.f k 2 (⟨#[47, 97]⟩ : ByteArray) (⟨#[47, 120]⟩ : ByteArray) (⟨#[47, 97, 47, 98]⟩ : ByteArray)).bind fun bt129 => ((path_Swap.f k 2 (⟨#[47, 97]⟩ : ByteArray) (⟨#[47]⟩ : ByteArray) (⟨#[47, 97]⟩ : ByteArray)).bind fun bt131 => ((path_Swap.f k 2 (⟨#[47]⟩ : ByteArray) (⟨#[47, 120]⟩ : ByteArray) (⟨#[47, 98]⟩ : ByteArray)).bind fun bt133 => ((path_Holds.f k 2 (⟨#[47, 97]⟩ : ByteArray) (⟨#[47, 97, 47, 98]⟩ : ByteArray)).bind fun t135 => (if t135 = true then ((path_Holds.f k 2 (⟨#[47, 97]⟩ : ByteArray) (⟨#[47, 97, 47]⟩ : ByteArray)).bind fun t136 => (if t136 = true then ((path_Holds.f k 2 (⟨#[47, 97]⟩ : ByteArray) (⟨#[47, 97, 98]⟩ : ByteArray)).bind fun t137 => (if t137 = true then (none) else (if bt129.1.toList = ([47, 120, 47, 98] : List UInt8) then (if bt129.2 = 0 then (if bt131.1.toList = ([47] : List UInt8) then (if bt131.2 = 0 then (if bt133.1.toList = ([47, 120, 47, 98] : List UInt8) then (if bt133.2 = 0 then (some true) else (none)) else (none)) else (none)) else (none)) else (none)) else (none)))) else (none))) else (none)))))) = some r := h
  clear h
  replace H := Option.bind_eq_some_iff.mp H
  obtain ⟨⟨t129, t130⟩, A10, H⟩ := H
  replace H : ((path_Swap.f k 2 (⟨#[47, 97]⟩ : ByteArray) (⟨#[47]⟩ : ByteArray) (⟨#[47, 97]⟩ : ByteArray)).bind fun bt131 => ((path_Swap.f k 2 (⟨#[47]⟩ : ByteArray) (⟨#[47, 120]⟩ : ByteArray) (⟨#[47, 98]⟩ : ByteArray)).bind fun bt133 => ((path_Holds.f k 2 (⟨#[47, 97]⟩ : ByteArray) (⟨#[47, 97, 47, 98]⟩ : ByteArray)).bind fun t135 => (if t135 = true then ((path_Holds.f k 2 (⟨#[47, 97]⟩ : ByteArray) (⟨#[47, 97, 47]⟩ : ByteArray)).bind fun t136 => (if t136 = true then ((path_Holds.f k 2 (⟨#[47, 97]⟩ : ByteArray) (⟨#[47, 97, 98]⟩ : ByteArray)).bind fun t137 => (if t137 = true then (none) else (if t129.toList = ([47, 120, 47, 98] : List UInt8) then (if t130 = 0 then (if bt131.1.toList = ([47] : List UInt8) then (if bt131.2 = 0 then (if bt133.1.toList = ([47, 120, 47, 98] : List UInt8) then (if bt133.2 = 0 then (some true) else (none)) else (none)) else (none)) else (none)) else (none)) else (none)))) else (none))) else (none))))) = some r := H
  have A1 := Aside0.mk A10
  clear A10
  replace H := Option.bind_eq_some_iff.mp H
  obtain ⟨⟨t131, t132⟩, A20, H⟩ := H
  replace H : ((path_Swap.f k 2 (⟨#[47]⟩ : ByteArray) (⟨#[47, 120]⟩ : ByteArray) (⟨#[47, 98]⟩ : ByteArray)).bind fun bt133 => ((path_Holds.f k 2 (⟨#[47, 97]⟩ : ByteArray) (⟨#[47, 97, 47, 98]⟩ : ByteArray)).bind fun t135 => (if t135 = true then ((path_Holds.f k 2 (⟨#[47, 97]⟩ : ByteArray) (⟨#[47, 97, 47]⟩ : ByteArray)).bind fun t136 => (if t136 = true then ((path_Holds.f k 2 (⟨#[47, 97]⟩ : ByteArray) (⟨#[47, 97, 98]⟩ : ByteArray)).bind fun t137 => (if t137 = true then (none) else (if t129.toList = ([47, 120, 47, 98] : List UInt8) then (if t130 = 0 then (if t131.toList = ([47] : List UInt8) then (if t132 = 0 then (if bt133.1.toList = ([47, 120, 47, 98] : List UInt8) then (if bt133.2 = 0 then (some true) else (none)) else (none)) else (none)) else (none)) else (none)) else (none)))) else (none))) else (none)))) = some r := H
  have A2 := Aside0.mk A20
  clear A20
  replace H := Option.bind_eq_some_iff.mp H
  obtain ⟨⟨t133, t134⟩, A30, H⟩ := H
  replace H : ((path_Holds.f k 2 (⟨#[47, 97]⟩ : ByteArray) (⟨#[47, 97, 47, 98]⟩ : ByteArray)).bind fun t135 => (if t135 = true then ((path_Holds.f k 2 (⟨#[47, 97]⟩ : ByteArray) (⟨#[47, 97, 47]⟩ : ByteArray)).bind fun t136 => (if t136 = true then ((path_Holds.f k 2 (⟨#[47, 97]⟩ : ByteArray) (⟨#[47, 97, 98]⟩ : ByteArray)).bind fun t137 => (if t137 = true then (none) else (if t129.toList = ([47, 120, 47, 98] : List UInt8) then (if t130 = 0 then (if t131.toList = ([47] : List UInt8) then (if t132 = 0 then (if t133.toList = ([47, 120, 47, 98] : List UInt8) then (if t134 = 0 then (some true) else (none)) else (none)) else (none)) else (none)) else (none)) else (none)))) else (none))) else (none))) = some r := H
  have A3 := Aside0.mk A30
  clear A30
  replace H := Option.bind_eq_some_iff.mp H
  obtain ⟨t135, A40, H⟩ := H
  replace H : (if t135 = true then ((path_Holds.f k 2 (⟨#[47, 97]⟩ : ByteArray) (⟨#[47, 97, 47]⟩ : ByteArray)).bind fun t136 => (if t136 = true then ((path_Holds.f k 2 (⟨#[47, 97]⟩ : ByteArray) (⟨#[47, 97, 98]⟩ : ByteArray)).bind fun t137 => (if t137 = true then (none) else (if t129.toList = ([47, 120, 47, 98] : List UInt8) then (if t130 = 0 then (if t131.toList = ([47] : List UInt8) then (if t132 = 0 then (if t133.toList = ([47, 120, 47, 98] : List UInt8) then (if t134 = 0 then (some true) else (none)) else (none)) else (none)) else (none)) else (none)) else (none)))) else (none))) else (none)) = some r := H
  have A4 := Aside0.mk A40
  clear A40
  by_cases c5 : t135 = true
  · subst c5
    have H1 : ((path_Holds.f k 2 (⟨#[47, 97]⟩ : ByteArray) (⟨#[47, 97, 47]⟩ : ByteArray)).bind fun t136 => (if t136 = true then ((path_Holds.f k 2 (⟨#[47, 97]⟩ : ByteArray) (⟨#[47, 97, 98]⟩ : ByteArray)).bind fun t137 => (if t137 = true then (none) else (if t129.toList = ([47, 120, 47, 98] : List UInt8) then (if t130 = 0 then (if t131.toList = ([47] : List UInt8) then (if t132 = 0 then (if t133.toList = ([47, 120, 47, 98] : List UInt8) then (if t134 = 0 then (some true) else (none)) else (none)) else (none)) else (none)) else (none)) else (none)))) else (none))) = some r := by rw [if_pos rfl] at H; exact H
    clear H
    have H := H1
    clear H1
    replace H := Option.bind_eq_some_iff.mp H
    obtain ⟨t136, A60, H⟩ := H
    replace H : (if t136 = true then ((path_Holds.f k 2 (⟨#[47, 97]⟩ : ByteArray) (⟨#[47, 97, 98]⟩ : ByteArray)).bind fun t137 => (if t137 = true then (none) else (if t129.toList = ([47, 120, 47, 98] : List UInt8) then (if t130 = 0 then (if t131.toList = ([47] : List UInt8) then (if t132 = 0 then (if t133.toList = ([47, 120, 47, 98] : List UInt8) then (if t134 = 0 then (some true) else (none)) else (none)) else (none)) else (none)) else (none)) else (none)))) else (none)) = some r := H
    have A6 := Aside0.mk A60
    clear A60
    by_cases c7 : t136 = true
    · subst c7
      have H1 : ((path_Holds.f k 2 (⟨#[47, 97]⟩ : ByteArray) (⟨#[47, 97, 98]⟩ : ByteArray)).bind fun t137 => (if t137 = true then (none) else (if t129.toList = ([47, 120, 47, 98] : List UInt8) then (if t130 = 0 then (if t131.toList = ([47] : List UInt8) then (if t132 = 0 then (if t133.toList = ([47, 120, 47, 98] : List UInt8) then (if t134 = 0 then (some true) else (none)) else (none)) else (none)) else (none)) else (none)) else (none)))) = some r := by rw [if_pos rfl] at H; exact H
      clear H
      have H := H1
      clear H1
      replace H := Option.bind_eq_some_iff.mp H
      obtain ⟨t137, A80, H⟩ := H
      replace H : (if t137 = true then (none) else (if t129.toList = ([47, 120, 47, 98] : List UInt8) then (if t130 = 0 then (if t131.toList = ([47] : List UInt8) then (if t132 = 0 then (if t133.toList = ([47, 120, 47, 98] : List UInt8) then (if t134 = 0 then (some true) else (none)) else (none)) else (none)) else (none)) else (none)) else (none))) = some r := H
      have A8 := Aside0.mk A80
      clear A80
      by_cases c9 : t137 = true
      · subst c9
        have H1 : (none) = some r := by rw [if_pos rfl] at H; exact H
        clear H
        have H := H1
        clear H1
        exact absurd H (by simp)
      · replace c9 := Bool.eq_false_iff.mpr c9
        subst c9
        have H1 : (if t129.toList = ([47, 120, 47, 98] : List UInt8) then (if t130 = 0 then (if t131.toList = ([47] : List UInt8) then (if t132 = 0 then (if t133.toList = ([47, 120, 47, 98] : List UInt8) then (if t134 = 0 then (some true) else (none)) else (none)) else (none)) else (none)) else (none)) else (none)) = some r := by rw [if_neg (show ¬ (false = true) by decide)] at H; exact H
        clear H
        have H := H1
        clear H1
        by_cases c10 : t129.toList = ([47, 120, 47, 98] : List UInt8)
        · rw [if_pos c10] at H
          have c10b0 : (t129.toList == ([47, 120, 47, 98] : List UInt8)) = true := beq_iff_eq.mpr c10
          have c10b1 : (t129.toList != ([47, 120, 47, 98] : List UInt8)) = false := bne_eq_false_iff_eq.mpr c10
          clear c10
          by_cases c11 : t130 = 0
          · rw [if_pos c11] at H
            have c11b0 : (t130 == 0) = true := beq_iff_eq.mpr c11
            have c11b1 : (t130 != 0) = false := bne_eq_false_iff_eq.mpr c11
            clear c11
            by_cases c12 : t131.toList = ([47] : List UInt8)
            · rw [if_pos c12] at H
              have c12b0 : (t131.toList == ([47] : List UInt8)) = true := beq_iff_eq.mpr c12
              have c12b1 : (t131.toList != ([47] : List UInt8)) = false := bne_eq_false_iff_eq.mpr c12
              clear c12
              by_cases c13 : t132 = 0
              · rw [if_pos c13] at H
                have c13b0 : (t132 == 0) = true := beq_iff_eq.mpr c13
                have c13b1 : (t132 != 0) = false := bne_eq_false_iff_eq.mpr c13
                clear c13
                by_cases c14 : t133.toList = ([47, 120, 47, 98] : List UInt8)
                · rw [if_pos c14] at H
                  have c14b0 : (t133.toList == ([47, 120, 47, 98] : List UInt8)) = true := beq_iff_eq.mpr c14
                  have c14b1 : (t133.toList != ([47, 120, 47, 98] : List UInt8)) = false := bne_eq_false_iff_eq.mpr c14
                  clear c14
                  by_cases c15 : t134 = 0
                  · rw [if_pos c15] at H
                    have c15b0 : (t134 == 0) = true := beq_iff_eq.mpr c15
                    have c15b1 : (t134 != 0) = false := bne_eq_false_iff_eq.mpr c15
                    clear c15
                    obtain rfl := Option.some.inj H
                    go_enter Try.func18, Try.ntmps18
                    go_wp2_with (first | ((with_reducible refine gate_dst (N := 1) rfl ?_); refine box_event ?hg (N := 1) ?hd (cs := #[.int .i64 0, .string (⟨#[]⟩ : ByteArray)]) (t := 23) ?hr ?_; (case hd => rfl); (case hg => rfl); (case hr => first | (go_simp; done) | (go_simp; rfl)); intro gb128 hg w16 hbox hb; have n0_ := Aside0.mk (below_step (by repeat (first | (with_reducible first | exact HB.out | apply below_alloc | apply pw_below_drewN | apply below_drew1) | exact HB.out)) hb); have n1_ := Aside0.mk (hbox); have n2_ := Aside0.mk ((by rw [hg]; exact (below_size (by repeat (first | (with_reducible first | exact HB.out | apply below_alloc | apply pw_below_drewN | apply below_drew1) | exact HB.out))) : w.heap.size ≤ gb128)); have n3_ := Aside0.mk ((by rw [hg]; exact (below_size (by repeat (first | (with_reducible first | exact HB.out | apply below_alloc | apply pw_below_drewN | apply below_drew1) | exact HB.out))) : w.heap.size ≤ gb128)); clear HB; have HB := n0_; have BK128 := n1_; have GW128 := n2_; have GE128 := n3_; clear n0_ n1_ n2_ n3_; clear hb hbox hg; have hcz17_0 : w16.cell? ⟨gb128, 0, none⟩ = some (.int .i64 0) := (blk_cell BK128.out 0).trans rfl; have hcz17_1 : w16.cell? ⟨gb128, 1, none⟩ = some (.string (⟨#[]⟩ : ByteArray)) := (blk_cell BK128.out 1).trans rfl; have hfz17_0 := blk_frozen BK128.out 0; have hfz17_1 := blk_frozen BK128.out 1) | ((with_reducible refine gate_callee (f := 19) rfl ?_); refine goesL_ (some 11) rfl rfl Try.func19 (by kernel_rfl) rfl #[.agg #[.int .i64 2, .string (⟨#[47, 97]⟩ : ByteArray)], .string (⟨#[47, 120]⟩ : ByteArray), .string (⟨#[47, 97, 47, 98]⟩ : ByteArray)] rfl (by (try simp only [List.map_toArray, List.map_cons, List.map_nil]); first | done | rfl | (simp only [List.length_drop, List.length_take]; rfl)) ?_; (with_reducible refine (path_Swap.calls k 2 (⟨#[47, 97]⟩ : ByteArray) (⟨#[47, 120]⟩ : ByteArray) (⟨#[47, 97, 47, 98]⟩ : ByteArray) t129 t130 _ A1.out).mono ?_); rintro e w18 ⟨rfl, hb⟩; refine ⟨_, rfl, ?_⟩; have n0_ := Aside0.mk (blk_below (g := gb128) (o := .cells #[.int .i64 2, .string (⟨#[47, 97]⟩ : ByteArray)] 23 (0, 0)) (by (with_reducible repeat (first | refine blk_drewN ?_ _ | refine blk_drew ?_ | refine blk_alloc ?_ _)); refine blk_put (cs := #[.int .i64 2, .string (⟨#[]⟩ : ByteArray)]) ?_ 1 _ rfl; (with_reducible repeat (first | refine blk_drewN ?_ _ | refine blk_drew ?_ | refine blk_alloc ?_ _)); refine blk_put (cs := #[.int .i64 0, .string (⟨#[]⟩ : ByteArray)]) ?_ 0 _ rfl; (with_reducible repeat (first | refine blk_drewN ?_ _ | refine blk_drew ?_ | refine blk_alloc ?_ _)); exact BK128.out) hb); have n1_ := Aside0.mk (below_step (by repeat (first | (with_reducible first | exact HB.out | apply below_alloc | apply pw_below_drewN | apply below_drew1 | refine below_set ?_ GE128.out) | exact HB.out)) hb); clear BK128; clear HB; have BK128 := n0_; have HB := n1_; clear n0_ n1_; (try clear hb); (try clear hb2); (try clear hk); (try clear hi); have hcz19_0 : w18.cell? ⟨gb128, 0, none⟩ = some (.int .i64 2) := (blk_cell BK128.out 0).trans rfl; have hcz19_1 : w18.cell? ⟨gb128, 1, none⟩ = some (.string (⟨#[47, 97]⟩ : ByteArray)) := (blk_cell BK128.out 1).trans rfl; have hfz19_0 := blk_frozen BK128.out 0; have hfz19_1 := blk_frozen BK128.out 1) | ((with_reducible refine gate_callee (f := 19) rfl ?_); refine goesL_ (some 16) rfl rfl Try.func19 (by kernel_rfl) rfl #[.agg #[.int .i64 2, .string (⟨#[47, 97]⟩ : ByteArray)], .string (⟨#[47]⟩ : ByteArray), .string (⟨#[47, 97]⟩ : ByteArray)] rfl (by (try simp only [List.map_toArray, List.map_cons, List.map_nil]); first | done | rfl | (simp only [List.length_drop, List.length_take]; rfl)) ?_; (with_reducible refine (path_Swap.calls k 2 (⟨#[47, 97]⟩ : ByteArray) (⟨#[47]⟩ : ByteArray) (⟨#[47, 97]⟩ : ByteArray) t131 t132 _ A2.out).mono ?_); rintro e w20 ⟨rfl, hb⟩; refine ⟨_, rfl, ?_⟩; have n0_ := Aside0.mk (blk_below (g := gb128) (o := .cells #[.int .i64 2, .string (⟨#[47, 97]⟩ : ByteArray)] 23 (0, 0)) (by (with_reducible repeat (first | refine blk_drewN ?_ _ | refine blk_drew ?_ | refine blk_alloc ?_ _)); exact BK128.out) hb); have n1_ := Aside0.mk (below_step (by repeat (first | (with_reducible first | exact HB.out | apply below_alloc | apply pw_below_drewN | apply below_drew1 | refine below_set ?_ GE128.out) | exact HB.out)) hb); clear BK128; clear HB; have BK128 := n0_; have HB := n1_; clear n0_ n1_; (try clear hb); (try clear hb2); (try clear hk); (try clear hi)) | ((with_reducible refine gate_callee (f := 19) rfl ?_); refine goesL_ (some 21) rfl rfl Try.func19 (by kernel_rfl) rfl #[.agg #[.int .i64 2, .string (⟨#[47]⟩ : ByteArray)], .string (⟨#[47, 120]⟩ : ByteArray), .string (⟨#[47, 98]⟩ : ByteArray)] rfl (by (try simp only [List.map_toArray, List.map_cons, List.map_nil]); first | done | rfl | (simp only [List.length_drop, List.length_take]; rfl)) ?_; (with_reducible refine (path_Swap.calls k 2 (⟨#[47]⟩ : ByteArray) (⟨#[47, 120]⟩ : ByteArray) (⟨#[47, 98]⟩ : ByteArray) t133 t134 _ A3.out).mono ?_); rintro e w21 ⟨rfl, hb⟩; refine ⟨_, rfl, ?_⟩; have n0_ := Aside0.mk (blk_below (g := gb128) (o := .cells #[.int .i64 2, .string (⟨#[47, 97]⟩ : ByteArray)] 23 (0, 0)) (by (with_reducible repeat (first | refine blk_drewN ?_ _ | refine blk_drew ?_ | refine blk_alloc ?_ _)); exact BK128.out) hb); have n1_ := Aside0.mk (below_step (by repeat (first | (with_reducible first | exact HB.out | apply below_alloc | apply pw_below_drewN | apply below_drew1 | refine below_set ?_ GE128.out) | exact HB.out)) hb); clear BK128; clear HB; have BK128 := n0_; have HB := n1_; clear n0_ n1_; (try clear hb); (try clear hb2); (try clear hk); (try clear hi); have hcz22_0 : w21.cell? ⟨gb128, 0, none⟩ = some (.int .i64 2) := (blk_cell BK128.out 0).trans rfl; have hcz22_1 : w21.cell? ⟨gb128, 1, none⟩ = some (.string (⟨#[47, 97]⟩ : ByteArray)) := (blk_cell BK128.out 1).trans rfl; have hfz22_0 := blk_frozen BK128.out 0; have hfz22_1 := blk_frozen BK128.out 1) | ((with_reducible refine gate_callee (f := 16) rfl ?_); refine goesL_ (some 25) rfl rfl Try.func16 (by kernel_rfl) rfl #[.agg #[.int .i64 2, .string (⟨#[47, 97]⟩ : ByteArray)], .string (⟨#[47, 97, 47, 98]⟩ : ByteArray)] rfl (by (try simp only [List.map_toArray, List.map_cons, List.map_nil]); first | done | rfl | (simp only [List.length_drop, List.length_take]; rfl)) ?_; (with_reducible refine (path_Holds.calls k 2 (⟨#[47, 97]⟩ : ByteArray) (⟨#[47, 97, 47, 98]⟩ : ByteArray) true _ A4.out).mono ?_); rintro e w23 ⟨rfl, hb⟩; refine ⟨_, rfl, ?_⟩; have n0_ := Aside0.mk (blk_below (g := gb128) (o := .cells #[.int .i64 2, .string (⟨#[47, 97]⟩ : ByteArray)] 23 (0, 0)) (by (with_reducible repeat (first | refine blk_drewN ?_ _ | refine blk_drew ?_ | refine blk_alloc ?_ _)); exact BK128.out) hb); have n1_ := Aside0.mk (below_step (by repeat (first | (with_reducible first | exact HB.out | apply below_alloc | apply pw_below_drewN | apply below_drew1 | refine below_set ?_ GE128.out) | exact HB.out)) hb); clear BK128; clear HB; have BK128 := n0_; have HB := n1_; clear n0_ n1_; (try clear hb); (try clear hb2); (try clear hk); (try clear hi); have hcz24_0 : w23.cell? ⟨gb128, 0, none⟩ = some (.int .i64 2) := (blk_cell BK128.out 0).trans rfl; have hcz24_1 : w23.cell? ⟨gb128, 1, none⟩ = some (.string (⟨#[47, 97]⟩ : ByteArray)) := (blk_cell BK128.out 1).trans rfl; have hfz24_0 := blk_frozen BK128.out 0; have hfz24_1 := blk_frozen BK128.out 1) | (go_at_call 16; (with_reducible refine (path_Holds.calls k 2 (⟨#[47, 97]⟩ : ByteArray) (⟨#[47, 97, 47]⟩ : ByteArray) true _ A6.out).mono ?_); rintro e w25 ⟨rfl, hb⟩; have n0_ := Aside0.mk (blk_below (g := gb128) (o := .cells #[.int .i64 2, .string (⟨#[47, 97]⟩ : ByteArray)] 23 (0, 0)) (by (with_reducible repeat (first | refine blk_drewN ?_ _ | refine blk_drew ?_ | refine blk_alloc ?_ _)); exact BK128.out) hb); have n1_ := Aside0.mk (below_step (by repeat (first | (with_reducible first | exact HB.out | apply below_alloc | apply pw_below_drewN | apply below_drew1 | refine below_set ?_ GE128.out) | exact HB.out)) hb); clear BK128; clear HB; have BK128 := n0_; have HB := n1_; clear n0_ n1_; (try clear hb); (try clear hb2); (try clear hk); (try clear hi); have hcz26_0 : w25.cell? ⟨gb128, 0, none⟩ = some (.int .i64 2) := (blk_cell BK128.out 0).trans rfl; have hcz26_1 : w25.cell? ⟨gb128, 1, none⟩ = some (.string (⟨#[47, 97]⟩ : ByteArray)) := (blk_cell BK128.out 1).trans rfl; have hfz26_0 := blk_frozen BK128.out 0; have hfz26_1 := blk_frozen BK128.out 1) | (go_at_call 16; (with_reducible refine (path_Holds.calls k 2 (⟨#[47, 97]⟩ : ByteArray) (⟨#[47, 97, 98]⟩ : ByteArray) false _ A8.out).mono ?_); rintro e w27 ⟨rfl, hb⟩; have n0_ := Aside0.mk (blk_below (g := gb128) (o := .cells #[.int .i64 2, .string (⟨#[47, 97]⟩ : ByteArray)] 23 (0, 0)) (by (with_reducible repeat (first | refine blk_drewN ?_ _ | refine blk_drew ?_ | refine blk_alloc ?_ _)); exact BK128.out) hb); have n1_ := Aside0.mk (below_step (by repeat (first | (with_reducible first | exact HB.out | apply below_alloc | apply pw_below_drewN | apply below_drew1 | refine below_set ?_ GE128.out) | exact HB.out)) hb); clear BK128; clear HB; have BK128 := n0_; have HB := n1_; clear n0_ n1_; (try clear hb); (try clear hb2); (try clear hk); (try clear hi)))
                    go_ret
                    exact ⟨by first | rfl | (simp [errW_none, errW_some] <;> rfl) | (simp [*, errW_none, errW_some] <;> rfl), by repeat (first | (with_reducible first | exact HB.out | apply below_alloc | apply pw_below_drewN | apply below_drew1 | refine below_set ?_ GE128.out) | exact HB.out)⟩
                  · rw [if_neg c15] at H
                    exact absurd H (by simp)
                · rw [if_neg c14] at H
                  exact absurd H (by simp)
              · rw [if_neg c13] at H
                exact absurd H (by simp)
            · rw [if_neg c12] at H
              exact absurd H (by simp)
          · rw [if_neg c11] at H
            exact absurd H (by simp)
        · rw [if_neg c10] at H
          exact absurd H (by simp)
    · replace c7 := Bool.eq_false_iff.mpr c7
      subst c7
      have H1 : (none) = some r := by rw [if_neg (show ¬ (false = true) by decide)] at H; exact H
      clear H
      have H := H1
      clear H1
      exact absurd H (by simp)
  · replace c5 := Bool.eq_false_iff.mpr c5
    subst c5
    have H1 : (none) = some r := by rw [if_neg (show ¬ (false = true) by decide)] at H; exact H
    clear H
    have H := H1
    clear H1
    exact absurd H (by simp)

/-! ### tolllaw03_PathHolds: function 3 -/
def tolllaw03_PathHolds.f (k : Nat) (a0_0 : Int) (a0_1 : ByteArray) (a1 : ByteArray) : Option (Bool) := (tolllaw03_Few.f a0_0 a0_1).bind fun bt139 => ((tolllaw01_Few.f a1).bind fun t141 => ((path_Is.f t141).bind fun t142 => ((tollref03_Is.f k t141).bind fun t143 => (if (t142 == t143) = true then ((path_May.f bt139.1 bt139.2).bind fun t144 => ((tollref03_May.f k bt139.1 bt139.2).bind fun t145 => (if (t144 == t145) = true then ((path_Holds.f k bt139.1 bt139.2 t141).bind fun t146 => ((tollref03_Holds.f k bt139.1 bt139.2 t141).bind fun t147 => (if (t146 == t147) = true then ((tolllaw03_awake.f k).bind fun t148 => (some t148)) else (none)))) else (none)))) else (none)))))
theorem tolllaw03_PathHolds.mono : ∀ a0 a1 a2 k, LeO (tolllaw03_PathHolds.f k a0 a1 a2) (tolllaw03_PathHolds.f (k + 1) a0 a1 a2) := by
  intro a0 a1 a2 k
  unfold tolllaw03_PathHolds.f
  repeat' first
      | (with_reducible exact path_Holds.mono _ _ _ _)
      | (with_reducible exact tolllaw03_awake.mono _)
      | (with_reducible exact tollref03_Holds.mono _ _ _ _)
      | (with_reducible exact tollref03_Is.mono _ _)
      | (with_reducible exact tollref03_May.mono _ _ _)
      | (with_reducible exact LeO.refl _)
      | (with_reducible exact LeO.none _)
      | (with_reducible refine LeO.ite ?_ ?_)
      | (with_reducible refine LeO.bind ?_ (fun _ => ?_))
      | exact path_Holds.mono _ _ _ _
      | exact tolllaw03_awake.mono _
      | exact tollref03_Holds.mono _ _ _ _
      | exact tollref03_Is.mono _ _
      | exact tollref03_May.mono _ _ _
      | exact LeO.none _
      | refine LeO.ite ?_ ?_
      | refine LeO.bind ?_ (fun _ => ?_)
def tolllaw03_PathHolds.T2 : Bool × List (List Nat × List Nat) := (true, [([], []), ([0], [0]), ([], []), ([2, 1], [2]), ([1, 3], [1, 3]), ([4, 3], [4]), ([5], [5]), ([6, 5, 5], [5, 6]), ([5], [5]), ([8, 7, 5], [5, 8]), ([7, 9, 5], [5, 7, 9]), ([5, 10], [5, 10]), ([11, 9], [11]), ([12], [12]), ([12], [12]), ([13, 14, 12, 12], [12, 13, 14]), ([12], [12]), ([12], [12]), ([16, 17, 15, 12], [12, 16, 17]), ([15, 18, 12], [12, 15, 18]), ([12, 19], [12, 19]), ([20, 18], [20]), ([21, 21], [21]), ([21, 22], [21, 22]), ([23, 22, 0, 1, 2, 3, 4, 5, 6, 7, 8, 9, 10, 11, 12, 13, 14, 15, 16, 17, 18, 19, 20, 21, 22, 23], [23])])
def tolllaw03_PathHolds.B2 : List Nat := [0, 1, 0, 7, 15, 31, 63, 127, 63, 511, 1023, 2047, 4095, 8191, 8191, 32767, 8191, 8191, 262143, 524287, 1048575, 2097151, 4194303, 8388607, 16777215]
theorem tolllaw03_PathHolds.tab2 : rtab .any (opsOf Try.f3 2) = tolllaw03_PathHolds.T2 := by kernel_rfl
theorem tolllaw03_PathHolds.bits2 : waitsOk tolllaw03_PathHolds.T2.2 tolllaw03_PathHolds.B2 = true := by kernel_rfl
set_option maxHeartbeats 8000000 in
set_option maxRecDepth 100000 in
theorem tolllaw03_PathHolds.calls (k : Nat) (a0_0 : Int) (a0_1 : ByteArray) (a1 : ByteArray) (r : Bool) (w : World) (h : tolllaw03_PathHolds.f k a0_0 a0_1 a1 = some r) :
    Calls Try.prog 3 #[.agg #[.int .i64 a0_0, .string a0_1], .string a1] w fun e w' => e = .returned (.bool r) ∧ Below w.heap.size w w' := by
  have hu23 := Try.underlying23
  have HB := Aside0.mk (Below.refl w.heap.size w)
  have H : ((tolllaw03_Few.f a0_0 a0_1).bind fun bt139 => ((tolllaw01_Few.f a1).bind fun t141 => ((path_Is.f t141).bind fun t142 => ((tollref03_Is.f k t141).bind fun t143 => (if (t142 == t143) = true then ((path_May.f bt139.1 bt139.2).bind fun t144 => ((tollref03_May.f k bt139.1 bt139.2).bind fun t145 => (if (t144 == t145) = true then ((path_Holds.f k bt139.1 bt139.2 t141).bind fun t146 => ((tollref03_Holds.f k bt139.1 bt139.2 t141).bind fun t147 => (if (t146 == t147) = true then ((tolllaw03_awake.f k).bind fun t148 => (some t148)) else (none)))) else (none)))) else (none)))))) = some r := h
  clear h
  replace H := Option.bind_eq_some_iff.mp H
  obtain ⟨⟨t139, t140⟩, A30, H⟩ := H
  replace H : ((tolllaw01_Few.f a1).bind fun t141 => ((path_Is.f t141).bind fun t142 => ((tollref03_Is.f k t141).bind fun t143 => (if (t142 == t143) = true then ((path_May.f t139 t140).bind fun t144 => ((tollref03_May.f k t139 t140).bind fun t145 => (if (t144 == t145) = true then ((path_Holds.f k t139 t140 t141).bind fun t146 => ((tollref03_Holds.f k t139 t140 t141).bind fun t147 => (if (t146 == t147) = true then ((tolllaw03_awake.f k).bind fun t148 => (some t148)) else (none)))) else (none)))) else (none))))) = some r := H
  have A3 := Aside0.mk A30
  clear A30
  replace H := Option.bind_eq_some_iff.mp H
  obtain ⟨t141, A40, H⟩ := H
  replace H : ((path_Is.f t141).bind fun t142 => ((tollref03_Is.f k t141).bind fun t143 => (if (t142 == t143) = true then ((path_May.f t139 t140).bind fun t144 => ((tollref03_May.f k t139 t140).bind fun t145 => (if (t144 == t145) = true then ((path_Holds.f k t139 t140 t141).bind fun t146 => ((tollref03_Holds.f k t139 t140 t141).bind fun t147 => (if (t146 == t147) = true then ((tolllaw03_awake.f k).bind fun t148 => (some t148)) else (none)))) else (none)))) else (none)))) = some r := H
  have A4 := Aside0.mk A40
  clear A40
  replace H := Option.bind_eq_some_iff.mp H
  obtain ⟨t142, A50, H⟩ := H
  replace H : ((tollref03_Is.f k t141).bind fun t143 => (if (t142 == t143) = true then ((path_May.f t139 t140).bind fun t144 => ((tollref03_May.f k t139 t140).bind fun t145 => (if (t144 == t145) = true then ((path_Holds.f k t139 t140 t141).bind fun t146 => ((tollref03_Holds.f k t139 t140 t141).bind fun t147 => (if (t146 == t147) = true then ((tolllaw03_awake.f k).bind fun t148 => (some t148)) else (none)))) else (none)))) else (none))) = some r := H
  have A5 := Aside0.mk A50
  clear A50
  replace H := Option.bind_eq_some_iff.mp H
  obtain ⟨t143, A60, H⟩ := H
  replace H : (if (t142 == t143) = true then ((path_May.f t139 t140).bind fun t144 => ((tollref03_May.f k t139 t140).bind fun t145 => (if (t144 == t145) = true then ((path_Holds.f k t139 t140 t141).bind fun t146 => ((tollref03_Holds.f k t139 t140 t141).bind fun t147 => (if (t146 == t147) = true then ((tolllaw03_awake.f k).bind fun t148 => (some t148)) else (none)))) else (none)))) else (none)) = some r := H
  have A6 := Aside0.mk A60
  clear A60
  by_cases c7 : (t142 == t143) = true
  · rw [if_pos c7] at H
    have c7b0 : (t142 == t143) = true := c7
    (try (have c7b1 : decide (t142 = t143) = true := by simpa using c7))
    (try (have c7b2 : (t142 == t143) = true := by simpa using c7))
    clear c7
    replace H := Option.bind_eq_some_iff.mp H
    obtain ⟨t144, A80, H⟩ := H
    replace H : ((tollref03_May.f k t139 t140).bind fun t145 => (if (t144 == t145) = true then ((path_Holds.f k t139 t140 t141).bind fun t146 => ((tollref03_Holds.f k t139 t140 t141).bind fun t147 => (if (t146 == t147) = true then ((tolllaw03_awake.f k).bind fun t148 => (some t148)) else (none)))) else (none))) = some r := H
    have A8 := Aside0.mk A80
    clear A80
    replace H := Option.bind_eq_some_iff.mp H
    obtain ⟨t145, A90, H⟩ := H
    replace H : (if (t144 == t145) = true then ((path_Holds.f k t139 t140 t141).bind fun t146 => ((tollref03_Holds.f k t139 t140 t141).bind fun t147 => (if (t146 == t147) = true then ((tolllaw03_awake.f k).bind fun t148 => (some t148)) else (none)))) else (none)) = some r := H
    have A9 := Aside0.mk A90
    clear A90
    by_cases c10 : (t144 == t145) = true
    · rw [if_pos c10] at H
      have c10b0 : (t144 == t145) = true := c10
      (try (have c10b1 : decide (t144 = t145) = true := by simpa using c10))
      (try (have c10b2 : (t144 == t145) = true := by simpa using c10))
      clear c10
      replace H := Option.bind_eq_some_iff.mp H
      obtain ⟨t146, A110, H⟩ := H
      replace H : ((tollref03_Holds.f k t139 t140 t141).bind fun t147 => (if (t146 == t147) = true then ((tolllaw03_awake.f k).bind fun t148 => (some t148)) else (none))) = some r := H
      have A11 := Aside0.mk A110
      clear A110
      replace H := Option.bind_eq_some_iff.mp H
      obtain ⟨t147, A120, H⟩ := H
      replace H : (if (t146 == t147) = true then ((tolllaw03_awake.f k).bind fun t148 => (some t148)) else (none)) = some r := H
      have A12 := Aside0.mk A120
      clear A120
      by_cases c13 : (t146 == t147) = true
      · rw [if_pos c13] at H
        have c13b0 : (t146 == t147) = true := c13
        (try (have c13b1 : decide (t146 = t147) = true := by simpa using c13))
        (try (have c13b2 : (t146 == t147) = true := by simpa using c13))
        clear c13
        replace H := Option.bind_eq_some_iff.mp H
        obtain ⟨t148, A140, H⟩ := H
        replace H : (some t148) = some r := H
        have A14 := Aside0.mk A140
        clear A140
        obtain rfl := Option.some.inj H
        go_enter Try.func3, Try.ntmps3
        try go_wp2_with (first | ((with_reducible refine gate_dst (N := 2) rfl ?_); refine box_event ?hg (N := 2) ?hd (cs := #[.int .i64 a0_0, .string a0_1]) (t := 23) ?hr ?_; (case hd => rfl); (case hg => rfl); (case hr => first | (go_simp; done) | (go_simp; rfl)); intro gb138 hg w15 hbox hb; have n0_ := Aside0.mk (below_step (by repeat (first | (with_reducible first | exact HB.out | apply below_alloc | apply pw_below_drewN | apply below_drew1) | exact HB.out)) hb); have n1_ := Aside0.mk (hbox); have n2_ := Aside0.mk ((by rw [hg]; exact (below_size (by repeat (first | (with_reducible first | exact HB.out | apply below_alloc | apply pw_below_drewN | apply below_drew1) | exact HB.out))) : w.heap.size ≤ gb138)); have n3_ := Aside0.mk ((by rw [hg]; exact (below_size (by repeat (first | (with_reducible first | exact HB.out | apply below_alloc | apply pw_below_drewN | apply below_drew1) | exact HB.out))) : w.heap.size ≤ gb138)); clear HB; have HB := n0_; have BK138 := n1_; have GW138 := n2_; have GE138 := n3_; clear n0_ n1_ n2_ n3_; clear hb hbox hg; have hcz16_0 : w15.cell? ⟨gb138, 0, none⟩ = some (.int .i64 a0_0) := (blk_cell BK138.out 0).trans rfl; have hcz16_1 : w15.cell? ⟨gb138, 1, none⟩ = some (.string a0_1) := (blk_cell BK138.out 1).trans rfl; have hfz16_0 := blk_frozen BK138.out 0; have hfz16_1 := blk_frozen BK138.out 1) | ((with_reducible refine gate_callee (f := 10) rfl ?_); refine goesL_ (some 6) rfl rfl Try.func10 (by kernel_rfl) rfl #[.agg #[.int .i64 a0_0, .string a0_1]] rfl (by (try simp only [List.map_toArray, List.map_cons, List.map_nil]); first | done | rfl | (simp only [List.length_drop, List.length_take]; rfl)) ?_; (with_reducible refine (tolllaw03_Few.calls a0_0 a0_1 t139 t140 _ A3.out).mono ?_); rintro e w17 ⟨rfl, hb⟩; refine ⟨_, rfl, ?_⟩; have n0_ := Aside0.mk (blk_below (g := gb138) (o := .cells #[.int .i64 a0_0, .string a0_1] 23 (0, 0)) (by (with_reducible repeat (first | refine blk_drewN ?_ _ | refine blk_drew ?_ | refine blk_alloc ?_ _)); exact BK138.out) hb); have n1_ := Aside0.mk (below_step (by repeat (first | (with_reducible first | exact HB.out | apply below_alloc | apply pw_below_drewN | apply below_drew1 | refine below_set ?_ GE138.out) | exact HB.out)) hb); clear BK138; clear HB; have BK138 := n0_; have HB := n1_; clear n0_ n1_; (try clear hb); (try clear hb2); (try clear hk); (try clear hi)) | ((with_reducible refine gate_callee (f := 11) rfl ?_); refine goesL_ (some 8) rfl rfl Try.func11 (by kernel_rfl) rfl #[.string a1] rfl (by (try simp only [List.map_toArray, List.map_cons, List.map_nil]); first | done | rfl | (simp only [List.length_drop, List.length_take]; rfl)) ?_; (with_reducible refine (tolllaw01_Few.calls a1 t141 _ A4.out).mono ?_); rintro e w' ⟨rfl, ⟨nd, rfl⟩⟩; refine ⟨_, rfl, ?_⟩; (try (rw [drewN_self w17]; generalize hq_ : World.drewN w17 _ = w17; have n0_ : Aside0 (w17.heap[gb138]? = some (.cells #[.int .i64 a0_0, .string a0_1] 23 (0, 0))) := ⟨by rw [← hq_]; exact (by (with_reducible repeat (first | refine blk_drewN ?_ _ | refine blk_drew ?_ | refine blk_alloc ?_ _)); exact BK138.out)⟩; have n1_ : Aside0 (Below w.heap.size w w17) := ⟨by rw [← hq_]; exact (by repeat (first | (with_reducible first | exact HB.out | apply below_alloc | apply pw_below_drewN | apply below_drew1 | refine below_set ?_ GE138.out) | exact HB.out))⟩; clear BK138 HB hq_; have BK138 := n0_; have HB := n1_; clear n0_ n1_)); have hcz18_0 : w17.cell? ⟨gb138, 0, none⟩ = some (.int .i64 a0_0) := (blk_cell BK138.out 0).trans rfl; have hcz18_1 : w17.cell? ⟨gb138, 1, none⟩ = some (.string a0_1) := (blk_cell BK138.out 1).trans rfl; have hfz18_0 := blk_frozen BK138.out 0; have hfz18_1 := blk_frozen BK138.out 1))
        have n0_ : Aside0 (((w17.setCell ⟨gb138, 0, none⟩ (.int .i64 t139)).setCell ⟨gb138, 1, none⟩ (.string t140)).heap[gb138]? = some (.cells #[.int .i64 t139, .string t140] 23 (0, 0))) := ⟨by (with_reducible repeat (first | refine blk_drewN ?_ _ | refine blk_drew ?_ | refine blk_alloc ?_ _)); refine blk_put (cs := #[.int .i64 t139, .string a0_1]) ?_ 1 _ rfl; (with_reducible repeat (first | refine blk_drewN ?_ _ | refine blk_drew ?_ | refine blk_alloc ?_ _)); refine blk_put (cs := #[.int .i64 a0_0, .string a0_1]) ?_ 0 _ rfl; (with_reducible repeat (first | refine blk_drewN ?_ _ | refine blk_drew ?_ | refine blk_alloc ?_ _)); exact BK138.out⟩
        have n1_ : Aside0 (Below w.heap.size w ((w17.setCell ⟨gb138, 0, none⟩ (.int .i64 t139)).setCell ⟨gb138, 1, none⟩ (.string t140))) := ⟨by repeat (first | (with_reducible first | exact HB.out | apply below_alloc | apply pw_below_drewN | apply below_drew1 | refine below_set ?_ GE138.out) | exact HB.out)⟩
        (try clear BK138)
        (try clear HB)
        generalize ((w17.setCell ⟨gb138, 0, none⟩ (.int .i64 t139)).setCell ⟨gb138, 1, none⟩ (.string t140)) = w19 at n0_ n1_ ⊢
        have BK138 := n0_
        have HB := n1_
        clear n0_ n1_
        have n0_ := Aside0.mk (blk_drew BK138.out)
        have n1_ := Aside0.mk (below_drew1 HB.out)
        clear BK138
        clear HB
        have BK138 := n0_
        have HB := n1_
        clear n0_ n1_
        refine start_ (n := 25) (S := fun w' => w'.cell? ⟨gb138, 0, none⟩ = some (.int .i64 t139) ∧ w'.cell? ⟨gb138, 1, none⟩ = some (.string t140)) (ds := []) #[false, false, false, false, false, false, false, false, false, false, false, false, false, false, false, false, false, false, false, false, false, false, false, false, false] (by kernel_rfl) rfl rfl ⟨(blk_cell BK138.out 0).trans rfl, (blk_cell BK138.out 1).trans rfl⟩ (fun hHeld => ?_); refine with_tabW tolllaw03_PathHolds.tab2 tolllaw03_PathHolds.bits2 (fun HT_ HW_ => ?_)
        generalize w19.drew = w20 at BK138 HB hHeld ⊢
        refine pure_ (i := 0) (N := some 9) (v := ?_) (a' := ?_) #[true, false, false, false, false, false, false, false, false, false, false, false, false, false, false, false, false, false, false, false, false, false, false, false, false] rfl rfl (any_of HT_.out (by kernel_rfl)) (fun _ _ _ h => h) (Or.inl ⟨by rfl, ?_⟩) ?_ ?_
        rotate_left
        · intro w'
          go_simp
          with_reducible rfl
        rotate_left
        · simp only [Act.put, List.setIfInBounds_toArray, List.set_cons_zero, List.set_cons_succ, i64_w, i32_w]
          rfl
        refine pure_ (i := 2) (N := some 11) (v := ?_) (a' := ?_) #[true, false, true, false, false, false, false, false, false, false, false, false, false, false, false, false, false, false, false, false, false, false, false, false, false] rfl rfl (any_of HT_.out (by kernel_rfl)) (fun _ _ _ h => h) (Or.inl ⟨by rfl, ?_⟩) ?_ ?_
        rotate_left
        · intro w'
          go_simp
          with_reducible rfl
        rotate_left
        · simp only [Act.put, List.setIfInBounds_toArray, List.set_cons_zero, List.set_cons_succ, i64_w, i32_w]
          rfl
        refine one_ (i := 1) (N := some 10) #[true, true, true, false, false, false, false, false, false, false, false, false, false, false, false, false, false, false, false, false, false, false, false, false, false] rfl rfl (one_of HT_.out (by kernel_rfl)) (by decide) (fun K hK => ?_)
        refine goes_ Try.func12 (by kernel_rfl) rfl #[.string t141] (by rfl) rfl rfl (by (try simp only [List.map_toArray, List.map_cons, List.map_nil]); first | done | rfl | (simp only [List.length_drop, List.length_take]; rfl)) ?_
        with_reducible refine (path_Is.calls t141 t142 _ A5.out).mono ?_
        rintro e w21 ⟨rfl, hb⟩
        refine ⟨_, rfl, ?_⟩
        have n0_ := Aside0.mk (blk_below (g := gb138) (o := .cells #[.int .i64 t139, .string t140] 23 (0, 0)) (by (with_reducible repeat (first | refine blk_drewN ?_ _ | refine blk_drew ?_ | refine blk_alloc ?_ _)); exact BK138.out) hb)
        have n1_ := Aside0.mk (below_step (by repeat (first | (with_reducible first | exact HB.out | apply below_alloc | apply pw_below_drewN | apply below_drew1 | refine below_set ?_ GE138.out) | exact HB.out)) hb)
        clear BK138
        clear HB
        have BK138 := n0_
        have HB := n1_
        clear n0_ n1_
        (try clear hb)
        (try clear hb2)
        (try clear hk)
        (try clear hi)
        refine hK.out _ _ ⟨(blk_cell BK138.out 0).trans rfl, (blk_cell BK138.out 1).trans rfl⟩ (fun hHeld => ?_)
        clear hK K
        refine norm_ (a' := ?_) ?_ ?_
        rotate_left
        · show Act.put _ (some 10) _ = _
          simp only [Act.put, List.setIfInBounds_toArray, List.set_cons_zero, List.set_cons_succ, i64_w, i32_w]
          rfl
        refine one_ (i := 3) (N := some 12) #[true, true, true, true, false, false, false, false, false, false, false, false, false, false, false, false, false, false, false, false, false, false, false, false, false] rfl rfl (one_of HT_.out (by kernel_rfl)) (by decide) (fun K hK => ?_)
        refine goes_ Try.func13 (by kernel_rfl) rfl #[.string t141] (by rfl) rfl rfl (by (try simp only [List.map_toArray, List.map_cons, List.map_nil]); first | done | rfl | (simp only [List.length_drop, List.length_take]; rfl)) ?_
        with_reducible refine (tollref03_Is.calls k t141 t143 _ A6.out).mono ?_
        rintro e w' ⟨rfl, ⟨nd, rfl⟩⟩
        refine ⟨_, rfl, ?_⟩
        refine hK.out _ _ ⟨(blk_cell BK138.out 0).trans rfl, (blk_cell BK138.out 1).trans rfl⟩ (fun hHeld => ?_)
        clear hK K
        refine norm_ (a' := ?_) ?_ ?_
        rotate_left
        · show Act.put _ (some 12) _ = _
          simp only [Act.put, List.setIfInBounds_toArray, List.set_cons_zero, List.set_cons_succ, i64_w, i32_w]
          rfl
        refine pure_ (i := 4) (N := some 13) (v := ?_) (a' := ?_) #[true, true, true, true, true, false, false, false, false, false, false, false, false, false, false, false, false, false, false, false, false, false, false, false, false] rfl rfl (any_of HT_.out (by kernel_rfl)) (fun _ _ _ h => h) (Or.inl ⟨by rfl, ?_⟩) ?_ ?_
        rotate_left
        · intro w'
          go_simp
          with_reducible rfl
        rotate_left
        · simp only [Act.put, List.setIfInBounds_toArray, List.set_cons_zero, List.set_cons_succ, i64_w, i32_w]
          rfl
        refine pure_ (i := 5) (N := some 14) (v := ?_) (a' := ?_) #[true, true, true, true, true, true, false, false, false, false, false, false, false, false, false, false, false, false, false, false, false, false, false, false, false] rfl rfl (any_of HT_.out (by kernel_rfl)) (fun _ _ _ h => h) (Or.inl ⟨by rfl, ?_⟩) ?_ ?_
        rotate_left
        · intro w'
          go_simp
          with_reducible rfl
        rotate_left
        · simp only [Act.put, List.setIfInBounds_toArray, List.set_cons_zero, List.set_cons_succ, i64_w, i32_w]
          rfl
        refine take_ (i := 6) (N := some 15) (v := ?_) (a' := ?_) #[true, true, true, true, true, true, true, false, false, false, false, false, false, false, false, false, false, false, false, false, false, false, false, false, false] rfl rfl (take_ofW HT_.out HW_.out (by kernel_rfl)) (fun _ _ _ h => h) (Or.inl ⟨by rfl, ?_⟩) hHeld ?_ ?_
        rotate_left
        · rintro w' ⟨s0, s1⟩
          go_simp
          with_reducible rfl
        rotate_left
        · simp only [Act.put, List.setIfInBounds_toArray, List.set_cons_zero, List.set_cons_succ, i64_w, i32_w]
          rfl
        refine take_ (i := 8) (N := some 17) (v := ?_) (a' := ?_) #[true, true, true, true, true, true, true, false, true, false, false, false, false, false, false, false, false, false, false, false, false, false, false, false, false] rfl rfl (take_ofW HT_.out HW_.out (by kernel_rfl)) (fun _ _ _ h => h) (Or.inl ⟨by rfl, ?_⟩) hHeld ?_ ?_
        rotate_left
        · rintro w' ⟨s0, s1⟩
          go_simp
          with_reducible rfl
        rotate_left
        · simp only [Act.put, List.setIfInBounds_toArray, List.set_cons_zero, List.set_cons_succ, i64_w, i32_w]
          rfl
        refine one_ (i := 7) (N := some 16) #[true, true, true, true, true, true, true, true, true, false, false, false, false, false, false, false, false, false, false, false, false, false, false, false, false] rfl rfl (one_of HT_.out (by kernel_rfl)) (by decide) (fun K hK => ?_)
        refine goes_ Try.func14 (by kernel_rfl) rfl #[.agg #[.int .i64 t139, .string t140]] (by rfl) rfl rfl (by (try simp only [List.map_toArray, List.map_cons, List.map_nil]); first | done | rfl | (simp only [List.length_drop, List.length_take]; rfl)) ?_
        with_reducible refine (path_May.calls t139 t140 t144 _ A8.out).mono ?_
        rintro e w22 ⟨rfl, hb⟩
        refine ⟨_, rfl, ?_⟩
        have n0_ := Aside0.mk (blk_below (g := gb138) (o := .cells #[.int .i64 t139, .string t140] 23 (0, 0)) (by (with_reducible repeat (first | refine blk_drewN ?_ _ | refine blk_drew ?_ | refine blk_alloc ?_ _)); exact BK138.out) hb)
        have n1_ := Aside0.mk (below_step (by repeat (first | (with_reducible first | exact HB.out | apply below_alloc | apply pw_below_drewN | apply below_drew1 | refine below_set ?_ GE138.out) | exact HB.out)) hb)
        clear BK138
        clear HB
        have BK138 := n0_
        have HB := n1_
        clear n0_ n1_
        (try clear hb)
        (try clear hb2)
        (try clear hk)
        (try clear hi)
        refine hK.out _ _ ⟨(blk_cell BK138.out 0).trans rfl, (blk_cell BK138.out 1).trans rfl⟩ (fun hHeld => ?_)
        clear hK K
        refine norm_ (a' := ?_) ?_ ?_
        rotate_left
        · show Act.put _ (some 16) _ = _
          simp only [Act.put, List.setIfInBounds_toArray, List.set_cons_zero, List.set_cons_succ, i64_w, i32_w]
          rfl
        refine one_ (i := 9) (N := some 18) #[true, true, true, true, true, true, true, true, true, true, false, false, false, false, false, false, false, false, false, false, false, false, false, false, false] rfl rfl (one_of HT_.out (by kernel_rfl)) (by decide) (fun K hK => ?_)
        refine goes_ Try.func15 (by kernel_rfl) rfl #[.agg #[.int .i64 t139, .string t140]] (by rfl) rfl rfl (by (try simp only [List.map_toArray, List.map_cons, List.map_nil]); first | done | rfl | (simp only [List.length_drop, List.length_take]; rfl)) ?_
        with_reducible refine (tollref03_May.calls k t139 t140 t145 _ A9.out).mono ?_
        rintro e w23 ⟨rfl, hb⟩
        refine ⟨_, rfl, ?_⟩
        have n0_ := Aside0.mk (blk_below (g := gb138) (o := .cells #[.int .i64 t139, .string t140] 23 (0, 0)) (by (with_reducible repeat (first | refine blk_drewN ?_ _ | refine blk_drew ?_ | refine blk_alloc ?_ _)); exact BK138.out) hb)
        have n1_ := Aside0.mk (below_step (by repeat (first | (with_reducible first | exact HB.out | apply below_alloc | apply pw_below_drewN | apply below_drew1 | refine below_set ?_ GE138.out) | exact HB.out)) hb)
        clear BK138
        clear HB
        have BK138 := n0_
        have HB := n1_
        clear n0_ n1_
        (try clear hb)
        (try clear hb2)
        (try clear hk)
        (try clear hi)
        refine hK.out _ _ ⟨(blk_cell BK138.out 0).trans rfl, (blk_cell BK138.out 1).trans rfl⟩ (fun hHeld => ?_)
        clear hK K
        refine norm_ (a' := ?_) ?_ ?_
        rotate_left
        · show Act.put _ (some 18) _ = _
          simp only [Act.put, List.setIfInBounds_toArray, List.set_cons_zero, List.set_cons_succ, i64_w, i32_w]
          rfl
        refine pure_ (i := 10) (N := some 19) (v := ?_) (a' := ?_) #[true, true, true, true, true, true, true, true, true, true, true, false, false, false, false, false, false, false, false, false, false, false, false, false, false] rfl rfl (any_of HT_.out (by kernel_rfl)) (fun _ _ _ h => h) (Or.inl ⟨by rfl, ?_⟩) ?_ ?_
        rotate_left
        · intro w'
          go_simp
          with_reducible rfl
        rotate_left
        · simp only [Act.put, List.setIfInBounds_toArray, List.set_cons_zero, List.set_cons_succ, i64_w, i32_w]
          rfl
        refine pure_ (i := 11) (N := some 20) (v := ?_) (a' := ?_) #[true, true, true, true, true, true, true, true, true, true, true, true, false, false, false, false, false, false, false, false, false, false, false, false, false] rfl rfl (any_of HT_.out (by kernel_rfl)) (fun _ _ _ h => h) (Or.inl ⟨by rfl, ?_⟩) ?_ ?_
        rotate_left
        · intro w'
          go_simp
          with_reducible rfl
        rotate_left
        · simp only [Act.put, List.setIfInBounds_toArray, List.set_cons_zero, List.set_cons_succ, i64_w, i32_w]
          rfl
        refine pure_ (i := 12) (N := some 21) (v := ?_) (a' := ?_) #[true, true, true, true, true, true, true, true, true, true, true, true, true, false, false, false, false, false, false, false, false, false, false, false, false] rfl rfl (any_of HT_.out (by kernel_rfl)) (fun _ _ _ h => h) (Or.inl ⟨by rfl, ?_⟩) ?_ ?_
        rotate_left
        · intro w'
          go_simp
          with_reducible rfl
        rotate_left
        · simp only [Act.put, List.setIfInBounds_toArray, List.set_cons_zero, List.set_cons_succ, i64_w, i32_w]
          rfl
        refine pure_ (i := 14) (N := some 23) (v := ?_) (a' := ?_) #[true, true, true, true, true, true, true, true, true, true, true, true, true, false, true, false, false, false, false, false, false, false, false, false, false] rfl rfl (any_of HT_.out (by kernel_rfl)) (fun _ _ _ h => h) (Or.inl ⟨by rfl, ?_⟩) ?_ ?_
        rotate_left
        · intro w'
          go_simp
          with_reducible rfl
        rotate_left
        · simp only [Act.put, List.setIfInBounds_toArray, List.set_cons_zero, List.set_cons_succ, i64_w, i32_w]
          rfl
        refine pure_ (i := 17) (N := some 26) (v := ?_) (a' := ?_) #[true, true, true, true, true, true, true, true, true, true, true, true, true, false, true, false, false, true, false, false, false, false, false, false, false] rfl rfl (any_of HT_.out (by kernel_rfl)) (fun _ _ _ h => h) (Or.inl ⟨by rfl, ?_⟩) ?_ ?_
        rotate_left
        · intro w'
          go_simp
          with_reducible rfl
        rotate_left
        · simp only [Act.put, List.setIfInBounds_toArray, List.set_cons_zero, List.set_cons_succ, i64_w, i32_w]
          rfl
        refine take_ (i := 13) (N := some 22) (v := ?_) (a' := ?_) #[true, true, true, true, true, true, true, true, true, true, true, true, true, true, true, false, false, true, false, false, false, false, false, false, false] rfl rfl (take_ofW HT_.out HW_.out (by kernel_rfl)) (fun _ _ _ h => h) (Or.inl ⟨by rfl, ?_⟩) hHeld ?_ ?_
        rotate_left
        · rintro w' ⟨s0, s1⟩
          go_simp
          with_reducible rfl
        rotate_left
        · simp only [Act.put, List.setIfInBounds_toArray, List.set_cons_zero, List.set_cons_succ, i64_w, i32_w]
          rfl
        refine take_ (i := 16) (N := some 25) (v := ?_) (a' := ?_) #[true, true, true, true, true, true, true, true, true, true, true, true, true, true, true, false, true, true, false, false, false, false, false, false, false] rfl rfl (take_ofW HT_.out HW_.out (by kernel_rfl)) (fun _ _ _ h => h) (Or.inl ⟨by rfl, ?_⟩) hHeld ?_ ?_
        rotate_left
        · rintro w' ⟨s0, s1⟩
          go_simp
          with_reducible rfl
        rotate_left
        · simp only [Act.put, List.setIfInBounds_toArray, List.set_cons_zero, List.set_cons_succ, i64_w, i32_w]
          rfl
        refine one_ (i := 15) (N := some 24) #[true, true, true, true, true, true, true, true, true, true, true, true, true, true, true, true, true, true, false, false, false, false, false, false, false] rfl rfl (one_of HT_.out (by kernel_rfl)) (by decide) (fun K hK => ?_)
        refine goes_ Try.func16 (by kernel_rfl) rfl #[.agg #[.int .i64 t139, .string t140], .string t141] (by rfl) rfl rfl (by (try simp only [List.map_toArray, List.map_cons, List.map_nil]); first | done | rfl | (simp only [List.length_drop, List.length_take]; rfl)) ?_
        with_reducible refine (path_Holds.calls k t139 t140 t141 t146 _ A11.out).mono ?_
        rintro e w24 ⟨rfl, hb⟩
        refine ⟨_, rfl, ?_⟩
        have n0_ := Aside0.mk (blk_below (g := gb138) (o := .cells #[.int .i64 t139, .string t140] 23 (0, 0)) (by (with_reducible repeat (first | refine blk_drewN ?_ _ | refine blk_drew ?_ | refine blk_alloc ?_ _)); exact BK138.out) hb)
        have n1_ := Aside0.mk (below_step (by repeat (first | (with_reducible first | exact HB.out | apply below_alloc | apply pw_below_drewN | apply below_drew1 | refine below_set ?_ GE138.out) | exact HB.out)) hb)
        clear BK138
        clear HB
        have BK138 := n0_
        have HB := n1_
        clear n0_ n1_
        (try clear hb)
        (try clear hb2)
        (try clear hk)
        (try clear hi)
        refine hK.out _ _ ⟨(blk_cell BK138.out 0).trans rfl, (blk_cell BK138.out 1).trans rfl⟩ (fun hHeld => ?_)
        clear hK K
        refine norm_ (a' := ?_) ?_ ?_
        rotate_left
        · show Act.put _ (some 24) _ = _
          simp only [Act.put, List.setIfInBounds_toArray, List.set_cons_zero, List.set_cons_succ, i64_w, i32_w]
          rfl
        refine one_ (i := 18) (N := some 27) #[true, true, true, true, true, true, true, true, true, true, true, true, true, true, true, true, true, true, true, false, false, false, false, false, false] rfl rfl (one_of HT_.out (by kernel_rfl)) (by decide) (fun K hK => ?_)
        refine goes_ Try.func17 (by kernel_rfl) rfl #[.agg #[.int .i64 t139, .string t140], .string t141] (by rfl) rfl rfl (by (try simp only [List.map_toArray, List.map_cons, List.map_nil]); first | done | rfl | (simp only [List.length_drop, List.length_take]; rfl)) ?_
        with_reducible refine (tollref03_Holds.calls k t139 t140 t141 t147 _ A12.out).mono ?_
        rintro e w25 ⟨rfl, hb⟩
        refine ⟨_, rfl, ?_⟩
        have n0_ := Aside0.mk (blk_below (g := gb138) (o := .cells #[.int .i64 t139, .string t140] 23 (0, 0)) (by (with_reducible repeat (first | refine blk_drewN ?_ _ | refine blk_drew ?_ | refine blk_alloc ?_ _)); exact BK138.out) hb)
        have n1_ := Aside0.mk (below_step (by repeat (first | (with_reducible first | exact HB.out | apply below_alloc | apply pw_below_drewN | apply below_drew1 | refine below_set ?_ GE138.out) | exact HB.out)) hb)
        clear BK138
        clear HB
        have BK138 := n0_
        have HB := n1_
        clear n0_ n1_
        (try clear hb)
        (try clear hb2)
        (try clear hk)
        (try clear hi)
        refine hK.out _ _ ⟨(blk_cell BK138.out 0).trans rfl, (blk_cell BK138.out 1).trans rfl⟩ (fun hHeld => ?_)
        clear hK K
        refine norm_ (a' := ?_) ?_ ?_
        rotate_left
        · show Act.put _ (some 27) _ = _
          simp only [Act.put, List.setIfInBounds_toArray, List.set_cons_zero, List.set_cons_succ, i64_w, i32_w]
          rfl
        refine pure_ (i := 19) (N := some 28) (v := ?_) (a' := ?_) #[true, true, true, true, true, true, true, true, true, true, true, true, true, true, true, true, true, true, true, true, false, false, false, false, false] rfl rfl (any_of HT_.out (by kernel_rfl)) (fun _ _ _ h => h) (Or.inl ⟨by rfl, ?_⟩) ?_ ?_
        rotate_left
        · intro w'
          go_simp
          with_reducible rfl
        rotate_left
        · simp only [Act.put, List.setIfInBounds_toArray, List.set_cons_zero, List.set_cons_succ, i64_w, i32_w]
          rfl
        refine pure_ (i := 20) (N := some 29) (v := ?_) (a' := ?_) #[true, true, true, true, true, true, true, true, true, true, true, true, true, true, true, true, true, true, true, true, true, false, false, false, false] rfl rfl (any_of HT_.out (by kernel_rfl)) (fun _ _ _ h => h) (Or.inl ⟨by rfl, ?_⟩) ?_ ?_
        rotate_left
        · intro w'
          go_simp
          with_reducible rfl
        rotate_left
        · simp only [Act.put, List.setIfInBounds_toArray, List.set_cons_zero, List.set_cons_succ, i64_w, i32_w]
          rfl
        refine pure_ (i := 21) (N := some 30) (v := ?_) (a' := ?_) #[true, true, true, true, true, true, true, true, true, true, true, true, true, true, true, true, true, true, true, true, true, true, false, false, false] rfl rfl (any_of HT_.out (by kernel_rfl)) (fun _ _ _ h => h) (Or.inl ⟨by rfl, ?_⟩) ?_ ?_
        rotate_left
        · intro w'
          go_simp
          with_reducible rfl
        rotate_left
        · simp only [Act.put, List.setIfInBounds_toArray, List.set_cons_zero, List.set_cons_succ, i64_w, i32_w]
          rfl
        refine one_ (i := 22) (N := some 31) #[true, true, true, true, true, true, true, true, true, true, true, true, true, true, true, true, true, true, true, true, true, true, true, false, false] rfl rfl (one_of HT_.out (by kernel_rfl)) (by decide) (fun K hK => ?_)
        refine goes_ Try.func18 (by kernel_rfl) rfl #[] (by rfl) rfl rfl (by (try simp only [List.map_toArray, List.map_cons, List.map_nil]); first | done | rfl | (simp only [List.length_drop, List.length_take]; rfl)) ?_
        with_reducible refine (tolllaw03_awake.calls k  t148 _ A14.out).mono ?_
        rintro e w26 ⟨rfl, hb⟩
        refine ⟨_, rfl, ?_⟩
        have n0_ := Aside0.mk (blk_below (g := gb138) (o := .cells #[.int .i64 t139, .string t140] 23 (0, 0)) (by (with_reducible repeat (first | refine blk_drewN ?_ _ | refine blk_drew ?_ | refine blk_alloc ?_ _)); exact BK138.out) hb)
        have n1_ := Aside0.mk (below_step (by repeat (first | (with_reducible first | exact HB.out | apply below_alloc | apply pw_below_drewN | apply below_drew1 | refine below_set ?_ GE138.out) | exact HB.out)) hb)
        clear BK138
        clear HB
        have BK138 := n0_
        have HB := n1_
        clear n0_ n1_
        (try clear hb)
        (try clear hb2)
        (try clear hk)
        (try clear hi)
        refine hK.out _ _ ⟨(blk_cell BK138.out 0).trans rfl, (blk_cell BK138.out 1).trans rfl⟩ (fun hHeld => ?_)
        clear hK K
        refine norm_ (a' := ?_) ?_ ?_
        rotate_left
        · show Act.put _ (some 31) _ = _
          simp only [Act.put, List.setIfInBounds_toArray, List.set_cons_zero, List.set_cons_succ, i64_w, i32_w]
          rfl
        refine pure_ (i := 23) (N := some 32) (v := ?_) (a' := ?_) #[true, true, true, true, true, true, true, true, true, true, true, true, true, true, true, true, true, true, true, true, true, true, true, true, false] rfl rfl (any_of HT_.out (by kernel_rfl)) (fun _ _ _ h => h) (Or.inl ⟨by rfl, ?_⟩) ?_ ?_
        rotate_left
        · intro w'
          go_simp
          with_reducible rfl
        rotate_left
        · simp only [Act.put, List.setIfInBounds_toArray, List.set_cons_zero, List.set_cons_succ, i64_w, i32_w]
          rfl
        refine pure_ (i := 24) (N := some 4) (v := ?_) (a' := ?_) #[true, true, true, true, true, true, true, true, true, true, true, true, true, true, true, true, true, true, true, true, true, true, true, true, true] rfl rfl (any_of HT_.out (by kernel_rfl)) (fun _ _ _ h => h) (Or.inl ⟨by rfl, ?_⟩) ?_ ?_
        rotate_left
        · intro w'
          go_simp
          with_reducible rfl
        rotate_left
        · simp only [Act.put, List.setIfInBounds_toArray, List.set_cons_zero, List.set_cons_succ, i64_w, i32_w]
          rfl
        refine done_ (done_of HT_.out (by kernel_rfl)) ?_
        try go_wp2
        go_ret
        exact ⟨by first | rfl | (simp [errW_none, errW_some] <;> rfl) | (simp [*, errW_none, errW_some] <;> rfl), by repeat (first | (with_reducible first | exact HB.out | apply below_alloc | apply pw_below_drewN | apply below_drew1 | refine below_set ?_ GE138.out) | exact HB.out)⟩
      · rw [if_neg c13] at H
        have c13b0 : (t146 == t147) = false := by simpa using c13
        (try (have c13b1 : decide (t146 = t147) = false := by simpa using c13))
        (try (have c13b2 : (t146 == t147) = false := by simpa using c13))
        (try (have c13b3 : ¬ (t146 = t147) := by simpa using c13))
        clear c13
        exact absurd H (by simp)
    · rw [if_neg c10] at H
      have c10b0 : (t144 == t145) = false := by simpa using c10
      (try (have c10b1 : decide (t144 = t145) = false := by simpa using c10))
      (try (have c10b2 : (t144 == t145) = false := by simpa using c10))
      (try (have c10b3 : ¬ (t144 = t145) := by simpa using c10))
      clear c10
      exact absurd H (by simp)
  · rw [if_neg c7] at H
    have c7b0 : (t142 == t143) = false := by simpa using c7
    (try (have c7b1 : decide (t142 = t143) = false := by simpa using c7))
    (try (have c7b2 : (t142 == t143) = false := by simpa using c7))
    (try (have c7b3 : ¬ (t142 = t143) := by simpa using c7))
    clear c7
    exact absurd H (by simp)

/-- THE ONE PURE STATEMENT of tolllaw03_PathHolds. -/
def tolllaw03_PathHolds.Pure : Prop := ∀ (a0_0 : Int) (a0_1 : ByteArray) (a1 : ByteArray), (((Lit.int .i64 a0_0).wf = true) ∧ (a0_1.size ≤ 140737488351232)) → (a1.size ≤ 140737488351232) → ∃ k, tolllaw03_PathHolds.f k a0_0 a0_1 a1 = some true

/-! ### tolllaw03_PathBacks: function 4 -/
def tolllaw03_PathBacks.j0 : Nat → ByteArray → ByteArray → ByteArray → ByteArray → Bool → Int → ByteArray → Option (Bool)
  | 0, _, _, _, _, _, _, _ => none
  | k + 1, x0, x1, x2, x9, x45, x154000, x154001 => if x45 = true then (none) else ((path_Swap.f k x154000 x154001 x0 x9).bind fun bt159 => (if x0.toList = ([47] : List UInt8) then ((tolllaw03_awake.f k).bind fun t161 => (some t161)) else (if x1.toList = ([47] : List UInt8) then ((tolllaw03_awake.f k).bind fun t162 => (some t162)) else (if bt159.1.toList = x2.toList then (if bt159.2 = 0 then ((tolllaw03_awake.f k).bind fun t163 => (some t163)) else (none)) else (none)))))
def tolllaw03_PathBacks.f (k : Nat) (a0 : ByteArray) (a1 : ByteArray) (a2 : ByteArray) : Option (Bool) := (tolllaw01_Few.f a0).bind fun t149 => ((tolllaw01_Few.f a1).bind fun t150 => ((tolllaw01_Few.f a2).bind fun t151 => ((path_Swap.f k 2 t149 t150 t151).bind fun bt154 => (if bt154.2 = 0 then ((path_Is.f bt154.1).bind fun t157 => (if t157 = true then ((path_Holds.f k 2 t150 bt154.1).bind fun t158 => (tolllaw03_PathBacks.j0 k t149 t150 t151 bt154.1 (!t158) 2 t150)) else (tolllaw03_PathBacks.j0 k t149 t150 t151 bt154.1 true 2 t150))) else (if bt154.1.toList = ([] : List UInt8) then ((tolllaw03_awake.f k).bind fun t156 => (some t156)) else (none))))))
theorem tolllaw03_PathBacks.mono_l : ∀ k, (∀ y0 y1 y2 y3 y4 y5 y6, LeO (tolllaw03_PathBacks.j0 k y0 y1 y2 y3 y4 y5 y6) (tolllaw03_PathBacks.j0 (k + 1) y0 y1 y2 y3 y4 y5 y6))
  | 0 => fun _ _ _ _ _ _ _ r h => by simp [tolllaw03_PathBacks.j0] at h
  | k + 1 => by
    have ih0 := tolllaw03_PathBacks.mono_l k
    · intro y0 y1 y2 y3 y4 y5 y6
      unfold tolllaw03_PathBacks.j0
      repeat' first
      | (with_reducible exact ih0 _ _ _ _ _ _ _)
      | (with_reducible exact path_Holds.mono _ _ _ _)
      | (with_reducible exact path_Swap.mono _ _ _ _ _)
      | (with_reducible exact tolllaw03_awake.mono _)
      | (with_reducible exact LeO.refl _)
      | (with_reducible exact LeO.none _)
      | (with_reducible refine LeO.ite ?_ ?_)
      | (with_reducible refine LeO.bind ?_ (fun _ => ?_))
      | exact ih0 _ _ _ _ _ _ _
      | exact path_Holds.mono _ _ _ _
      | exact path_Swap.mono _ _ _ _ _
      | exact tolllaw03_awake.mono _
      | exact LeO.none _
      | refine LeO.ite ?_ ?_
      | refine LeO.bind ?_ (fun _ => ?_)
theorem tolllaw03_PathBacks.mono : ∀ a0 a1 a2 k, LeO (tolllaw03_PathBacks.f k a0 a1 a2) (tolllaw03_PathBacks.f (k + 1) a0 a1 a2) := by
  intro a0 a1 a2 k
  have ih0 := tolllaw03_PathBacks.mono_l k
  unfold tolllaw03_PathBacks.f
  repeat' first
      | (with_reducible exact ih0 _ _ _ _ _ _ _)
      | (with_reducible exact path_Holds.mono _ _ _ _)
      | (with_reducible exact path_Swap.mono _ _ _ _ _)
      | (with_reducible exact tolllaw03_awake.mono _)
      | (with_reducible exact LeO.refl _)
      | (with_reducible exact LeO.none _)
      | (with_reducible refine LeO.ite ?_ ?_)
      | (with_reducible refine LeO.bind ?_ (fun _ => ?_))
      | exact ih0 _ _ _ _ _ _ _
      | exact path_Holds.mono _ _ _ _
      | exact path_Swap.mono _ _ _ _ _
      | exact tolllaw03_awake.mono _
      | exact LeO.none _
      | refine LeO.ite ?_ ?_
      | refine LeO.bind ?_ (fun _ => ?_)
set_option maxHeartbeats 8000000 in
set_option maxRecDepth 100000 in
theorem tolllaw03_PathBacks.calls (k : Nat) (a0 : ByteArray) (a1 : ByteArray) (a2 : ByteArray) (r : Bool) (w : World) (h : tolllaw03_PathBacks.f k a0 a1 a2 = some r) :
    Calls Try.prog 4 #[.string a0, .string a1, .string a2] w fun e w' => e = .returned (.bool r) ∧ Below w.heap.size w w' := by
  have hu23 := Try.underlying23
  have HB := Aside0.mk (Below.refl w.heap.size w)
  have H : ((tolllaw01_Few.f a0).bind fun t149 => ((tolllaw01_Few.f a1).bind fun t150 => ((tolllaw01_Few.f a2).bind fun t151 => ((path_Swap.f k 2 t149 t150 t151).bind fun bt154 => (if bt154.2 = 0 then ((path_Is.f bt154.1).bind fun t157 => (if t157 = true then ((path_Holds.f k 2 t150 bt154.1).bind fun t158 => (tolllaw03_PathBacks.j0 k t149 t150 t151 bt154.1 (!t158) 2 t150)) else (tolllaw03_PathBacks.j0 k t149 t150 t151 bt154.1 true 2 t150))) else (if bt154.1.toList = ([] : List UInt8) then ((tolllaw03_awake.f k).bind fun t156 => (some t156)) else (none))))))) = some r := h
  clear h
  replace H := Option.bind_eq_some_iff.mp H
  obtain ⟨t149, A40, H⟩ := H
  replace H : ((tolllaw01_Few.f a1).bind fun t150 => ((tolllaw01_Few.f a2).bind fun t151 => ((path_Swap.f k 2 t149 t150 t151).bind fun bt154 => (if bt154.2 = 0 then ((path_Is.f bt154.1).bind fun t157 => (if t157 = true then ((path_Holds.f k 2 t150 bt154.1).bind fun t158 => (tolllaw03_PathBacks.j0 k t149 t150 t151 bt154.1 (!t158) 2 t150)) else (tolllaw03_PathBacks.j0 k t149 t150 t151 bt154.1 true 2 t150))) else (if bt154.1.toList = ([] : List UInt8) then ((tolllaw03_awake.f k).bind fun t156 => (some t156)) else (none)))))) = some r := H
  have A4 := Aside0.mk A40
  clear A40
  replace H := Option.bind_eq_some_iff.mp H
  obtain ⟨t150, A50, H⟩ := H
  replace H : ((tolllaw01_Few.f a2).bind fun t151 => ((path_Swap.f k 2 t149 t150 t151).bind fun bt154 => (if bt154.2 = 0 then ((path_Is.f bt154.1).bind fun t157 => (if t157 = true then ((path_Holds.f k 2 t150 bt154.1).bind fun t158 => (tolllaw03_PathBacks.j0 k t149 t150 t151 bt154.1 (!t158) 2 t150)) else (tolllaw03_PathBacks.j0 k t149 t150 t151 bt154.1 true 2 t150))) else (if bt154.1.toList = ([] : List UInt8) then ((tolllaw03_awake.f k).bind fun t156 => (some t156)) else (none))))) = some r := H
  have A5 := Aside0.mk A50
  clear A50
  replace H := Option.bind_eq_some_iff.mp H
  obtain ⟨t151, A60, H⟩ := H
  replace H : ((path_Swap.f k 2 t149 t150 t151).bind fun bt154 => (if bt154.2 = 0 then ((path_Is.f bt154.1).bind fun t157 => (if t157 = true then ((path_Holds.f k 2 t150 bt154.1).bind fun t158 => (tolllaw03_PathBacks.j0 k t149 t150 t151 bt154.1 (!t158) 2 t150)) else (tolllaw03_PathBacks.j0 k t149 t150 t151 bt154.1 true 2 t150))) else (if bt154.1.toList = ([] : List UInt8) then ((tolllaw03_awake.f k).bind fun t156 => (some t156)) else (none)))) = some r := H
  have A6 := Aside0.mk A60
  clear A60
  replace H := Option.bind_eq_some_iff.mp H
  obtain ⟨⟨t154, t155⟩, A70, H⟩ := H
  replace H : (if t155 = 0 then ((path_Is.f t154).bind fun t157 => (if t157 = true then ((path_Holds.f k 2 t150 t154).bind fun t158 => (tolllaw03_PathBacks.j0 k t149 t150 t151 t154 (!t158) 2 t150)) else (tolllaw03_PathBacks.j0 k t149 t150 t151 t154 true 2 t150))) else (if t154.toList = ([] : List UInt8) then ((tolllaw03_awake.f k).bind fun t156 => (some t156)) else (none))) = some r := H
  have A7 := Aside0.mk A70
  clear A70
  by_cases c8 : t155 = 0
  · rw [if_pos c8] at H
    have c8b0 : (t155 == 0) = true := beq_iff_eq.mpr c8
    have c8b1 : (t155 != 0) = false := bne_eq_false_iff_eq.mpr c8
    clear c8
    have HC9 := Aside0.mk H
    clear H
    go_enter Try.func4, Try.ntmps4
    go_upto_region 6 with (first | ((with_reducible refine gate_callee (f := 11) rfl ?_); refine goesL_ (some 14) rfl rfl Try.func11 (by kernel_rfl) rfl #[.string a0] rfl (by (try simp only [List.map_toArray, List.map_cons, List.map_nil]); first | done | rfl | (simp only [List.length_drop, List.length_take]; rfl)) ?_; (with_reducible refine (tolllaw01_Few.calls a0 t149 _ A4.out).mono ?_); rintro e w' ⟨rfl, ⟨nd, rfl⟩⟩; refine ⟨_, rfl, ?_⟩) | ((with_reducible refine gate_callee (f := 11) rfl ?_); refine goesL_ (some 16) rfl rfl Try.func11 (by kernel_rfl) rfl #[.string a1] rfl (by (try simp only [List.map_toArray, List.map_cons, List.map_nil]); first | done | rfl | (simp only [List.length_drop, List.length_take]; rfl)) ?_; (with_reducible refine (tolllaw01_Few.calls a1 t150 _ A5.out).mono ?_); rintro e w' ⟨rfl, ⟨nd, rfl⟩⟩; refine ⟨_, rfl, ?_⟩) | ((with_reducible refine gate_callee (f := 11) rfl ?_); refine goesL_ (some 18) rfl rfl Try.func11 (by kernel_rfl) rfl #[.string a2] rfl (by (try simp only [List.map_toArray, List.map_cons, List.map_nil]); first | done | rfl | (simp only [List.length_drop, List.length_take]; rfl)) ?_; (with_reducible refine (tolllaw01_Few.calls a2 t151 _ A6.out).mono ?_); rintro e w' ⟨rfl, ⟨nd, rfl⟩⟩; refine ⟨_, rfl, ?_⟩) | ((with_reducible refine gate_dst (N := 7) rfl ?_); refine box_event ?hg (N := 7) ?hd (cs := #[.int .i64 0, .string (⟨#[]⟩ : ByteArray)]) (t := 23) ?hr ?_; (case hd => rfl); (case hg => rfl); (case hr => first | (go_simp; done) | (go_simp; rfl)); intro gb152 hg w10 hbox hb; have n0_ := Aside0.mk (below_step (by repeat (first | (with_reducible first | exact HB.out | apply below_alloc | apply pw_below_drewN | apply below_drew1) | exact HB.out)) hb); have n1_ := Aside0.mk (hbox); have n2_ := Aside0.mk ((by rw [hg]; exact (below_size (by repeat (first | (with_reducible first | exact HB.out | apply below_alloc | apply pw_below_drewN | apply below_drew1) | exact HB.out))) : w.heap.size ≤ gb152)); have n3_ := Aside0.mk ((by rw [hg]; exact (below_size (by repeat (first | (with_reducible first | exact HB.out | apply below_alloc | apply pw_below_drewN | apply below_drew1) | exact HB.out))) : w.heap.size ≤ gb152)); clear HB; have HB := n0_; have BK152 := n1_; have GW152 := n2_; have GE152 := n3_; clear n0_ n1_ n2_ n3_; clear hb hbox hg) | ((with_reducible refine gate_dst (N := 8) rfl ?_); refine box_event ?hg (N := 8) ?hd (cs := #[.int .i64 0, .string (⟨#[]⟩ : ByteArray)]) (t := 23) ?hr ?_; (case hd => rfl); (case hg => rfl); (case hr => first | (go_simp; done) | (go_simp; rfl)); intro gb153 hg w11 hbox hb; have n0_ := Aside0.mk (blk_below (g := gb152) (o := .cells #[.int .i64 0, .string (⟨#[]⟩ : ByteArray)] 23 (0, 0)) (by (with_reducible repeat (first | refine blk_drewN ?_ _ | refine blk_drew ?_ | refine blk_alloc ?_ _)); exact BK152.out) hb); have n1_ := Aside0.mk (below_step (by repeat (first | (with_reducible first | exact HB.out | apply below_alloc | apply pw_below_drewN | apply below_drew1 | refine below_set ?_ GE152.out) | exact HB.out)) hb); have n2_ := Aside0.mk (hbox); have n3_ := Aside0.mk ((by rw [hg]; exact (below_size (by repeat (first | (with_reducible first | exact HB.out | apply below_alloc | apply pw_below_drewN | apply below_drew1 | refine below_set ?_ GE152.out) | exact HB.out))) : w.heap.size ≤ gb153)); have n4_ := Aside0.mk ((by rw [hg]; exact (below_size (by repeat (first | (with_reducible first | exact HB.out | apply below_alloc | apply pw_below_drewN | apply below_drew1 | refine below_set ?_ GE152.out) | exact HB.out))) : w.heap.size ≤ gb153)); have n5_ := Aside0.mk ((by rw [hg]; exact Nat.ne_of_lt (blk_lt (g := gb152) (o := .cells #[.int .i64 0, .string (⟨#[]⟩ : ByteArray)] 23 (0, 0)) (by (with_reducible repeat (first | refine blk_drewN ?_ _ | refine blk_drew ?_ | refine blk_alloc ?_ _)); exact BK152.out)) : gb152 ≠ gb153)); have n6_ := Aside0.mk ((by rw [hg]; exact Nat.ne_of_gt (blk_lt (g := gb152) (o := .cells #[.int .i64 0, .string (⟨#[]⟩ : ByteArray)] 23 (0, 0)) (by (with_reducible repeat (first | refine blk_drewN ?_ _ | refine blk_drew ?_ | refine blk_alloc ?_ _)); exact BK152.out)) : gb153 ≠ gb152)); clear BK152; clear HB; have BK152 := n0_; have HB := n1_; have BK153 := n2_; have GW153 := n3_; have GE153 := n4_; have NB152_153 := n5_; have NB153_152 := n6_; clear n0_ n1_ n2_ n3_ n4_ n5_ n6_; clear hb hbox hg; have hnb12 := NB152_153.out; have hnc12 := NB153_152.out; have hcz13_0 : w11.cell? ⟨gb152, 0, none⟩ = some (.int .i64 0) := (blk_cell BK152.out 0).trans rfl; have hcz13_1 : w11.cell? ⟨gb152, 1, none⟩ = some (.string (⟨#[]⟩ : ByteArray)) := (blk_cell BK152.out 1).trans rfl; have hfz13_0 := blk_frozen BK152.out 0; have hfz13_1 := blk_frozen BK152.out 1; have hcz14_0 : w11.cell? ⟨gb153, 0, none⟩ = some (.int .i64 0) := (blk_cell BK153.out 0).trans rfl; have hcz14_1 : w11.cell? ⟨gb153, 1, none⟩ = some (.string (⟨#[]⟩ : ByteArray)) := (blk_cell BK153.out 1).trans rfl; have hfz14_0 := blk_frozen BK153.out 0; have hfz14_1 := blk_frozen BK153.out 1) | ((with_reducible refine gate_callee (f := 19) rfl ?_); refine goesL_ (some 27) rfl rfl Try.func19 (by kernel_rfl) rfl #[.agg #[.int .i64 2, .string t149], .string t150, .string t151] rfl (by (try simp only [List.map_toArray, List.map_cons, List.map_nil]); first | done | rfl | (simp only [List.length_drop, List.length_take]; rfl)) ?_; (with_reducible refine (path_Swap.calls k 2 t149 t150 t151 t154 t155 _ A7.out).mono ?_); rintro e w15 ⟨rfl, hb⟩; refine ⟨_, rfl, ?_⟩; have n0_ := Aside0.mk (blk_below (g := gb152) (o := .cells #[.int .i64 2, .string t149] 23 (0, 0)) (by (with_reducible repeat (first | refine blk_drewN ?_ _ | refine blk_drew ?_ | refine blk_alloc ?_ _)); refine blk_far ?_ NB152_153.out _; (with_reducible repeat (first | refine blk_drewN ?_ _ | refine blk_drew ?_ | refine blk_alloc ?_ _)); refine blk_far ?_ NB152_153.out _; (with_reducible repeat (first | refine blk_drewN ?_ _ | refine blk_drew ?_ | refine blk_alloc ?_ _)); refine blk_put (cs := #[.int .i64 2, .string (⟨#[]⟩ : ByteArray)]) ?_ 1 _ rfl; (with_reducible repeat (first | refine blk_drewN ?_ _ | refine blk_drew ?_ | refine blk_alloc ?_ _)); refine blk_put (cs := #[.int .i64 0, .string (⟨#[]⟩ : ByteArray)]) ?_ 0 _ rfl; (with_reducible repeat (first | refine blk_drewN ?_ _ | refine blk_drew ?_ | refine blk_alloc ?_ _)); exact BK152.out) hb); have n1_ := Aside0.mk (blk_below (g := gb153) (o := .cells #[.int .i64 2, .string t150] 23 (0, 0)) (by (with_reducible repeat (first | refine blk_drewN ?_ _ | refine blk_drew ?_ | refine blk_alloc ?_ _)); refine blk_put (cs := #[.int .i64 2, .string (⟨#[]⟩ : ByteArray)]) ?_ 1 _ rfl; (with_reducible repeat (first | refine blk_drewN ?_ _ | refine blk_drew ?_ | refine blk_alloc ?_ _)); refine blk_put (cs := #[.int .i64 0, .string (⟨#[]⟩ : ByteArray)]) ?_ 0 _ rfl; (with_reducible repeat (first | refine blk_drewN ?_ _ | refine blk_drew ?_ | refine blk_alloc ?_ _)); refine blk_far ?_ NB153_152.out _; (with_reducible repeat (first | refine blk_drewN ?_ _ | refine blk_drew ?_ | refine blk_alloc ?_ _)); refine blk_far ?_ NB153_152.out _; (with_reducible repeat (first | refine blk_drewN ?_ _ | refine blk_drew ?_ | refine blk_alloc ?_ _)); exact BK153.out) hb); have n2_ := Aside0.mk (below_step (by repeat (first | (with_reducible first | exact HB.out | apply below_alloc | apply pw_below_drewN | apply below_drew1 | refine below_set ?_ GE152.out | refine below_set ?_ GE153.out) | exact HB.out)) hb); clear BK152; clear BK153; clear HB; have BK152 := n0_; have BK153 := n1_; have HB := n2_; clear n0_ n1_ n2_; (try clear hb); (try clear hb2); (try clear hk); (try clear hi)))
    (try simp only [Act.put, List.setIfInBounds_toArray, List.set_cons_zero, List.set_cons_succ])
    go_cut [45] (fun v45 wc => ∃ (kq : Nat) (x45_8 : Bool), v45 = .bool x45_8 ∧ Aside0 (tolllaw03_PathBacks.j0 kq t149 t150 t151 t154 x45_8 2 t150 = some r) ∧ Aside0 (kq ≤ k) ∧ Aside0 (wc.heap[gb152]? = some (.cells #[.int .i64 2, .string t149] 23 (0, 0))) ∧ Aside0 (wc.heap[gb153]? = some (.cells #[.int .i64 2, .string t150] 23 (0, 0))) ∧ Aside0 (Below w.heap.size w wc))
    case first =>
      have H := HC9.out
      clear HC9
      replace H := Option.bind_eq_some_iff.mp H
      obtain ⟨t157, A160, H⟩ := H
      replace H : (if t157 = true then ((path_Holds.f k 2 t150 t154).bind fun t158 => (tolllaw03_PathBacks.j0 k t149 t150 t151 t154 (!t158) 2 t150)) else (tolllaw03_PathBacks.j0 k t149 t150 t151 t154 true 2 t150)) = some r := H
      have A16 := Aside0.mk A160
      clear A160
      by_cases c17 : t157 = true
      · subst c17
        have H1 : ((path_Holds.f k 2 t150 t154).bind fun t158 => (tolllaw03_PathBacks.j0 k t149 t150 t151 t154 (!t158) 2 t150)) = some r := by rw [if_pos rfl] at H; exact H
        clear H
        have H := H1
        clear H1
        replace H := Option.bind_eq_some_iff.mp H
        obtain ⟨t158, A180, H⟩ := H
        replace H : (tolllaw03_PathBacks.j0 k t149 t150 t151 t154 (!t158) 2 t150) = some r := H
        have A18 := Aside0.mk A180
        clear A180
        have H' := Aside0.mk H
        clear H
        go_wp2_with (first | ((with_reducible refine gate_callee (f := 12) rfl ?_); refine goesL_ (some 38) rfl rfl Try.func12 (by kernel_rfl) rfl #[.string t154] rfl (by (try simp only [List.map_toArray, List.map_cons, List.map_nil]); first | done | rfl | (simp only [List.length_drop, List.length_take]; rfl)) ?_; (with_reducible refine (path_Is.calls t154 true _ A16.out).mono ?_); rintro e w19 ⟨rfl, hb⟩; refine ⟨_, rfl, ?_⟩; have n0_ := Aside0.mk (blk_below (g := gb152) (o := .cells #[.int .i64 2, .string t149] 23 (0, 0)) (by (with_reducible repeat (first | refine blk_drewN ?_ _ | refine blk_drew ?_ | refine blk_alloc ?_ _)); exact BK152.out) hb); have n1_ := Aside0.mk (blk_below (g := gb153) (o := .cells #[.int .i64 2, .string t150] 23 (0, 0)) (by (with_reducible repeat (first | refine blk_drewN ?_ _ | refine blk_drew ?_ | refine blk_alloc ?_ _)); exact BK153.out) hb); have n2_ := Aside0.mk (below_step (by repeat (first | (with_reducible first | exact HB.out | apply below_alloc | apply pw_below_drewN | apply below_drew1 | refine below_set ?_ GE152.out | refine below_set ?_ GE153.out) | exact HB.out)) hb); clear BK152; clear BK153; clear HB; have BK152 := n0_; have BK153 := n1_; have HB := n2_; clear n0_ n1_ n2_; (try clear hb); (try clear hb2); (try clear hk); (try clear hi); have hnb20 := NB153_152.out; have hnc20 := NB152_153.out; have hcz21_0 : w19.cell? ⟨gb153, 0, none⟩ = some (.int .i64 2) := (blk_cell BK153.out 0).trans rfl; have hcz21_1 : w19.cell? ⟨gb153, 1, none⟩ = some (.string t150) := (blk_cell BK153.out 1).trans rfl; have hfz21_0 := blk_frozen BK153.out 0; have hfz21_1 := blk_frozen BK153.out 1) | (go_at_call 16; (with_reducible refine (path_Holds.calls k 2 t150 t154 t158 _ A18.out).mono ?_); rintro e w22 ⟨rfl, hb⟩; have n0_ := Aside0.mk (blk_below (g := gb152) (o := .cells #[.int .i64 2, .string t149] 23 (0, 0)) (by (with_reducible repeat (first | refine blk_drewN ?_ _ | refine blk_drew ?_ | refine blk_alloc ?_ _)); exact BK152.out) hb); have n1_ := Aside0.mk (blk_below (g := gb153) (o := .cells #[.int .i64 2, .string t150] 23 (0, 0)) (by (with_reducible repeat (first | refine blk_drewN ?_ _ | refine blk_drew ?_ | refine blk_alloc ?_ _)); exact BK153.out) hb); have n2_ := Aside0.mk (below_step (by repeat (first | (with_reducible first | exact HB.out | apply below_alloc | apply pw_below_drewN | apply below_drew1 | refine below_set ?_ GE152.out | refine below_set ?_ GE153.out) | exact HB.out)) hb); clear BK152; clear BK153; clear HB; have BK152 := n0_; have BK153 := n1_; have HB := n2_; clear n0_ n1_ n2_; (try clear hb); (try clear hb2); (try clear hk); (try clear hi)))
        go_meet
        case rel => exact ⟨_, (!t158), (by first | rfl | (simp; done) | (simp [*]; done)), H', ⟨by first | omega | exact Nat.le_refl _⟩, ⟨by (with_reducible repeat (first | refine blk_drewN ?_ _ | refine blk_drew ?_ | refine blk_alloc ?_ _)); exact BK152.out⟩, ⟨by (with_reducible repeat (first | refine blk_drewN ?_ _ | refine blk_drew ?_ | refine blk_alloc ?_ _)); exact BK153.out⟩, ⟨by repeat (first | (with_reducible first | exact HB.out | apply below_alloc | apply pw_below_drewN | apply below_drew1 | refine below_set ?_ GE152.out | refine below_set ?_ GE153.out) | exact HB.out)⟩⟩
      · replace c17 := Bool.eq_false_iff.mpr c17
        subst c17
        have H1 : (tolllaw03_PathBacks.j0 k t149 t150 t151 t154 true 2 t150) = some r := by rw [if_neg (show ¬ (false = true) by decide)] at H; exact H
        clear H
        have H := H1
        clear H1
        have H' := Aside0.mk H
        clear H
        go_wp2_with (first | ((with_reducible refine gate_callee (f := 12) rfl ?_); refine goesL_ (some 38) rfl rfl Try.func12 (by kernel_rfl) rfl #[.string t154] rfl (by (try simp only [List.map_toArray, List.map_cons, List.map_nil]); first | done | rfl | (simp only [List.length_drop, List.length_take]; rfl)) ?_; (with_reducible refine (path_Is.calls t154 false _ A16.out).mono ?_); rintro e w23 ⟨rfl, hb⟩; refine ⟨_, rfl, ?_⟩; have n0_ := Aside0.mk (blk_below (g := gb152) (o := .cells #[.int .i64 2, .string t149] 23 (0, 0)) (by (with_reducible repeat (first | refine blk_drewN ?_ _ | refine blk_drew ?_ | refine blk_alloc ?_ _)); exact BK152.out) hb); have n1_ := Aside0.mk (blk_below (g := gb153) (o := .cells #[.int .i64 2, .string t150] 23 (0, 0)) (by (with_reducible repeat (first | refine blk_drewN ?_ _ | refine blk_drew ?_ | refine blk_alloc ?_ _)); exact BK153.out) hb); have n2_ := Aside0.mk (below_step (by repeat (first | (with_reducible first | exact HB.out | apply below_alloc | apply pw_below_drewN | apply below_drew1 | refine below_set ?_ GE152.out | refine below_set ?_ GE153.out) | exact HB.out)) hb); clear BK152; clear BK153; clear HB; have BK152 := n0_; have BK153 := n1_; have HB := n2_; clear n0_ n1_ n2_; (try clear hb); (try clear hb2); (try clear hk); (try clear hi)))
        go_meet
        case rel => exact ⟨_, (true), (by first | rfl | (simp; done) | (simp [*]; done)), H', ⟨by first | omega | exact Nat.le_refl _⟩, ⟨by (with_reducible repeat (first | refine blk_drewN ?_ _ | refine blk_drew ?_ | refine blk_alloc ?_ _)); exact BK152.out⟩, ⟨by (with_reducible repeat (first | refine blk_drewN ?_ _ | refine blk_drew ?_ | refine blk_alloc ?_ _)); exact BK153.out⟩, ⟨by repeat (first | (with_reducible first | exact HB.out | apply below_alloc | apply pw_below_drewN | apply below_drew1 | refine below_set ?_ GE152.out | refine below_set ?_ GE153.out) | exact HB.out)⟩⟩
    case rest =>
      clear HC9
      try clear c1
      try clear c2
      try clear p2
      try clear c4
      try clear c8
      try clear c8b0
      try clear c8b1
      try clear c11
      try clear c12
      try clear c17
      try clear c19
      try clear c20
      try clear hcz13_0
      try clear hcz13_1
      try clear hcz14_0
      try clear hcz14_1
      try clear hcz21_0
      try clear hcz21_1
      try clear hfz13_0
      try clear hfz13_1
      try clear hfz14_0
      try clear hfz14_1
      try clear hfz21_0
      try clear hfz21_1
      obtain ⟨kq, x45_8, rfl, HA, HJ8, BK152, BK153, HB⟩ := hcut
      cases kq with
      | zero => exact absurd HA.out (by simp [tolllaw03_PathBacks.j0])
      | succ kj8 =>
        have H := HA.out
        clear HA
        simp only [tolllaw03_PathBacks.j0] at H
        by_cases c24 : x45_8 = true
        · subst c24
          have H1 : (none) = some r := by rw [if_pos rfl] at H; exact H
          clear H
          have H := H1
          clear H1
          exact absurd H (by simp)
        · replace c24 := Bool.eq_false_iff.mpr c24
          subst c24
          have H1 : ((path_Swap.f kj8 2 t150 t149 t154).bind fun bt159 => (if t149.toList = ([47] : List UInt8) then ((tolllaw03_awake.f kj8).bind fun t161 => (some t161)) else (if t150.toList = ([47] : List UInt8) then ((tolllaw03_awake.f kj8).bind fun t162 => (some t162)) else (if bt159.1.toList = t151.toList then (if bt159.2 = 0 then ((tolllaw03_awake.f kj8).bind fun t163 => (some t163)) else (none)) else (none))))) = some r := by rw [if_neg (show ¬ (false = true) by decide)] at H; exact H
          clear H
          have H := H1
          clear H1
          replace H := Option.bind_eq_some_iff.mp H
          obtain ⟨⟨t159, t160⟩, A250, H⟩ := H
          replace H : (if t149.toList = ([47] : List UInt8) then ((tolllaw03_awake.f kj8).bind fun t161 => (some t161)) else (if t150.toList = ([47] : List UInt8) then ((tolllaw03_awake.f kj8).bind fun t162 => (some t162)) else (if t159.toList = t151.toList then (if t160 = 0 then ((tolllaw03_awake.f kj8).bind fun t163 => (some t163)) else (none)) else (none)))) = some r := H
          have A25 := Aside0.mk A250
          clear A250
          by_cases c26 : t149.toList = ([47] : List UInt8)
          · rw [if_pos c26] at H
            have c26b0 : (t149.toList == ([47] : List UInt8)) = true := beq_iff_eq.mpr c26
            have c26b1 : (t149.toList != ([47] : List UInt8)) = false := bne_eq_false_iff_eq.mpr c26
            clear c26
            replace H := Option.bind_eq_some_iff.mp H
            obtain ⟨t161, A270, H⟩ := H
            replace H : (some t161) = some r := H
            have A27 := Aside0.mk A270
            clear A270
            obtain rfl := Option.some.inj H
            have hnb28 := NB153_152.out
            have hnc28 := NB152_153.out
            have hcz29_0 : wc.cell? ⟨gb153, 0, none⟩ = some (.int .i64 2) := (blk_cell BK153.out 0).trans rfl
            have hcz29_1 : wc.cell? ⟨gb153, 1, none⟩ = some (.string t150) := (blk_cell BK153.out 1).trans rfl
            have hfz29_0 := blk_frozen BK153.out 0
            have hfz29_1 := blk_frozen BK153.out 1
            go_wp2_with (first | ((with_reducible refine gate_callee (f := 19) rfl ?_); refine goesL_ (some 50) rfl rfl Try.func19 (by kernel_rfl) rfl #[.agg #[.int .i64 2, .string t150], .string t149, .string t154] rfl (by (try simp only [List.map_toArray, List.map_cons, List.map_nil]); first | done | rfl | (simp only [List.length_drop, List.length_take]; rfl)) ?_; (with_reducible refine (path_Swap.calls kj8 2 t150 t149 t154 t159 t160 _ A25.out).mono ?_); rintro e w30 ⟨rfl, hb⟩; refine ⟨_, rfl, ?_⟩; have n0_ := Aside0.mk (blk_below (g := gb152) (o := .cells #[.int .i64 2, .string t149] 23 (0, 0)) (by (with_reducible repeat (first | refine blk_drewN ?_ _ | refine blk_drew ?_ | refine blk_alloc ?_ _)); exact BK152.out) hb); have n1_ := Aside0.mk (blk_below (g := gb153) (o := .cells #[.int .i64 2, .string t150] 23 (0, 0)) (by (with_reducible repeat (first | refine blk_drewN ?_ _ | refine blk_drew ?_ | refine blk_alloc ?_ _)); exact BK153.out) hb); have n2_ := Aside0.mk (below_step (by repeat (first | (with_reducible first | exact HB.out | apply below_alloc | apply pw_below_drewN | apply below_drew1 | refine below_set ?_ GE152.out | refine below_set ?_ GE153.out) | exact HB.out)) hb); clear BK152; clear BK153; clear HB; have BK152 := n0_; have BK153 := n1_; have HB := n2_; clear n0_ n1_ n2_; (try clear hb); (try clear hb2); (try clear hk); (try clear hi)) | (go_at_call 18; (with_reducible refine (tolllaw03_awake.calls kj8  t161 _ A27.out).mono ?_); rintro e w31 ⟨rfl, hb⟩; have n0_ := Aside0.mk (blk_below (g := gb152) (o := .cells #[.int .i64 2, .string t149] 23 (0, 0)) (by (with_reducible repeat (first | refine blk_drewN ?_ _ | refine blk_drew ?_ | refine blk_alloc ?_ _)); exact BK152.out) hb); have n1_ := Aside0.mk (blk_below (g := gb153) (o := .cells #[.int .i64 2, .string t150] 23 (0, 0)) (by (with_reducible repeat (first | refine blk_drewN ?_ _ | refine blk_drew ?_ | refine blk_alloc ?_ _)); exact BK153.out) hb); have n2_ := Aside0.mk (below_step (by repeat (first | (with_reducible first | exact HB.out | apply below_alloc | apply pw_below_drewN | apply below_drew1 | refine below_set ?_ GE152.out | refine below_set ?_ GE153.out) | exact HB.out)) hb); clear BK152; clear BK153; clear HB; have BK152 := n0_; have BK153 := n1_; have HB := n2_; clear n0_ n1_ n2_; (try clear hb); (try clear hb2); (try clear hk); (try clear hi)))
            go_ret
            exact ⟨by first | rfl | (simp [errW_none, errW_some] <;> rfl) | (simp [*, errW_none, errW_some] <;> rfl), by repeat (first | (with_reducible first | exact HB.out | apply below_alloc | apply pw_below_drewN | apply below_drew1 | refine below_set ?_ GE152.out | refine below_set ?_ GE153.out) | exact HB.out)⟩
          · rw [if_neg c26] at H
            have c26b0 : (t149.toList == ([47] : List UInt8)) = false := beq_eq_false_iff_ne.mpr c26
            have c26b1 : (t149.toList != ([47] : List UInt8)) = true := bne_iff_ne.mpr c26
            by_cases c32 : t150.toList = ([47] : List UInt8)
            · rw [if_pos c32] at H
              have c32b0 : (t150.toList == ([47] : List UInt8)) = true := beq_iff_eq.mpr c32
              have c32b1 : (t150.toList != ([47] : List UInt8)) = false := bne_eq_false_iff_eq.mpr c32
              clear c32
              replace H := Option.bind_eq_some_iff.mp H
              obtain ⟨t162, A330, H⟩ := H
              replace H : (some t162) = some r := H
              have A33 := Aside0.mk A330
              clear A330
              obtain rfl := Option.some.inj H
              have hnb34 := NB153_152.out
              have hnc34 := NB152_153.out
              have hcz35_0 : wc.cell? ⟨gb153, 0, none⟩ = some (.int .i64 2) := (blk_cell BK153.out 0).trans rfl
              have hcz35_1 : wc.cell? ⟨gb153, 1, none⟩ = some (.string t150) := (blk_cell BK153.out 1).trans rfl
              have hfz35_0 := blk_frozen BK153.out 0
              have hfz35_1 := blk_frozen BK153.out 1
              go_wp2_with (first | ((with_reducible refine gate_callee (f := 19) rfl ?_); refine goesL_ (some 50) rfl rfl Try.func19 (by kernel_rfl) rfl #[.agg #[.int .i64 2, .string t150], .string t149, .string t154] rfl (by (try simp only [List.map_toArray, List.map_cons, List.map_nil]); first | done | rfl | (simp only [List.length_drop, List.length_take]; rfl)) ?_; (with_reducible refine (path_Swap.calls kj8 2 t150 t149 t154 t159 t160 _ A25.out).mono ?_); rintro e w36 ⟨rfl, hb⟩; refine ⟨_, rfl, ?_⟩; have n0_ := Aside0.mk (blk_below (g := gb152) (o := .cells #[.int .i64 2, .string t149] 23 (0, 0)) (by (with_reducible repeat (first | refine blk_drewN ?_ _ | refine blk_drew ?_ | refine blk_alloc ?_ _)); exact BK152.out) hb); have n1_ := Aside0.mk (blk_below (g := gb153) (o := .cells #[.int .i64 2, .string t150] 23 (0, 0)) (by (with_reducible repeat (first | refine blk_drewN ?_ _ | refine blk_drew ?_ | refine blk_alloc ?_ _)); exact BK153.out) hb); have n2_ := Aside0.mk (below_step (by repeat (first | (with_reducible first | exact HB.out | apply below_alloc | apply pw_below_drewN | apply below_drew1 | refine below_set ?_ GE152.out | refine below_set ?_ GE153.out) | exact HB.out)) hb); clear BK152; clear BK153; clear HB; have BK152 := n0_; have BK153 := n1_; have HB := n2_; clear n0_ n1_ n2_; (try clear hb); (try clear hb2); (try clear hk); (try clear hi)) | (go_at_call 18; (with_reducible refine (tolllaw03_awake.calls kj8  t162 _ A33.out).mono ?_); rintro e w37 ⟨rfl, hb⟩; have n0_ := Aside0.mk (blk_below (g := gb152) (o := .cells #[.int .i64 2, .string t149] 23 (0, 0)) (by (with_reducible repeat (first | refine blk_drewN ?_ _ | refine blk_drew ?_ | refine blk_alloc ?_ _)); exact BK152.out) hb); have n1_ := Aside0.mk (blk_below (g := gb153) (o := .cells #[.int .i64 2, .string t150] 23 (0, 0)) (by (with_reducible repeat (first | refine blk_drewN ?_ _ | refine blk_drew ?_ | refine blk_alloc ?_ _)); exact BK153.out) hb); have n2_ := Aside0.mk (below_step (by repeat (first | (with_reducible first | exact HB.out | apply below_alloc | apply pw_below_drewN | apply below_drew1 | refine below_set ?_ GE152.out | refine below_set ?_ GE153.out) | exact HB.out)) hb); clear BK152; clear BK153; clear HB; have BK152 := n0_; have BK153 := n1_; have HB := n2_; clear n0_ n1_ n2_; (try clear hb); (try clear hb2); (try clear hk); (try clear hi)))
              go_ret
              exact ⟨by first | rfl | (simp [errW_none, errW_some] <;> rfl) | (simp [*, errW_none, errW_some] <;> rfl), by repeat (first | (with_reducible first | exact HB.out | apply below_alloc | apply pw_below_drewN | apply below_drew1 | refine below_set ?_ GE152.out | refine below_set ?_ GE153.out) | exact HB.out)⟩
            · rw [if_neg c32] at H
              have c32b0 : (t150.toList == ([47] : List UInt8)) = false := beq_eq_false_iff_ne.mpr c32
              have c32b1 : (t150.toList != ([47] : List UInt8)) = true := bne_iff_ne.mpr c32
              by_cases c38 : t159.toList = t151.toList
              · rw [if_pos c38] at H
                have c38b0 : (t159.toList == t151.toList) = true := beq_iff_eq.mpr c38
                have c38b1 : (t159.toList != t151.toList) = false := bne_eq_false_iff_eq.mpr c38
                clear c38
                by_cases c39 : t160 = 0
                · rw [if_pos c39] at H
                  have c39b0 : (t160 == 0) = true := beq_iff_eq.mpr c39
                  have c39b1 : (t160 != 0) = false := bne_eq_false_iff_eq.mpr c39
                  clear c39
                  replace H := Option.bind_eq_some_iff.mp H
                  obtain ⟨t163, A400, H⟩ := H
                  replace H : (some t163) = some r := H
                  have A40 := Aside0.mk A400
                  clear A400
                  obtain rfl := Option.some.inj H
                  have hnb41 := NB153_152.out
                  have hnc41 := NB152_153.out
                  have hcz42_0 : wc.cell? ⟨gb153, 0, none⟩ = some (.int .i64 2) := (blk_cell BK153.out 0).trans rfl
                  have hcz42_1 : wc.cell? ⟨gb153, 1, none⟩ = some (.string t150) := (blk_cell BK153.out 1).trans rfl
                  have hfz42_0 := blk_frozen BK153.out 0
                  have hfz42_1 := blk_frozen BK153.out 1
                  go_wp2_with (first | ((with_reducible refine gate_callee (f := 19) rfl ?_); refine goesL_ (some 50) rfl rfl Try.func19 (by kernel_rfl) rfl #[.agg #[.int .i64 2, .string t150], .string t149, .string t154] rfl (by (try simp only [List.map_toArray, List.map_cons, List.map_nil]); first | done | rfl | (simp only [List.length_drop, List.length_take]; rfl)) ?_; (with_reducible refine (path_Swap.calls kj8 2 t150 t149 t154 t159 t160 _ A25.out).mono ?_); rintro e w43 ⟨rfl, hb⟩; refine ⟨_, rfl, ?_⟩; have n0_ := Aside0.mk (blk_below (g := gb152) (o := .cells #[.int .i64 2, .string t149] 23 (0, 0)) (by (with_reducible repeat (first | refine blk_drewN ?_ _ | refine blk_drew ?_ | refine blk_alloc ?_ _)); exact BK152.out) hb); have n1_ := Aside0.mk (blk_below (g := gb153) (o := .cells #[.int .i64 2, .string t150] 23 (0, 0)) (by (with_reducible repeat (first | refine blk_drewN ?_ _ | refine blk_drew ?_ | refine blk_alloc ?_ _)); exact BK153.out) hb); have n2_ := Aside0.mk (below_step (by repeat (first | (with_reducible first | exact HB.out | apply below_alloc | apply pw_below_drewN | apply below_drew1 | refine below_set ?_ GE152.out | refine below_set ?_ GE153.out) | exact HB.out)) hb); clear BK152; clear BK153; clear HB; have BK152 := n0_; have BK153 := n1_; have HB := n2_; clear n0_ n1_ n2_; (try clear hb); (try clear hb2); (try clear hk); (try clear hi)) | (go_at_call 18; (with_reducible refine (tolllaw03_awake.calls kj8  t163 _ A40.out).mono ?_); rintro e w44 ⟨rfl, hb⟩; have n0_ := Aside0.mk (blk_below (g := gb152) (o := .cells #[.int .i64 2, .string t149] 23 (0, 0)) (by (with_reducible repeat (first | refine blk_drewN ?_ _ | refine blk_drew ?_ | refine blk_alloc ?_ _)); exact BK152.out) hb); have n1_ := Aside0.mk (blk_below (g := gb153) (o := .cells #[.int .i64 2, .string t150] 23 (0, 0)) (by (with_reducible repeat (first | refine blk_drewN ?_ _ | refine blk_drew ?_ | refine blk_alloc ?_ _)); exact BK153.out) hb); have n2_ := Aside0.mk (below_step (by repeat (first | (with_reducible first | exact HB.out | apply below_alloc | apply pw_below_drewN | apply below_drew1 | refine below_set ?_ GE152.out | refine below_set ?_ GE153.out) | exact HB.out)) hb); clear BK152; clear BK153; clear HB; have BK152 := n0_; have BK153 := n1_; have HB := n2_; clear n0_ n1_ n2_; (try clear hb); (try clear hb2); (try clear hk); (try clear hi)))
                  go_ret
                  exact ⟨by first | rfl | (simp [errW_none, errW_some] <;> rfl) | (simp [*, errW_none, errW_some] <;> rfl), by repeat (first | (with_reducible first | exact HB.out | apply below_alloc | apply pw_below_drewN | apply below_drew1 | refine below_set ?_ GE152.out | refine below_set ?_ GE153.out) | exact HB.out)⟩
                · rw [if_neg c39] at H
                  exact absurd H (by simp)
              · rw [if_neg c38] at H
                exact absurd H (by simp)
  · rw [if_neg c8] at H
    have c8b0 : (t155 == 0) = false := beq_eq_false_iff_ne.mpr c8
    have c8b1 : (t155 != 0) = true := bne_iff_ne.mpr c8
    by_cases c45 : t154.toList = ([] : List UInt8)
    · rw [if_pos c45] at H
      have c45b0 : (t154.toList == ([] : List UInt8)) = true := beq_iff_eq.mpr c45
      have c45b1 : (t154.toList != ([] : List UInt8)) = false := bne_eq_false_iff_eq.mpr c45
      clear c45
      replace H := Option.bind_eq_some_iff.mp H
      obtain ⟨t156, A460, H⟩ := H
      replace H : (some t156) = some r := H
      have A46 := Aside0.mk A460
      clear A460
      obtain rfl := Option.some.inj H
      go_enter Try.func4, Try.ntmps4
      go_wp2_with (first | ((with_reducible refine gate_callee (f := 11) rfl ?_); refine goesL_ (some 14) rfl rfl Try.func11 (by kernel_rfl) rfl #[.string a0] rfl (by (try simp only [List.map_toArray, List.map_cons, List.map_nil]); first | done | rfl | (simp only [List.length_drop, List.length_take]; rfl)) ?_; (with_reducible refine (tolllaw01_Few.calls a0 t149 _ A4.out).mono ?_); rintro e w' ⟨rfl, ⟨nd, rfl⟩⟩; refine ⟨_, rfl, ?_⟩) | ((with_reducible refine gate_callee (f := 11) rfl ?_); refine goesL_ (some 16) rfl rfl Try.func11 (by kernel_rfl) rfl #[.string a1] rfl (by (try simp only [List.map_toArray, List.map_cons, List.map_nil]); first | done | rfl | (simp only [List.length_drop, List.length_take]; rfl)) ?_; (with_reducible refine (tolllaw01_Few.calls a1 t150 _ A5.out).mono ?_); rintro e w' ⟨rfl, ⟨nd, rfl⟩⟩; refine ⟨_, rfl, ?_⟩) | ((with_reducible refine gate_callee (f := 11) rfl ?_); refine goesL_ (some 18) rfl rfl Try.func11 (by kernel_rfl) rfl #[.string a2] rfl (by (try simp only [List.map_toArray, List.map_cons, List.map_nil]); first | done | rfl | (simp only [List.length_drop, List.length_take]; rfl)) ?_; (with_reducible refine (tolllaw01_Few.calls a2 t151 _ A6.out).mono ?_); rintro e w' ⟨rfl, ⟨nd, rfl⟩⟩; refine ⟨_, rfl, ?_⟩) | ((with_reducible refine gate_dst (N := 7) rfl ?_); refine box_event ?hg (N := 7) ?hd (cs := #[.int .i64 0, .string (⟨#[]⟩ : ByteArray)]) (t := 23) ?hr ?_; (case hd => rfl); (case hg => rfl); (case hr => first | (go_simp; done) | (go_simp; rfl)); intro gb152 hg w47 hbox hb; have n0_ := Aside0.mk (below_step (by repeat (first | (with_reducible first | exact HB.out | apply below_alloc | apply pw_below_drewN | apply below_drew1) | exact HB.out)) hb); have n1_ := Aside0.mk (hbox); have n2_ := Aside0.mk ((by rw [hg]; exact (below_size (by repeat (first | (with_reducible first | exact HB.out | apply below_alloc | apply pw_below_drewN | apply below_drew1) | exact HB.out))) : w.heap.size ≤ gb152)); have n3_ := Aside0.mk ((by rw [hg]; exact (below_size (by repeat (first | (with_reducible first | exact HB.out | apply below_alloc | apply pw_below_drewN | apply below_drew1) | exact HB.out))) : w.heap.size ≤ gb152)); clear HB; have HB := n0_; have BK152 := n1_; have GW152 := n2_; have GE152 := n3_; clear n0_ n1_ n2_ n3_; clear hb hbox hg) | ((with_reducible refine gate_dst (N := 8) rfl ?_); refine box_event ?hg (N := 8) ?hd (cs := #[.int .i64 0, .string (⟨#[]⟩ : ByteArray)]) (t := 23) ?hr ?_; (case hd => rfl); (case hg => rfl); (case hr => first | (go_simp; done) | (go_simp; rfl)); intro gb153 hg w48 hbox hb; have n0_ := Aside0.mk (blk_below (g := gb152) (o := .cells #[.int .i64 0, .string (⟨#[]⟩ : ByteArray)] 23 (0, 0)) (by (with_reducible repeat (first | refine blk_drewN ?_ _ | refine blk_drew ?_ | refine blk_alloc ?_ _)); exact BK152.out) hb); have n1_ := Aside0.mk (below_step (by repeat (first | (with_reducible first | exact HB.out | apply below_alloc | apply pw_below_drewN | apply below_drew1 | refine below_set ?_ GE152.out) | exact HB.out)) hb); have n2_ := Aside0.mk (hbox); have n3_ := Aside0.mk ((by rw [hg]; exact (below_size (by repeat (first | (with_reducible first | exact HB.out | apply below_alloc | apply pw_below_drewN | apply below_drew1 | refine below_set ?_ GE152.out) | exact HB.out))) : w.heap.size ≤ gb153)); have n4_ := Aside0.mk ((by rw [hg]; exact (below_size (by repeat (first | (with_reducible first | exact HB.out | apply below_alloc | apply pw_below_drewN | apply below_drew1 | refine below_set ?_ GE152.out) | exact HB.out))) : w.heap.size ≤ gb153)); have n5_ := Aside0.mk ((by rw [hg]; exact Nat.ne_of_lt (blk_lt (g := gb152) (o := .cells #[.int .i64 0, .string (⟨#[]⟩ : ByteArray)] 23 (0, 0)) (by (with_reducible repeat (first | refine blk_drewN ?_ _ | refine blk_drew ?_ | refine blk_alloc ?_ _)); exact BK152.out)) : gb152 ≠ gb153)); have n6_ := Aside0.mk ((by rw [hg]; exact Nat.ne_of_gt (blk_lt (g := gb152) (o := .cells #[.int .i64 0, .string (⟨#[]⟩ : ByteArray)] 23 (0, 0)) (by (with_reducible repeat (first | refine blk_drewN ?_ _ | refine blk_drew ?_ | refine blk_alloc ?_ _)); exact BK152.out)) : gb153 ≠ gb152)); clear BK152; clear HB; have BK152 := n0_; have HB := n1_; have BK153 := n2_; have GW153 := n3_; have GE153 := n4_; have NB152_153 := n5_; have NB153_152 := n6_; clear n0_ n1_ n2_ n3_ n4_ n5_ n6_; clear hb hbox hg; have hnb49 := NB152_153.out; have hnc49 := NB153_152.out; have hcz50_0 : w48.cell? ⟨gb152, 0, none⟩ = some (.int .i64 0) := (blk_cell BK152.out 0).trans rfl; have hcz50_1 : w48.cell? ⟨gb152, 1, none⟩ = some (.string (⟨#[]⟩ : ByteArray)) := (blk_cell BK152.out 1).trans rfl; have hfz50_0 := blk_frozen BK152.out 0; have hfz50_1 := blk_frozen BK152.out 1; have hcz51_0 : w48.cell? ⟨gb153, 0, none⟩ = some (.int .i64 0) := (blk_cell BK153.out 0).trans rfl; have hcz51_1 : w48.cell? ⟨gb153, 1, none⟩ = some (.string (⟨#[]⟩ : ByteArray)) := (blk_cell BK153.out 1).trans rfl; have hfz51_0 := blk_frozen BK153.out 0; have hfz51_1 := blk_frozen BK153.out 1) | ((with_reducible refine gate_callee (f := 19) rfl ?_); refine goesL_ (some 27) rfl rfl Try.func19 (by kernel_rfl) rfl #[.agg #[.int .i64 2, .string t149], .string t150, .string t151] rfl (by (try simp only [List.map_toArray, List.map_cons, List.map_nil]); first | done | rfl | (simp only [List.length_drop, List.length_take]; rfl)) ?_; (with_reducible refine (path_Swap.calls k 2 t149 t150 t151 t154 t155 _ A7.out).mono ?_); rintro e w52 ⟨rfl, hb⟩; refine ⟨_, rfl, ?_⟩; have n0_ := Aside0.mk (blk_below (g := gb152) (o := .cells #[.int .i64 2, .string t149] 23 (0, 0)) (by (with_reducible repeat (first | refine blk_drewN ?_ _ | refine blk_drew ?_ | refine blk_alloc ?_ _)); refine blk_far ?_ NB152_153.out _; (with_reducible repeat (first | refine blk_drewN ?_ _ | refine blk_drew ?_ | refine blk_alloc ?_ _)); refine blk_far ?_ NB152_153.out _; (with_reducible repeat (first | refine blk_drewN ?_ _ | refine blk_drew ?_ | refine blk_alloc ?_ _)); refine blk_put (cs := #[.int .i64 2, .string (⟨#[]⟩ : ByteArray)]) ?_ 1 _ rfl; (with_reducible repeat (first | refine blk_drewN ?_ _ | refine blk_drew ?_ | refine blk_alloc ?_ _)); refine blk_put (cs := #[.int .i64 0, .string (⟨#[]⟩ : ByteArray)]) ?_ 0 _ rfl; (with_reducible repeat (first | refine blk_drewN ?_ _ | refine blk_drew ?_ | refine blk_alloc ?_ _)); exact BK152.out) hb); have n1_ := Aside0.mk (blk_below (g := gb153) (o := .cells #[.int .i64 2, .string t150] 23 (0, 0)) (by (with_reducible repeat (first | refine blk_drewN ?_ _ | refine blk_drew ?_ | refine blk_alloc ?_ _)); refine blk_put (cs := #[.int .i64 2, .string (⟨#[]⟩ : ByteArray)]) ?_ 1 _ rfl; (with_reducible repeat (first | refine blk_drewN ?_ _ | refine blk_drew ?_ | refine blk_alloc ?_ _)); refine blk_put (cs := #[.int .i64 0, .string (⟨#[]⟩ : ByteArray)]) ?_ 0 _ rfl; (with_reducible repeat (first | refine blk_drewN ?_ _ | refine blk_drew ?_ | refine blk_alloc ?_ _)); refine blk_far ?_ NB153_152.out _; (with_reducible repeat (first | refine blk_drewN ?_ _ | refine blk_drew ?_ | refine blk_alloc ?_ _)); refine blk_far ?_ NB153_152.out _; (with_reducible repeat (first | refine blk_drewN ?_ _ | refine blk_drew ?_ | refine blk_alloc ?_ _)); exact BK153.out) hb); have n2_ := Aside0.mk (below_step (by repeat (first | (with_reducible first | exact HB.out | apply below_alloc | apply pw_below_drewN | apply below_drew1 | refine below_set ?_ GE152.out | refine below_set ?_ GE153.out) | exact HB.out)) hb); clear BK152; clear BK153; clear HB; have BK152 := n0_; have BK153 := n1_; have HB := n2_; clear n0_ n1_ n2_; (try clear hb); (try clear hb2); (try clear hk); (try clear hi)) | (go_at_call 18; (with_reducible refine (tolllaw03_awake.calls k  t156 _ A46.out).mono ?_); rintro e w53 ⟨rfl, hb⟩; have n0_ := Aside0.mk (blk_below (g := gb152) (o := .cells #[.int .i64 2, .string t149] 23 (0, 0)) (by (with_reducible repeat (first | refine blk_drewN ?_ _ | refine blk_drew ?_ | refine blk_alloc ?_ _)); exact BK152.out) hb); have n1_ := Aside0.mk (blk_below (g := gb153) (o := .cells #[.int .i64 2, .string t150] 23 (0, 0)) (by (with_reducible repeat (first | refine blk_drewN ?_ _ | refine blk_drew ?_ | refine blk_alloc ?_ _)); exact BK153.out) hb); have n2_ := Aside0.mk (below_step (by repeat (first | (with_reducible first | exact HB.out | apply below_alloc | apply pw_below_drewN | apply below_drew1 | refine below_set ?_ GE152.out | refine below_set ?_ GE153.out) | exact HB.out)) hb); clear BK152; clear BK153; clear HB; have BK152 := n0_; have BK153 := n1_; have HB := n2_; clear n0_ n1_ n2_; (try clear hb); (try clear hb2); (try clear hk); (try clear hi)))
      go_ret
      exact ⟨by first | rfl | (simp [errW_none, errW_some] <;> rfl) | (simp [*, errW_none, errW_some] <;> rfl), by repeat (first | (with_reducible first | exact HB.out | apply below_alloc | apply pw_below_drewN | apply below_drew1 | refine below_set ?_ GE152.out | refine below_set ?_ GE153.out) | exact HB.out)⟩
    · rw [if_neg c45] at H
      exact absurd H (by simp)

/-- THE ONE PURE STATEMENT of tolllaw03_PathBacks: yours. -/
def tolllaw03_PathBacks.Pure : Prop := ∀ (a0 : ByteArray) (a1 : ByteArray) (a2 : ByteArray), a0.size ≤ 140737488351232 → a1.size ≤ 140737488351232 → a2.size ≤ 140737488351232 → ∃ k, tolllaw03_PathBacks.f k a0 a1 a2 = some true
theorem tolllaw03_PathBacks.walk (P : tolllaw03_PathBacks.Pure) (a0 : ByteArray) (a1 : ByteArray) (a2 : ByteArray) (w : World) (w0 : a0.size ≤ 140737488351232) (w1 : a1.size ≤ 140737488351232) (w2 : a2.size ≤ 140737488351232) :
    Calls Try.prog 4 #[.string a0, .string a1, .string a2] w fun e w' => e = .returned (.bool true) ∧ Below w.heap.size w w' := by
  obtain ⟨k, h⟩ := P a0 a1 a2 w0 w1 w2
  refine (tolllaw03_PathBacks.calls k a0 a1 a2 true w h).mono ?_
  rintro e w' ⟨rfl, hd⟩
  exact ⟨rfl, hd⟩

end Go.Proofs.Ytfnckickbpmcaaa.P
