-- written by wip/tool/hprint.py of this repo: the kit's print, with contracts by hand joined; Lean checks it.
import Derived.Test.YtompldnifiieaaaDoorPx0
import Derived.Test.YtompldnifiieaaaDoorPx4
import Derived.Test.YtompldnifiieaaaDoorPx5
namespace Go.Proofs.YtompldnifiieaaaDoor.P
open Go.RowKit Go.Proofs.YtompldnifiieaaaDoorW.PrintWords Go.Proofs.YtompldnifiieaaaDoorW.PrintLast Go.Proofs.YtompldnifiieaaaDoorW.PrintMore
attribute [local go_sem] max2_int min2_int max_two min_two max_three min_three max_four min_four   -- for this text's walks alone
set_option linter.unusedVariables false
set_option linter.unusedSimpArgs false

/-! ### rule_First: function 21 -/
noncomputable def rule_First.l0 : Nat → List (S26) → Int → List (S26) → Int → Int → ByteArray → ByteArray → ByteArray → List (S49) → List (S49) → Option (Int × Bool)
 | 0, _, _, _, _, _, _, _, _, _, _ => none
 | k + 1, x0, x6, x9, x10, x11, x180000, x180001, x180002, x180003, x180004 => if x11 < x10 then (if 0 ≤ x11 then (if x11 < (x9.length : Int) then ((rule_Holds.f k ((rd_T26 x9 x11).f0.f0) ((rd_T26 x9 x11).f0.f1) ((rd_T26 x9 x11).f1) ((rd_T26 x9 x11).f2) ((rd_T26 x9 x11).f3) x180000 x180001 x180002 x180003 x180004).bind fun t182 => (if t182 = true then (if x6 < 0 then (rule_First.l0 k x0 x11 x9 x10 (wrap64 (x11 + 1)) x180000 x180001 x180002 x180003 x180004) else (if 0 ≤ x6 then (if x6 < (x0.length : Int) then ((rule_Order.f ((rd_T26 x9 x11).f0.f0) ((rd_T26 x9 x11).f0.f1) ((rd_T26 x9 x11).f1) ((rd_T26 x9 x11).f2) ((rd_T26 x9 x11).f3) ((rd_T26 x0 x6).f0.f0) ((rd_T26 x0 x6).f0.f1) ((rd_T26 x0 x6).f1) ((rd_T26 x0 x6).f2) ((rd_T26 x0 x6).f3)).bind fun t184 => (if t184 < 0 then (rule_First.l0 k x0 x11 x9 x10 (wrap64 (x11 + 1)) x180000 x180001 x180002 x180003 x180004) else (rule_First.l0 k x0 x6 x9 x10 (wrap64 (x11 + 1)) x180000 x180001 x180002 x180003 x180004))) else (none)) else (none))) else (rule_First.l0 k x0 x6 x9 x10 (wrap64 (x11 + 1)) x180000 x180001 x180002 x180003 x180004))) else (none)) else (none)) else (some (mx x6 0, decide (x6 ≥ 0)))
noncomputable def rule_First.f (k : Nat) (l0 : List (S26)) (a1_0 : ByteArray) (a1_1 : ByteArray) (a1_2 : ByteArray) (l1_3 : List (S49)) (l1_4 : List (S49)) : Option (Int × Bool) := rule_First.l0 k l0 (-1) l0 (l0.length : Int) 0 a1_0 a1_1 a1_2 l1_3 l1_4
theorem rule_First.mono_l : ∀ k, (∀ y0 y1 y2 y3 y4 y5 y6 y7 y8 y9, LeO (rule_First.l0 k y0 y1 y2 y3 y4 y5 y6 y7 y8 y9) (rule_First.l0 (k + 1) y0 y1 y2 y3 y4 y5 y6 y7 y8 y9))
 | 0 => fun _ _ _ _ _ _ _ _ _ _ r h => by simp [rule_First.l0] at h
 | k + 1 => by
  have ih0 := rule_First.mono_l k
  ·intro y0 y1 y2 y3 y4 y5 y6 y7 y8 y9
   unfold rule_First.l0
   repeat' first
   | (with_reducible exact ih0 _ _ _ _ _ _ _ _ _ _)
   | (with_reducible exact rule_Holds.mono _ _ _ _ _ _ _ _ _ _ _)
   | (with_reducible exact LeO.refl _)
   | (with_reducible exact LeO.none _)
   | (with_reducible refine LeO.ite ?_ ?_)
   | (with_reducible refine LeO.bind ?_ (fun _ => ?_))
   | exact ih0 _ _ _ _ _ _ _ _ _ _
   | exact rule_Holds.mono _ _ _ _ _ _ _ _ _ _ _
   | exact LeO.none _
   | refine LeO.ite ?_ ?_
   | refine LeO.bind ?_ (fun _ => ?_)
theorem rule_First.mono : ∀ a0 a1 a2 a3 a4 a5 k, LeO (rule_First.f k a0 a1 a2 a3 a4 a5) (rule_First.f (k + 1) a0 a1 a2 a3 a4 a5) := by
 intro a0 a1 a2 a3 a4 a5 k
 have ih0 := rule_First.mono_l k
 unfold rule_First.f
 repeat' first
   | (with_reducible exact ih0 _ _ _ _ _ _ _ _ _ _)
   | (with_reducible exact rule_Holds.mono _ _ _ _ _ _ _ _ _ _ _)
   | (with_reducible exact LeO.refl _)
   | (with_reducible exact LeO.none _)
   | (with_reducible refine LeO.ite ?_ ?_)
   | (with_reducible refine LeO.bind ?_ (fun _ => ?_))
   | exact ih0 _ _ _ _ _ _ _ _ _ _
   | exact rule_Holds.mono _ _ _ _ _ _ _ _ _ _ _
   | exact LeO.none _
   | refine LeO.ite ?_ ?_
   | refine LeO.bind ?_ (fun _ => ?_)
noncomputable def rule_First.T5 : Bool × List (List Nat × List Nat) := (true, [([], []), ([], []), ([0, 1], [0, 1]), ([2, 2], [2]), ([3], [3]), ([4, 3], [3, 4]), ([5, 3, 3], [3, 5]), ([6], [6]), ([6], [6]), ([6], [6]), ([8, 9, 6], [6, 8, 9]), ([10, 6], [6, 10]), ([7, 11, 6, 6], [6, 7, 11]), ([12, 6], [6, 12]), ([6, 13, 3], [3, 6, 13]), ([3, 14], [3, 14])])
noncomputable def rule_First.B5 : List Nat := [0, 0, 3, 7, 15, 31, 63, 127, 127, 127, 895, 1919, 4095, 8191, 16383, 32767]
theorem rule_First.tab5 : rtab .any (opsOf Tryd.f21 5) = rule_First.T5 := by kernel_rfl
theorem rule_First.bits5 : waitsOk rule_First.T5.2 rule_First.B5 = true := by kernel_rfl
set_option maxHeartbeats 6000000 in
set_option maxRecDepth 100000 in
theorem rule_First.calls (k : Nat) (A0 : Option Addr) (c0 : Nat) (l0 : List (S26)) (a1_0 : ByteArray) (a1_1 : ByteArray) (a1_2 : ByteArray) (A1_3 : Option Addr) (c1_3 : Nat) (l1_3 : List (S49)) (A1_4 : Option Addr) (c1_4 : Nat) (l1_4 : List (S49)) (r1 : Int) (r2 : Bool) (w : World) (hr0 : Kd.C k26 w A0 l0.length l0) (hc0 : l0.length ≤ c0) (hr1_3 : Kd.C k49 w A1_3 l1_3.length l1_3) (hc1_3 : l1_3.length ≤ c1_3) (hr1_4 : Kd.C k49 w A1_4 l1_4.length l1_4) (hc1_4 : l1_4.length ≤ c1_4) (h : rule_First.f k l0 a1_0 a1_1 a1_2 l1_3 l1_4 = some (r1, r2)) :
  Calls Tryd.prog 21 #[.slice A0 l0.length c0, .agg #[.string a1_0, .string a1_1, .string a1_2, .slice A1_3 l1_3.length c1_3, .slice A1_4 l1_4.length c1_4]] w fun e w' => e = .returned (.tuple #[.int .i64 r1, .bool r2]) ∧ Below w.heap.size w w' := by
 have hu28 := Tryd.underlying28
 have hu26 := Tryd.underlying26
 have HR0 := Aside0.mk hr0
 have HC0 := Aside0.mk hc0
 clear hr0 hc0
 have HR1_3 := Aside0.mk hr1_3
 have HC1_3 := Aside0.mk hc1_3
 clear hr1_3 hc1_3
 have HR1_4 := Aside0.mk hr1_4
 have HC1_4 := Aside0.mk hc1_4
 clear hr1_4 hc1_4
 have HB := am_ (Below.refl w.heap.size w)
 have H : (rule_First.l0 k l0 (-1) l0 (l0.length : Int) 0 a1_0 a1_1 a1_2 l1_3 l1_4) = some (r1, r2) := h
 clear h
 have H' := Aside0.mk H
 clear H
 go_enter Tryd.func21, Tryd.ntmps21
 go_wp2_with (first | ((with_reducible refine gate_dst (N := 3) rfl ?_); refine box_event ?hg (N := 3) ?hd (cs := #[.string a1_0, .string a1_1, .string a1_2, .slice A1_3 l1_3.length c1_3, .slice A1_4 l1_4.length c1_4]) (t := 28) ?hr ?_; (case hd => rfl); (case hg => rfl); (case hr => first | (go_simp; done) | (go_simp; rfl)); intro gb179 hg w3 hbox hb; have n0_ := am_ (below_step (bel_ HB.out) hb); have n1_ := am_ (hbox); have n2_ := am_ ((by rw [hg]; exact (below_size (bel_ HB.out)) : w.heap.size ≤ gb179)); have n3_ := am_ ((by rw [hg]; exact (below_size (bel_ HB.out)) : w.heap.size ≤ gb179)); clear HB; have HB := n0_; have BK179 := n1_; have GW179 := n2_; have GE179 := n3_; clear n0_ n1_ n2_ n3_ hb hbox hg))
 go_loopg [6, 11] k (fun kq v6 v11 w' => ∃ (x6_1 : Int) (x11_1 : Int), v6 = .int .i64 x6_1 ∧ v11 = .int .i64 x11_1 ∧ Aside0 (rule_First.l0 kq l0 x6_1 l0 (l0.length : Int) x11_1 a1_0 a1_1 a1_2 l1_3 l1_4 = some (r1, r2)) ∧ Aside0 (kq ≤ k) ∧ Aside0 (w'.heap[gb179]? = some (.cells #[.string a1_0, .string a1_1, .string a1_2, (.slice A1_3 l1_3.length c1_3), (.slice A1_4 l1_4.length c1_4)] 28 (0, 0))) ∧ Aside0 (Below w.heap.size w w'))
 case atStart => exact ⟨((-1)), (0), sd_, sd_, H', ⟨Nat.le_refl _⟩, ⟨by (with_reducible repeat (first | refine blk_drewN ?_ _ | refine blk_drew ?_ | refine blk_alloc ?_ _)); exact BK179.out⟩, ⟨bel_ HB.out⟩⟩
 case round =>
  clear H'
  try clear c1
  try clear c2
  try clear p2
  obtain ⟨x6_1, x11_1, rfl, rfl, HA, HK1, BK179, HB⟩ := hrel
  cases gk with
  | zero => exact absurd HA.out (by simp [rule_First.l0])
  | succ k1 =>
   have H := HA.out
   clear HA
   simp only [rule_First.l0] at H
   by_cases c4 : x11_1 < (l0.length : Int)
   ·rw [if_pos c4] at H
    have c4b0 : decide (x11_1 < (l0.length : Int)) = true := decide_eq_true c4
    clear c4
    by_cases c5 : 0 ≤ x11_1
    ·rw [if_pos c5] at H
     have c5b0 : decide (0 ≤ x11_1) = true := decide_eq_true c5
     clear c5
     by_cases c6 : x11_1 < (l0.length : Int)
     ·rw [if_pos c6] at H
      have c6b0 : decide (x11_1 < (l0.length : Int)) = true := decide_eq_true c6
      clear c6
      replace H := Option.bind_eq_some_iff.mp H
      obtain ⟨t182, A70, H⟩ := H
      replace H : (if t182 = true then (if x6_1 < 0 then (rule_First.l0 k1 l0 x11_1 l0 (l0.length : Int) (wrap64 (x11_1 + 1)) a1_0 a1_1 a1_2 l1_3 l1_4) else (if 0 ≤ x6_1 then (if x6_1 < (l0.length : Int) then ((rule_Order.f ((rd_T26 l0 x11_1).f0.f0) ((rd_T26 l0 x11_1).f0.f1) ((rd_T26 l0 x11_1).f1) ((rd_T26 l0 x11_1).f2) ((rd_T26 l0 x11_1).f3) ((rd_T26 l0 x6_1).f0.f0) ((rd_T26 l0 x6_1).f0.f1) ((rd_T26 l0 x6_1).f1) ((rd_T26 l0 x6_1).f2) ((rd_T26 l0 x6_1).f3)).bind fun t184 => (if t184 < 0 then (rule_First.l0 k1 l0 x11_1 l0 (l0.length : Int) (wrap64 (x11_1 + 1)) a1_0 a1_1 a1_2 l1_3 l1_4) else (rule_First.l0 k1 l0 x6_1 l0 (l0.length : Int) (wrap64 (x11_1 + 1)) a1_0 a1_1 a1_2 l1_3 l1_4))) else (none)) else (none))) else (rule_First.l0 k1 l0 x6_1 l0 (l0.length : Int) (wrap64 (x11_1 + 1)) a1_0 a1_1 a1_2 l1_3 l1_4)) = some (r1, r2) := H
      have A7 := Aside0.mk A70
      clear A70
      by_cases c8 : t182 = true
      ·subst c8
       have H1 : (if x6_1 < 0 then (rule_First.l0 k1 l0 x11_1 l0 (l0.length : Int) (wrap64 (x11_1 + 1)) a1_0 a1_1 a1_2 l1_3 l1_4) else (if 0 ≤ x6_1 then (if x6_1 < (l0.length : Int) then ((rule_Order.f ((rd_T26 l0 x11_1).f0.f0) ((rd_T26 l0 x11_1).f0.f1) ((rd_T26 l0 x11_1).f1) ((rd_T26 l0 x11_1).f2) ((rd_T26 l0 x11_1).f3) ((rd_T26 l0 x6_1).f0.f0) ((rd_T26 l0 x6_1).f0.f1) ((rd_T26 l0 x6_1).f1) ((rd_T26 l0 x6_1).f2) ((rd_T26 l0 x6_1).f3)).bind fun t184 => (if t184 < 0 then (rule_First.l0 k1 l0 x11_1 l0 (l0.length : Int) (wrap64 (x11_1 + 1)) a1_0 a1_1 a1_2 l1_3 l1_4) else (rule_First.l0 k1 l0 x6_1 l0 (l0.length : Int) (wrap64 (x11_1 + 1)) a1_0 a1_1 a1_2 l1_3 l1_4))) else (none)) else (none))) = some (r1, r2) := by rw [if_pos rfl] at H; exact H
       clear H
       have H := H1
       clear H1
       by_cases c9 : x6_1 < 0
       ·rw [if_pos c9] at H
        have c9b0 : decide (x6_1 < 0) = true := decide_eq_true c9
        clear c9
        have H' := Aside0.mk H
        clear H
        have p180 : 0 ≤ (x11_1 : Int) := of_decide_eq_true as_
        have q180 : x11_1 < (l0.length : Int) := of_decide_eq_true as_
        obtain ⟨ad180, A180_3, c180_3, A180_4, c180_4, e180, hx180_0, hx180_1, hx180_2, hx180_3, hx180_4, hl180_3, hi180_3, hl180_4, hi180_4⟩ := at_T26 HR0.out x11_1 p180 q180
        cases e180
        replace hx180_0 := (HB.out.cell (World.block_lt_of_cell? w _ hx180_0)).trans hx180_0
        replace hx180_1 := (HB.out.cell (World.block_lt_of_cell? w _ hx180_1)).trans hx180_1
        replace hx180_2 := (HB.out.cell (World.block_lt_of_cell? w _ hx180_2)).trans hx180_2
        replace hx180_3 := (HB.out.cell (World.block_lt_of_cell? w _ hx180_3)).trans hx180_3
        replace hx180_4 := (HB.out.cell (World.block_lt_of_cell? w _ hx180_4)).trans hx180_4
        have HR180_3 := Aside0.mk hi180_3
        have HC180_3 := Aside0.mk hl180_3
        clear hi180_3 hl180_3
        have HR180_4 := Aside0.mk hi180_4
        have HC180_4 := Aside0.mk hl180_4
        clear hi180_4 hl180_4
        replace p180 := eq_true p180
        replace q180 := eq_true q180
        try go_wp2_with (first | ((with_reducible refine gate_dst (N := 8) rfl ?_); refine box_event ?hg (N := 8) ?hd (cs := #[.int .i64 0, .string (⟨#[]⟩ : ByteArray), .string (⟨#[]⟩ : ByteArray), .slice none 0 0, .slice none 0 0]) (t := 26) ?hr ?_; (case hd => rfl); (case hg => rfl); (case hr => first | (go_simp; done) | (go_simp; rfl)); intro gb181 hg w10 hbox hb; have n0_ := am_ (blk_below (g := gb179) (o := .cells #[.string a1_0, .string a1_1, .string a1_2, .slice A1_3 l1_3.length c1_3, .slice A1_4 l1_4.length c1_4] 28 (0, 0)) (blk_ BK179.out) hb); have n1_ := am_ (below_step (bel_ HB.out) hb); have n2_ := am_ (hbox); have n3_ := am_ ((by rw [hg]; exact (below_size (bel_ HB.out)) : w.heap.size ≤ gb181)); have n4_ := am_ ((by rw [hg]; exact (below_size (bel_ HB.out)) : w.heap.size ≤ gb181)); have n5_ := am_ ((by rw [hg]; exact Nat.ne_of_lt (blk_lt (g := gb179) (o := .cells #[.string a1_0, .string a1_1, .string a1_2, .slice A1_3 l1_3.length c1_3, .slice A1_4 l1_4.length c1_4] 28 (0, 0)) (blk_ BK179.out)) : gb179 ≠ gb181)); have n6_ := am_ ((by rw [hg]; exact Nat.ne_of_gt (blk_lt (g := gb179) (o := .cells #[.string a1_0, .string a1_1, .string a1_2, .slice A1_3 l1_3.length c1_3, .slice A1_4 l1_4.length c1_4] 28 (0, 0)) (blk_ BK179.out)) : gb181 ≠ gb179)); clear BK179 HB; have BK179 := n0_; have HB := n1_; have BK181 := n2_; have GW181 := n3_; have GE181 := n4_; have NB179_181 := n5_; have NB181_179 := n6_; clear n0_ n1_ n2_ n3_ n4_ n5_ n6_ hb hbox hg; have hnb11 := NB181_179.out; have hnc11 := NB179_181.out; have hcz12_0 : w10.cell? ⟨gb181, 0, none⟩ = some (.int .i64 0) := (blk_cell BK181.out 0).trans rfl; have hcz12_1 : w10.cell? ⟨gb181, 1, none⟩ = some (.string (⟨#[]⟩ : ByteArray)) := (blk_cell BK181.out 1).trans rfl; have hcz12_2 : w10.cell? ⟨gb181, 2, none⟩ = some (.string (⟨#[]⟩ : ByteArray)) := (blk_cell BK181.out 2).trans rfl; have hcz12_3 : w10.cell? ⟨gb181, 3, none⟩ = some (.slice none 0 0) := (blk_cell BK181.out 3).trans rfl; have hcz12_4 : w10.cell? ⟨gb181, 4, none⟩ = some (.slice none 0 0) := (blk_cell BK181.out 4).trans rfl; have hfz12_0 := blk_frozen BK181.out 0; have hfz12_1 := blk_frozen BK181.out 1; have hfz12_2 := blk_frozen BK181.out 2; have hfz12_3 := blk_frozen BK181.out 3; have hfz12_4 := blk_frozen BK181.out 4))
        have n0_ : Aside0 ((((((w10.setCell ⟨gb181, 0, none⟩ (.int .i64 ((rd_T26 l0 x11_1).f0.f0))).setCell ⟨gb181, 1, none⟩ (.string ((rd_T26 l0 x11_1).f0.f1))).setCell ⟨gb181, 2, none⟩ (.string ((rd_T26 l0 x11_1).f1))).setCell ⟨gb181, 3, none⟩ (.slice A180_3 ((rd_T26 l0 x11_1).f2).length c180_3)).setCell ⟨gb181, 4, none⟩ (.slice A180_4 ((rd_T26 l0 x11_1).f3).length c180_4)).heap[gb179]? = some (.cells #[.string a1_0, .string a1_1, .string a1_2, .slice A1_3 l1_3.length c1_3, .slice A1_4 l1_4.length c1_4] 28 (0, 0))) := ⟨by (with_reducible repeat (first | refine blk_drewN ?_ _ | refine blk_drew ?_ | refine blk_alloc ?_ _)); refine blk_far ?_ NB179_181.out _; (with_reducible repeat (first | refine blk_drewN ?_ _ | refine blk_drew ?_ | refine blk_alloc ?_ _)); refine blk_far ?_ NB179_181.out _; (with_reducible repeat (first | refine blk_drewN ?_ _ | refine blk_drew ?_ | refine blk_alloc ?_ _)); refine blk_far ?_ NB179_181.out _; (with_reducible repeat (first | refine blk_drewN ?_ _ | refine blk_drew ?_ | refine blk_alloc ?_ _)); refine blk_far ?_ NB179_181.out _; (with_reducible repeat (first | refine blk_drewN ?_ _ | refine blk_drew ?_ | refine blk_alloc ?_ _)); refine blk_far ?_ NB179_181.out _; (with_reducible repeat (first | refine blk_drewN ?_ _ | refine blk_drew ?_ | refine blk_alloc ?_ _)); exact BK179.out⟩
        have n1_ : Aside0 ((((((w10.setCell ⟨gb181, 0, none⟩ (.int .i64 ((rd_T26 l0 x11_1).f0.f0))).setCell ⟨gb181, 1, none⟩ (.string ((rd_T26 l0 x11_1).f0.f1))).setCell ⟨gb181, 2, none⟩ (.string ((rd_T26 l0 x11_1).f1))).setCell ⟨gb181, 3, none⟩ (.slice A180_3 ((rd_T26 l0 x11_1).f2).length c180_3)).setCell ⟨gb181, 4, none⟩ (.slice A180_4 ((rd_T26 l0 x11_1).f3).length c180_4)).heap[gb181]? = some (.cells #[.int .i64 ((rd_T26 l0 x11_1).f0.f0), .string ((rd_T26 l0 x11_1).f0.f1), .string ((rd_T26 l0 x11_1).f1), .slice A180_3 ((rd_T26 l0 x11_1).f2).length c180_3, .slice A180_4 ((rd_T26 l0 x11_1).f3).length c180_4] 26 (0, 0))) := ⟨by (with_reducible repeat (first | refine blk_drewN ?_ _ | refine blk_drew ?_ | refine blk_alloc ?_ _)); refine blk_put (cs := #[.int .i64 ((rd_T26 l0 x11_1).f0.f0), .string ((rd_T26 l0 x11_1).f0.f1), .string ((rd_T26 l0 x11_1).f1), .slice A180_3 ((rd_T26 l0 x11_1).f2).length c180_3, .slice none 0 0]) ?_ 4 _ rfl; (with_reducible repeat (first | refine blk_drewN ?_ _ | refine blk_drew ?_ | refine blk_alloc ?_ _)); refine blk_put (cs := #[.int .i64 ((rd_T26 l0 x11_1).f0.f0), .string ((rd_T26 l0 x11_1).f0.f1), .string ((rd_T26 l0 x11_1).f1), .slice none 0 0, .slice none 0 0]) ?_ 3 _ rfl; (with_reducible repeat (first | refine blk_drewN ?_ _ | refine blk_drew ?_ | refine blk_alloc ?_ _)); refine blk_put (cs := #[.int .i64 ((rd_T26 l0 x11_1).f0.f0), .string ((rd_T26 l0 x11_1).f0.f1), .string (⟨#[]⟩ : ByteArray), .slice none 0 0, .slice none 0 0]) ?_ 2 _ rfl; (with_reducible repeat (first | refine blk_drewN ?_ _ | refine blk_drew ?_ | refine blk_alloc ?_ _)); refine blk_put (cs := #[.int .i64 ((rd_T26 l0 x11_1).f0.f0), .string (⟨#[]⟩ : ByteArray), .string (⟨#[]⟩ : ByteArray), .slice none 0 0, .slice none 0 0]) ?_ 1 _ rfl; (with_reducible repeat (first | refine blk_drewN ?_ _ | refine blk_drew ?_ | refine blk_alloc ?_ _)); refine blk_put (cs := #[.int .i64 0, .string (⟨#[]⟩ : ByteArray), .string (⟨#[]⟩ : ByteArray), .slice none 0 0, .slice none 0 0]) ?_ 0 _ rfl; (with_reducible repeat (first | refine blk_drewN ?_ _ | refine blk_drew ?_ | refine blk_alloc ?_ _)); exact BK181.out⟩
        have n2_ : Aside0 (Below w.heap.size w (((((w10.setCell ⟨gb181, 0, none⟩ (.int .i64 ((rd_T26 l0 x11_1).f0.f0))).setCell ⟨gb181, 1, none⟩ (.string ((rd_T26 l0 x11_1).f0.f1))).setCell ⟨gb181, 2, none⟩ (.string ((rd_T26 l0 x11_1).f1))).setCell ⟨gb181, 3, none⟩ (.slice A180_3 ((rd_T26 l0 x11_1).f2).length c180_3)).setCell ⟨gb181, 4, none⟩ (.slice A180_4 ((rd_T26 l0 x11_1).f3).length c180_4))) := ⟨bel_ HB.out⟩
        (try clear BK179)
        (try clear BK181)
        (try clear HB)
        generalize (((((w10.setCell ⟨gb181, 0, none⟩ (.int .i64 ((rd_T26 l0 x11_1).f0.f0))).setCell ⟨gb181, 1, none⟩ (.string ((rd_T26 l0 x11_1).f0.f1))).setCell ⟨gb181, 2, none⟩ (.string ((rd_T26 l0 x11_1).f1))).setCell ⟨gb181, 3, none⟩ (.slice A180_3 ((rd_T26 l0 x11_1).f2).length c180_3)).setCell ⟨gb181, 4, none⟩ (.slice A180_4 ((rd_T26 l0 x11_1).f3).length c180_4)) = w13 at n0_ n1_ n2_ ⊢
        have BK179 := n0_
        have BK181 := n1_
        have HB := n2_
        clear n0_ n1_ n2_
        have n0_ := am_ (blk_drew BK179.out)
        have n1_ := am_ (blk_drew BK181.out)
        have n2_ := am_ (below_drew1 HB.out)
        clear BK179 BK181 HB
        have BK179 := n0_
        have BK181 := n1_
        have HB := n2_
        clear n0_ n1_ n2_
        refine start_ (n := 16) (S := fun w' => w'.cell? ⟨gb181, 0, none⟩ = some (.int .i64 ((rd_T26 l0 x11_1).f0.f0)) ∧ w'.cell? ⟨gb181, 1, none⟩ = some (.string ((rd_T26 l0 x11_1).f0.f1)) ∧ w'.cell? ⟨gb181, 2, none⟩ = some (.string ((rd_T26 l0 x11_1).f1)) ∧ w'.cell? ⟨gb181, 3, none⟩ = some (.slice A180_3 ((rd_T26 l0 x11_1).f2).length c180_3) ∧ w'.cell? ⟨gb181, 4, none⟩ = some (.slice A180_4 ((rd_T26 l0 x11_1).f3).length c180_4) ∧ w'.cell? ⟨gb179, 0, none⟩ = some (.string a1_0) ∧ w'.cell? ⟨gb179, 1, none⟩ = some (.string a1_1) ∧ w'.cell? ⟨gb179, 2, none⟩ = some (.string a1_2) ∧ w'.cell? ⟨gb179, 3, none⟩ = some (.slice A1_3 l1_3.length c1_3) ∧ w'.cell? ⟨gb179, 4, none⟩ = some (.slice A1_4 l1_4.length c1_4)) (ds := []) #[false, false, false, false, false, false, false, false, false, false, false, false, false, false, false, false] kr_ rfl rfl ⟨(blk_cell BK181.out 0).trans rfl, (blk_cell BK181.out 1).trans rfl, (blk_cell BK181.out 2).trans rfl, (blk_cell BK181.out 3).trans rfl, (blk_cell BK181.out 4).trans rfl, (blk_cell BK179.out 0).trans rfl, (blk_cell BK179.out 1).trans rfl, (blk_cell BK179.out 2).trans rfl, (blk_cell BK179.out 3).trans rfl, (blk_cell BK179.out 4).trans rfl⟩ (fun hHeld => ?_); refine with_tabW rule_First.tab5 rule_First.bits5 (fun HT_ HW_ => ?_)
        generalize w13.drew = w14 at BK179 BK181 HB hHeld ⊢
        refine take_ (i := 0) (N := some 16) (v := ?_) (a' := ?_) #[true, false, false, false, false, false, false, false, false, false, false, false, false, false, false, false] rfl rfl (take_ofW HT_.out HW_.out kr_) (fun _ _ _ h => h) (Or.inl ⟨by rfl, ?_⟩) hHeld ?_ ?_
        rotate_left
        ·rintro w' ⟨s0, s1, s2, s3, s4, s5, s6, s7, s8, s9⟩
         go_simp
         with_reducible rfl
        rotate_left
        ·simp only [Act.put, sx_, s0_, s1_, i64_w, i32_w]
         rfl
        refine take_ (i := 1) (N := some 17) (v := ?_) (a' := ?_) #[true, true, false, false, false, false, false, false, false, false, false, false, false, false, false, false] rfl rfl (take_ofW HT_.out HW_.out kr_) (fun _ _ _ h => h) (Or.inl ⟨by rfl, ?_⟩) hHeld ?_ ?_
        rotate_left
        ·rintro w' ⟨s0, s1, s2, s3, s4, s5, s6, s7, s8, s9⟩
         go_simp
         with_reducible rfl
        rotate_left
        ·simp only [Act.put, sx_, s0_, s1_, i64_w, i32_w]
         rfl
        refine one_ (i := 2) (N := some 18) #[true, true, true, false, false, false, false, false, false, false, false, false, false, false, false, false] rfl rfl (one_of HT_.out kr_) (by decide) (fun K hK => ?_)
        refine goes_ Tryd.func14 kr_ rfl #[.agg #[.int .i64 ((rd_T26 l0 x11_1).f0.f0), .string ((rd_T26 l0 x11_1).f0.f1), .string ((rd_T26 l0 x11_1).f1), .slice A180_3 ((rd_T26 l0 x11_1).f2).length c180_3, .slice A180_4 ((rd_T26 l0 x11_1).f3).length c180_4], .agg #[.string a1_0, .string a1_1, .string a1_2, .slice A1_3 l1_3.length c1_3, .slice A1_4 l1_4.length c1_4]] (by rfl) rfl rfl rl_ ?_
        with_reducible refine (rule_Holds.calls k1 ((rd_T26 l0 x11_1).f0.f0) ((rd_T26 l0 x11_1).f0.f1) ((rd_T26 l0 x11_1).f1) _ _ ((rd_T26 l0 x11_1).f2) _ _ ((rd_T26 l0 x11_1).f3) a1_0 a1_1 a1_2 _ _ l1_3 _ _ l1_4 true _ ?side1 ?side2 ?side3 ?side4 ?side5 ?side6 ?side7 ?side8 A7.out).mono ?_
        (case side1 => exact C_ (Kd.C_below HR180_3.out HB.out))
        (case side2 => exact HC180_3.out)
        (case side3 => exact C_ (Kd.C_below HR180_4.out HB.out))
        (case side4 => exact HC180_4.out)
        (case side5 => exact C_ (Kd.C_below HR1_3.out HB.out))
        (case side6 => exact HC1_3.out)
        (case side7 => exact C_ (Kd.C_below HR1_4.out HB.out))
        (case side8 => exact HC1_4.out)
        rintro e w15 ⟨rfl, hb⟩
        refine ⟨_, rfl, ?_⟩
        have n0_ := am_ (blk_below (g := gb179) (o := .cells #[.string a1_0, .string a1_1, .string a1_2, .slice A1_3 l1_3.length c1_3, .slice A1_4 l1_4.length c1_4] 28 (0, 0)) (blk_ BK179.out) hb)
        have n1_ := am_ (blk_below (g := gb181) (o := .cells #[.int .i64 ((rd_T26 l0 x11_1).f0.f0), .string ((rd_T26 l0 x11_1).f0.f1), .string ((rd_T26 l0 x11_1).f1), .slice A180_3 ((rd_T26 l0 x11_1).f2).length c180_3, .slice A180_4 ((rd_T26 l0 x11_1).f3).length c180_4] 26 (0, 0)) (blk_ BK181.out) hb)
        have n2_ := am_ (below_step (bel_ HB.out) hb)
        clear BK179 BK181 HB
        have BK179 := n0_
        have BK181 := n1_
        have HB := n2_
        clear n0_ n1_ n2_
        (try clear hb)
        (try clear hb2)
        (try clear hk)
        (try clear hi)
        refine hK.out _ _ ⟨(blk_cell BK181.out 0).trans rfl, (blk_cell BK181.out 1).trans rfl, (blk_cell BK181.out 2).trans rfl, (blk_cell BK181.out 3).trans rfl, (blk_cell BK181.out 4).trans rfl, (blk_cell BK179.out 0).trans rfl, (blk_cell BK179.out 1).trans rfl, (blk_cell BK179.out 2).trans rfl, (blk_cell BK179.out 3).trans rfl, (blk_cell BK179.out 4).trans rfl⟩ (fun hHeld => ?_)
        clear hK K
        refine norm_ (a' := ?_) ?_ ?_
        rotate_left
        ·show Act.put _ (some 18) _ = _
         simp only [Act.put, sx_, s0_, s1_, i64_w, i32_w]
         rfl
        refine pure_ (i := 3) (N := some 19) (v := ?_) (a' := ?_) #[true, true, true, true, false, false, false, false, false, false, false, false, false, false, false, false] rfl rfl (any_of HT_.out kr_) (fun _ _ _ h => h) (Or.inl ⟨by rfl, ?_⟩) ?_ ?_
        rotate_left
        ·intro w'
         go_simp
         with_reducible rfl
        rotate_left
        ·simp only [Act.put, sx_, s0_, s1_, i64_w, i32_w]
         rfl
        refine pure_ (i := 4) (N := some 20) (v := ?_) (a' := ?_) #[true, true, true, true, true, false, false, false, false, false, false, false, false, false, false, false] rfl rfl (any_of HT_.out kr_) (fun _ _ _ h => h) (Or.inl ⟨by rfl, ?_⟩) ?_ ?_
        rotate_left
        ·intro w'
         go_simp
         with_reducible rfl
        rotate_left
        ·simp only [Act.put, sx_, s0_, s1_, i64_w, i32_w]
         rfl
        refine pure_ (i := 5) (N := some 21) (v := ?_) (a' := ?_) #[true, true, true, true, true, true, false, false, false, false, false, false, false, false, false, false] rfl rfl (any_of HT_.out kr_) (fun _ _ _ h => h) (Or.inl ⟨by rfl, ?_⟩) ?_ ?_
        rotate_left
        ·intro w'
         go_simp
         with_reducible rfl
        rotate_left
        ·simp only [Act.put, sx_, s0_, s1_, i64_w, i32_w]
         rfl
        refine pure_ (i := 6) (N := some 22) (v := ?_) (a' := ?_) #[true, true, true, true, true, true, true, false, false, false, false, false, false, false, false, false] rfl rfl (any_of HT_.out kr_) (fun _ _ _ h => h) (Or.inl ⟨by rfl, ?_⟩) ?_ ?_
        rotate_left
        ·intro w'
         go_simp
         with_reducible rfl
        rotate_left
        ·simp only [Act.put, sx_, s0_, s1_, i64_w, i32_w]
         rfl
        refine pure_ (i := 7) (N := some 23) (v := undef) (a' := ?_) #[true, true, true, true, true, true, true, true, false, false, false, false, false, false, false, false] rfl rfl (any_of HT_.out kr_) (fun _ _ _ h => h) (Or.inr ⟨by rfl, rfl⟩) ?_ ?_
        rotate_left
        ·simp only [Act.put, sx_, s0_, s1_, i64_w, i32_w]
         rfl
        refine pure_ (i := 8) (N := some 24) (v := undef) (a' := ?_) #[true, true, true, true, true, true, true, true, true, false, false, false, false, false, false, false] rfl rfl (any_of HT_.out kr_) (fun _ _ _ h => h) (Or.inr ⟨by rfl, rfl⟩) ?_ ?_
        rotate_left
        ·simp only [Act.put, sx_, s0_, s1_, i64_w, i32_w]
         rfl
        refine pure_ (i := 9) (N := some 25) (v := undef) (a' := ?_) #[true, true, true, true, true, true, true, true, true, true, false, false, false, false, false, false] rfl rfl (any_of HT_.out kr_) (fun _ _ _ h => h) (Or.inr ⟨by rfl, rfl⟩) ?_ ?_
        rotate_left
        ·simp only [Act.put, sx_, s0_, s1_, i64_w, i32_w]
         rfl
        refine pure_ (i := 10) (N := some 26) (v := undef) (a' := ?_) #[true, true, true, true, true, true, true, true, true, true, true, false, false, false, false, false] rfl rfl (any_of HT_.out kr_) (fun _ _ _ h => h) (Or.inr ⟨by rfl, rfl⟩) ?_ ?_
        rotate_left
        ·simp only [Act.put, sx_, s0_, s1_, i64_w, i32_w]
         rfl
        refine pure_ (i := 11) (N := some 27) (v := undef) (a' := ?_) #[true, true, true, true, true, true, true, true, true, true, true, true, false, false, false, false] rfl rfl (any_of HT_.out kr_) (fun _ _ _ h => h) (Or.inr ⟨by rfl, rfl⟩) ?_ ?_
        rotate_left
        ·simp only [Act.put, sx_, s0_, s1_, i64_w, i32_w]
         rfl
        refine pure_ (i := 12) (N := some 28) (v := undef) (a' := ?_) #[true, true, true, true, true, true, true, true, true, true, true, true, true, false, false, false] rfl rfl (any_of HT_.out kr_) (fun _ _ _ h => h) (Or.inr ⟨by rfl, rfl⟩) ?_ ?_
        rotate_left
        ·simp only [Act.put, sx_, s0_, s1_, i64_w, i32_w]
         rfl
        refine pure_ (i := 13) (N := some 29) (v := undef) (a' := ?_) #[true, true, true, true, true, true, true, true, true, true, true, true, true, true, false, false] rfl rfl (any_of HT_.out kr_) (fun _ _ _ h => h) (Or.inr ⟨by rfl, rfl⟩) ?_ ?_
        rotate_left
        ·simp only [Act.put, sx_, s0_, s1_, i64_w, i32_w]
         rfl
        refine pure_ (i := 14) (N := some 30) (v := ?_) (a' := ?_) #[true, true, true, true, true, true, true, true, true, true, true, true, true, true, true, false] rfl rfl (any_of HT_.out kr_) (fun _ _ _ h => h) (Or.inl ⟨by rfl, ?_⟩) ?_ ?_
        rotate_left
        ·intro w'
         go_simp
         with_reducible rfl
        rotate_left
        ·simp only [Act.put, sx_, s0_, s1_, i64_w, i32_w]
         rfl
        refine pure_ (i := 15) (N := some 31) (v := ?_) (a' := ?_) #[true, true, true, true, true, true, true, true, true, true, true, true, true, true, true, true] rfl rfl (any_of HT_.out kr_) (fun _ _ _ h => h) (Or.inl ⟨by rfl, ?_⟩) ?_ ?_
        rotate_left
        ·intro w'
         go_simp
         with_reducible rfl
        rotate_left
        ·simp only [Act.put, sx_, s0_, s1_, i64_w, i32_w]
         rfl
        refine done_ (done_of HT_.out kr_) ?_
        try go_wp2
        go_roundg k1
        case measure => have := HK1.out; omega
        case rel => exact ⟨(x11_1), (wrap64 (x11_1 + 1)), sd_, sd_, H', ⟨by have := HK1.out; omega⟩, ⟨by (with_reducible repeat (first | refine blk_drewN ?_ _ | refine blk_drew ?_ | refine blk_alloc ?_ _)); exact BK179.out⟩, ⟨bel_ HB.out⟩⟩
       ·rw [if_neg c9] at H
        have c9b0 : decide (x6_1 < 0) = false := decide_eq_false c9
        clear c9
        by_cases c16 : 0 ≤ x6_1
        ·rw [if_pos c16] at H
         have c16b0 : decide (0 ≤ x6_1) = true := decide_eq_true c16
         clear c16
         by_cases c17 : x6_1 < (l0.length : Int)
         ·rw [if_pos c17] at H
          have c17b0 : decide (x6_1 < (l0.length : Int)) = true := decide_eq_true c17
          clear c17
          replace H := Option.bind_eq_some_iff.mp H
          obtain ⟨t184, A180, H⟩ := H
          replace H : (if t184 < 0 then (rule_First.l0 k1 l0 x11_1 l0 (l0.length : Int) (wrap64 (x11_1 + 1)) a1_0 a1_1 a1_2 l1_3 l1_4) else (rule_First.l0 k1 l0 x6_1 l0 (l0.length : Int) (wrap64 (x11_1 + 1)) a1_0 a1_1 a1_2 l1_3 l1_4)) = some (r1, r2) := H
          have A18 := Aside0.mk A180
          clear A180
          by_cases c19 : t184 < 0
          ·rw [if_pos c19] at H
           have c19b0 : decide (t184 < 0) = true := decide_eq_true c19
           clear c19
           have H' := Aside0.mk H
           clear H
           have p180 : 0 ≤ (x11_1 : Int) := of_decide_eq_true as_
           have q180 : x11_1 < (l0.length : Int) := of_decide_eq_true as_
           obtain ⟨ad180, A180_3, c180_3, A180_4, c180_4, e180, hx180_0, hx180_1, hx180_2, hx180_3, hx180_4, hl180_3, hi180_3, hl180_4, hi180_4⟩ := at_T26 HR0.out x11_1 p180 q180
           cases e180
           replace hx180_0 := (HB.out.cell (World.block_lt_of_cell? w _ hx180_0)).trans hx180_0
           replace hx180_1 := (HB.out.cell (World.block_lt_of_cell? w _ hx180_1)).trans hx180_1
           replace hx180_2 := (HB.out.cell (World.block_lt_of_cell? w _ hx180_2)).trans hx180_2
           replace hx180_3 := (HB.out.cell (World.block_lt_of_cell? w _ hx180_3)).trans hx180_3
           replace hx180_4 := (HB.out.cell (World.block_lt_of_cell? w _ hx180_4)).trans hx180_4
           have HR180_3 := Aside0.mk hi180_3
           have HC180_3 := Aside0.mk hl180_3
           clear hi180_3 hl180_3
           have HR180_4 := Aside0.mk hi180_4
           have HC180_4 := Aside0.mk hl180_4
           clear hi180_4 hl180_4
           replace p180 := eq_true p180
           replace q180 := eq_true q180
           try go_wp2_with (first | ((with_reducible refine gate_dst (N := 8) rfl ?_); refine box_event ?hg (N := 8) ?hd (cs := #[.int .i64 0, .string (⟨#[]⟩ : ByteArray), .string (⟨#[]⟩ : ByteArray), .slice none 0 0, .slice none 0 0]) (t := 26) ?hr ?_; (case hd => rfl); (case hg => rfl); (case hr => first | (go_simp; done) | (go_simp; rfl)); intro gb181 hg w20 hbox hb; have n0_ := am_ (blk_below (g := gb179) (o := .cells #[.string a1_0, .string a1_1, .string a1_2, .slice A1_3 l1_3.length c1_3, .slice A1_4 l1_4.length c1_4] 28 (0, 0)) (blk_ BK179.out) hb); have n1_ := am_ (below_step (bel_ HB.out) hb); have n2_ := am_ (hbox); have n3_ := am_ ((by rw [hg]; exact (below_size (bel_ HB.out)) : w.heap.size ≤ gb181)); have n4_ := am_ ((by rw [hg]; exact (below_size (bel_ HB.out)) : w.heap.size ≤ gb181)); have n5_ := am_ ((by rw [hg]; exact Nat.ne_of_lt (blk_lt (g := gb179) (o := .cells #[.string a1_0, .string a1_1, .string a1_2, .slice A1_3 l1_3.length c1_3, .slice A1_4 l1_4.length c1_4] 28 (0, 0)) (blk_ BK179.out)) : gb179 ≠ gb181)); have n6_ := am_ ((by rw [hg]; exact Nat.ne_of_gt (blk_lt (g := gb179) (o := .cells #[.string a1_0, .string a1_1, .string a1_2, .slice A1_3 l1_3.length c1_3, .slice A1_4 l1_4.length c1_4] 28 (0, 0)) (blk_ BK179.out)) : gb181 ≠ gb179)); clear BK179 HB; have BK179 := n0_; have HB := n1_; have BK181 := n2_; have GW181 := n3_; have GE181 := n4_; have NB179_181 := n5_; have NB181_179 := n6_; clear n0_ n1_ n2_ n3_ n4_ n5_ n6_ hb hbox hg; have hnb21 := NB181_179.out; have hnc21 := NB179_181.out; have hcz22_0 : w20.cell? ⟨gb181, 0, none⟩ = some (.int .i64 0) := (blk_cell BK181.out 0).trans rfl; have hcz22_1 : w20.cell? ⟨gb181, 1, none⟩ = some (.string (⟨#[]⟩ : ByteArray)) := (blk_cell BK181.out 1).trans rfl; have hcz22_2 : w20.cell? ⟨gb181, 2, none⟩ = some (.string (⟨#[]⟩ : ByteArray)) := (blk_cell BK181.out 2).trans rfl; have hcz22_3 : w20.cell? ⟨gb181, 3, none⟩ = some (.slice none 0 0) := (blk_cell BK181.out 3).trans rfl; have hcz22_4 : w20.cell? ⟨gb181, 4, none⟩ = some (.slice none 0 0) := (blk_cell BK181.out 4).trans rfl; have hfz22_0 := blk_frozen BK181.out 0; have hfz22_1 := blk_frozen BK181.out 1; have hfz22_2 := blk_frozen BK181.out 2; have hfz22_3 := blk_frozen BK181.out 3; have hfz22_4 := blk_frozen BK181.out 4))
           have n0_ : Aside0 ((((((w20.setCell ⟨gb181, 0, none⟩ (.int .i64 ((rd_T26 l0 x11_1).f0.f0))).setCell ⟨gb181, 1, none⟩ (.string ((rd_T26 l0 x11_1).f0.f1))).setCell ⟨gb181, 2, none⟩ (.string ((rd_T26 l0 x11_1).f1))).setCell ⟨gb181, 3, none⟩ (.slice A180_3 ((rd_T26 l0 x11_1).f2).length c180_3)).setCell ⟨gb181, 4, none⟩ (.slice A180_4 ((rd_T26 l0 x11_1).f3).length c180_4)).heap[gb179]? = some (.cells #[.string a1_0, .string a1_1, .string a1_2, .slice A1_3 l1_3.length c1_3, .slice A1_4 l1_4.length c1_4] 28 (0, 0))) := ⟨by (with_reducible repeat (first | refine blk_drewN ?_ _ | refine blk_drew ?_ | refine blk_alloc ?_ _)); refine blk_far ?_ NB179_181.out _; (with_reducible repeat (first | refine blk_drewN ?_ _ | refine blk_drew ?_ | refine blk_alloc ?_ _)); refine blk_far ?_ NB179_181.out _; (with_reducible repeat (first | refine blk_drewN ?_ _ | refine blk_drew ?_ | refine blk_alloc ?_ _)); refine blk_far ?_ NB179_181.out _; (with_reducible repeat (first | refine blk_drewN ?_ _ | refine blk_drew ?_ | refine blk_alloc ?_ _)); refine blk_far ?_ NB179_181.out _; (with_reducible repeat (first | refine blk_drewN ?_ _ | refine blk_drew ?_ | refine blk_alloc ?_ _)); refine blk_far ?_ NB179_181.out _; (with_reducible repeat (first | refine blk_drewN ?_ _ | refine blk_drew ?_ | refine blk_alloc ?_ _)); exact BK179.out⟩
           have n1_ : Aside0 ((((((w20.setCell ⟨gb181, 0, none⟩ (.int .i64 ((rd_T26 l0 x11_1).f0.f0))).setCell ⟨gb181, 1, none⟩ (.string ((rd_T26 l0 x11_1).f0.f1))).setCell ⟨gb181, 2, none⟩ (.string ((rd_T26 l0 x11_1).f1))).setCell ⟨gb181, 3, none⟩ (.slice A180_3 ((rd_T26 l0 x11_1).f2).length c180_3)).setCell ⟨gb181, 4, none⟩ (.slice A180_4 ((rd_T26 l0 x11_1).f3).length c180_4)).heap[gb181]? = some (.cells #[.int .i64 ((rd_T26 l0 x11_1).f0.f0), .string ((rd_T26 l0 x11_1).f0.f1), .string ((rd_T26 l0 x11_1).f1), .slice A180_3 ((rd_T26 l0 x11_1).f2).length c180_3, .slice A180_4 ((rd_T26 l0 x11_1).f3).length c180_4] 26 (0, 0))) := ⟨by (with_reducible repeat (first | refine blk_drewN ?_ _ | refine blk_drew ?_ | refine blk_alloc ?_ _)); refine blk_put (cs := #[.int .i64 ((rd_T26 l0 x11_1).f0.f0), .string ((rd_T26 l0 x11_1).f0.f1), .string ((rd_T26 l0 x11_1).f1), .slice A180_3 ((rd_T26 l0 x11_1).f2).length c180_3, .slice none 0 0]) ?_ 4 _ rfl; (with_reducible repeat (first | refine blk_drewN ?_ _ | refine blk_drew ?_ | refine blk_alloc ?_ _)); refine blk_put (cs := #[.int .i64 ((rd_T26 l0 x11_1).f0.f0), .string ((rd_T26 l0 x11_1).f0.f1), .string ((rd_T26 l0 x11_1).f1), .slice none 0 0, .slice none 0 0]) ?_ 3 _ rfl; (with_reducible repeat (first | refine blk_drewN ?_ _ | refine blk_drew ?_ | refine blk_alloc ?_ _)); refine blk_put (cs := #[.int .i64 ((rd_T26 l0 x11_1).f0.f0), .string ((rd_T26 l0 x11_1).f0.f1), .string (⟨#[]⟩ : ByteArray), .slice none 0 0, .slice none 0 0]) ?_ 2 _ rfl; (with_reducible repeat (first | refine blk_drewN ?_ _ | refine blk_drew ?_ | refine blk_alloc ?_ _)); refine blk_put (cs := #[.int .i64 ((rd_T26 l0 x11_1).f0.f0), .string (⟨#[]⟩ : ByteArray), .string (⟨#[]⟩ : ByteArray), .slice none 0 0, .slice none 0 0]) ?_ 1 _ rfl; (with_reducible repeat (first | refine blk_drewN ?_ _ | refine blk_drew ?_ | refine blk_alloc ?_ _)); refine blk_put (cs := #[.int .i64 0, .string (⟨#[]⟩ : ByteArray), .string (⟨#[]⟩ : ByteArray), .slice none 0 0, .slice none 0 0]) ?_ 0 _ rfl; (with_reducible repeat (first | refine blk_drewN ?_ _ | refine blk_drew ?_ | refine blk_alloc ?_ _)); exact BK181.out⟩
           have n2_ : Aside0 (Below w.heap.size w (((((w20.setCell ⟨gb181, 0, none⟩ (.int .i64 ((rd_T26 l0 x11_1).f0.f0))).setCell ⟨gb181, 1, none⟩ (.string ((rd_T26 l0 x11_1).f0.f1))).setCell ⟨gb181, 2, none⟩ (.string ((rd_T26 l0 x11_1).f1))).setCell ⟨gb181, 3, none⟩ (.slice A180_3 ((rd_T26 l0 x11_1).f2).length c180_3)).setCell ⟨gb181, 4, none⟩ (.slice A180_4 ((rd_T26 l0 x11_1).f3).length c180_4))) := ⟨bel_ HB.out⟩
           (try clear BK179)
           (try clear BK181)
           (try clear HB)
           generalize (((((w20.setCell ⟨gb181, 0, none⟩ (.int .i64 ((rd_T26 l0 x11_1).f0.f0))).setCell ⟨gb181, 1, none⟩ (.string ((rd_T26 l0 x11_1).f0.f1))).setCell ⟨gb181, 2, none⟩ (.string ((rd_T26 l0 x11_1).f1))).setCell ⟨gb181, 3, none⟩ (.slice A180_3 ((rd_T26 l0 x11_1).f2).length c180_3)).setCell ⟨gb181, 4, none⟩ (.slice A180_4 ((rd_T26 l0 x11_1).f3).length c180_4)) = w23 at n0_ n1_ n2_ ⊢
           have BK179 := n0_
           have BK181 := n1_
           have HB := n2_
           clear n0_ n1_ n2_
           have n0_ := am_ (blk_drew BK179.out)
           have n1_ := am_ (blk_drew BK181.out)
           have n2_ := am_ (below_drew1 HB.out)
           clear BK179 BK181 HB
           have BK179 := n0_
           have BK181 := n1_
           have HB := n2_
           clear n0_ n1_ n2_
           have p183 : 0 ≤ (x6_1 : Int) := of_decide_eq_true as_
           have q183 : x6_1 < (l0.length : Int) := of_decide_eq_true as_
           obtain ⟨ad183, A183_3, c183_3, A183_4, c183_4, e183, hx183_0, hx183_1, hx183_2, hx183_3, hx183_4, hl183_3, hi183_3, hl183_4, hi183_4⟩ := at_T26 HR0.out x6_1 p183 q183
           have hw183_4 := hx183_4
           have hw183_3 := hx183_3
           have hw183_2 := hx183_2
           have hw183_1 := hx183_1
           have hw183_0 := hx183_0
           obtain rfl : ad180 = ad183 := (by injection e183)
           replace hx183_0 := (HB.out.cell (World.block_lt_of_cell? w _ hx183_0)).trans hx183_0
           replace hx183_1 := (HB.out.cell (World.block_lt_of_cell? w _ hx183_1)).trans hx183_1
           replace hx183_2 := (HB.out.cell (World.block_lt_of_cell? w _ hx183_2)).trans hx183_2
           replace hx183_3 := (HB.out.cell (World.block_lt_of_cell? w _ hx183_3)).trans hx183_3
           replace hx183_4 := (HB.out.cell (World.block_lt_of_cell? w _ hx183_4)).trans hx183_4
           have HR183_3 := Aside0.mk hi183_3
           have HC183_3 := Aside0.mk hl183_3
           clear hi183_3 hl183_3
           have HR183_4 := Aside0.mk hi183_4
           have HC183_4 := Aside0.mk hl183_4
           clear hi183_4 hl183_4
           replace p183 := eq_true p183
           replace q183 := eq_true q183
           refine start_ (n := 16) (S := fun w' => w'.cell? ⟨gb181, 0, none⟩ = some (.int .i64 ((rd_T26 l0 x11_1).f0.f0)) ∧ w'.cell? ⟨gb181, 1, none⟩ = some (.string ((rd_T26 l0 x11_1).f0.f1)) ∧ w'.cell? ⟨gb181, 2, none⟩ = some (.string ((rd_T26 l0 x11_1).f1)) ∧ w'.cell? ⟨gb181, 3, none⟩ = some (.slice A180_3 ((rd_T26 l0 x11_1).f2).length c180_3) ∧ w'.cell? ⟨gb181, 4, none⟩ = some (.slice A180_4 ((rd_T26 l0 x11_1).f3).length c180_4) ∧ w'.cell? ⟨gb179, 0, none⟩ = some (.string a1_0) ∧ w'.cell? ⟨gb179, 1, none⟩ = some (.string a1_1) ∧ w'.cell? ⟨gb179, 2, none⟩ = some (.string a1_2) ∧ w'.cell? ⟨gb179, 3, none⟩ = some (.slice A1_3 l1_3.length c1_3) ∧ w'.cell? ⟨gb179, 4, none⟩ = some (.slice A1_4 l1_4.length c1_4) ∧ w'.cell? (ad180.add ((x6_1).toNat * 5)) = some (.int .i64 ((rd_T26 l0 x6_1).f0.f0)) ∧ w'.cell? ⟨(ad180.add ((x6_1).toNat * 5)).block, (ad180.add ((x6_1).toNat * 5)).off + 1, none⟩ = some (.string ((rd_T26 l0 x6_1).f0.f1)) ∧ w'.cell? ⟨(ad180.add ((x6_1).toNat * 5)).block, (ad180.add ((x6_1).toNat * 5)).off + 2, none⟩ = some (.string ((rd_T26 l0 x6_1).f1)) ∧ w'.cell? ⟨(ad180.add ((x6_1).toNat * 5)).block, (ad180.add ((x6_1).toNat * 5)).off + 3, none⟩ = some (.slice A183_3 ((rd_T26 l0 x6_1).f2).length c183_3) ∧ w'.cell? ⟨(ad180.add ((x6_1).toNat * 5)).block, (ad180.add ((x6_1).toNat * 5)).off + 4, none⟩ = some (.slice A183_4 ((rd_T26 l0 x6_1).f3).length c183_4)) (ds := []) #[false, false, false, false, false, false, false, false, false, false, false, false, false, false, false, false] kr_ rfl rfl ⟨(blk_cell BK181.out 0).trans rfl, (blk_cell BK181.out 1).trans rfl, (blk_cell BK181.out 2).trans rfl, (blk_cell BK181.out 3).trans rfl, (blk_cell BK181.out 4).trans rfl, (blk_cell BK179.out 0).trans rfl, (blk_cell BK179.out 1).trans rfl, (blk_cell BK179.out 2).trans rfl, (blk_cell BK179.out 3).trans rfl, (blk_cell BK179.out 4).trans rfl, ((HB.out.cell (World.block_lt_of_cell? w _ hw183_0)).trans hw183_0), ((HB.out.cell (World.block_lt_of_cell? w _ hw183_1)).trans hw183_1), ((HB.out.cell (World.block_lt_of_cell? w _ hw183_2)).trans hw183_2), ((HB.out.cell (World.block_lt_of_cell? w _ hw183_3)).trans hw183_3), ((HB.out.cell (World.block_lt_of_cell? w _ hw183_4)).trans hw183_4)⟩ (fun hHeld => ?_); refine with_tabW rule_First.tab5 rule_First.bits5 (fun HT_ HW_ => ?_)
           generalize w23.drew = w24 at BK179 BK181 HB HR183_3 HR183_4 hx183_0 hx183_1 hx183_2 hx183_3 hx183_4 hHeld ⊢
           refine take_ (i := 0) (N := some 16) (v := ?_) (a' := ?_) #[true, false, false, false, false, false, false, false, false, false, false, false, false, false, false, false] rfl rfl (take_ofW HT_.out HW_.out kr_) (fun _ _ _ h => h) (Or.inl ⟨by rfl, ?_⟩) hHeld ?_ ?_
           rotate_left
           ·rintro w' ⟨s0, s1, s2, s3, s4, s5, s6, s7, s8, s9, s10, s11, s12, s13, s14⟩
            go_simp
            with_reducible rfl
           rotate_left
           ·simp only [Act.put, sx_, s0_, s1_, i64_w, i32_w]
            rfl
           refine take_ (i := 1) (N := some 17) (v := ?_) (a' := ?_) #[true, true, false, false, false, false, false, false, false, false, false, false, false, false, false, false] rfl rfl (take_ofW HT_.out HW_.out kr_) (fun _ _ _ h => h) (Or.inl ⟨by rfl, ?_⟩) hHeld ?_ ?_
           rotate_left
           ·rintro w' ⟨s0, s1, s2, s3, s4, s5, s6, s7, s8, s9, s10, s11, s12, s13, s14⟩
            go_simp
            with_reducible rfl
           rotate_left
           ·simp only [Act.put, sx_, s0_, s1_, i64_w, i32_w]
            rfl
           refine one_ (i := 2) (N := some 18) #[true, true, true, false, false, false, false, false, false, false, false, false, false, false, false, false] rfl rfl (one_of HT_.out kr_) (by decide) (fun K hK => ?_)
           refine goes_ Tryd.func14 kr_ rfl #[.agg #[.int .i64 ((rd_T26 l0 x11_1).f0.f0), .string ((rd_T26 l0 x11_1).f0.f1), .string ((rd_T26 l0 x11_1).f1), .slice A180_3 ((rd_T26 l0 x11_1).f2).length c180_3, .slice A180_4 ((rd_T26 l0 x11_1).f3).length c180_4], .agg #[.string a1_0, .string a1_1, .string a1_2, .slice A1_3 l1_3.length c1_3, .slice A1_4 l1_4.length c1_4]] (by rfl) rfl rfl rl_ ?_
           with_reducible refine (rule_Holds.calls k1 ((rd_T26 l0 x11_1).f0.f0) ((rd_T26 l0 x11_1).f0.f1) ((rd_T26 l0 x11_1).f1) _ _ ((rd_T26 l0 x11_1).f2) _ _ ((rd_T26 l0 x11_1).f3) a1_0 a1_1 a1_2 _ _ l1_3 _ _ l1_4 true _ ?side1 ?side2 ?side3 ?side4 ?side5 ?side6 ?side7 ?side8 A7.out).mono ?_
           (case side1 => exact C_ (Kd.C_below HR180_3.out HB.out))
           (case side2 => exact HC180_3.out)
           (case side3 => exact C_ (Kd.C_below HR180_4.out HB.out))
           (case side4 => exact HC180_4.out)
           (case side5 => exact C_ (Kd.C_below HR1_3.out HB.out))
           (case side6 => exact HC1_3.out)
           (case side7 => exact C_ (Kd.C_below HR1_4.out HB.out))
           (case side8 => exact HC1_4.out)
           rintro e w25 ⟨rfl, hb⟩
           refine ⟨_, rfl, ?_⟩
           have n0_ := am_ (blk_below (g := gb179) (o := .cells #[.string a1_0, .string a1_1, .string a1_2, .slice A1_3 l1_3.length c1_3, .slice A1_4 l1_4.length c1_4] 28 (0, 0)) (blk_ BK179.out) hb)
           have n1_ := am_ (blk_below (g := gb181) (o := .cells #[.int .i64 ((rd_T26 l0 x11_1).f0.f0), .string ((rd_T26 l0 x11_1).f0.f1), .string ((rd_T26 l0 x11_1).f1), .slice A180_3 ((rd_T26 l0 x11_1).f2).length c180_3, .slice A180_4 ((rd_T26 l0 x11_1).f3).length c180_4] 26 (0, 0)) (blk_ BK181.out) hb)
           have n2_ := am_ (below_step (bel_ HB.out) hb)
           clear BK179 BK181 HB
           have BK179 := n0_
           have BK181 := n1_
           have HB := n2_
           clear n0_ n1_ n2_
           (try clear hb)
           (try clear hb2)
           (try clear hk)
           (try clear hi)
           refine hK.out _ _ ⟨(blk_cell BK181.out 0).trans rfl, (blk_cell BK181.out 1).trans rfl, (blk_cell BK181.out 2).trans rfl, (blk_cell BK181.out 3).trans rfl, (blk_cell BK181.out 4).trans rfl, (blk_cell BK179.out 0).trans rfl, (blk_cell BK179.out 1).trans rfl, (blk_cell BK179.out 2).trans rfl, (blk_cell BK179.out 3).trans rfl, (blk_cell BK179.out 4).trans rfl, ((HB.out.cell (World.block_lt_of_cell? w _ hw183_0)).trans hw183_0), ((HB.out.cell (World.block_lt_of_cell? w _ hw183_1)).trans hw183_1), ((HB.out.cell (World.block_lt_of_cell? w _ hw183_2)).trans hw183_2), ((HB.out.cell (World.block_lt_of_cell? w _ hw183_3)).trans hw183_3), ((HB.out.cell (World.block_lt_of_cell? w _ hw183_4)).trans hw183_4)⟩ (fun hHeld => ?_)
           clear hK K
           refine norm_ (a' := ?_) ?_ ?_
           rotate_left
           ·show Act.put _ (some 18) _ = _
            simp only [Act.put, sx_, s0_, s1_, i64_w, i32_w]
            rfl
           refine pure_ (i := 3) (N := some 19) (v := ?_) (a' := ?_) #[true, true, true, true, false, false, false, false, false, false, false, false, false, false, false, false] rfl rfl (any_of HT_.out kr_) (fun _ _ _ h => h) (Or.inl ⟨by rfl, ?_⟩) ?_ ?_
           rotate_left
           ·intro w'
            go_simp
            with_reducible rfl
           rotate_left
           ·simp only [Act.put, sx_, s0_, s1_, i64_w, i32_w]
            rfl
           refine pure_ (i := 4) (N := some 20) (v := ?_) (a' := ?_) #[true, true, true, true, true, false, false, false, false, false, false, false, false, false, false, false] rfl rfl (any_of HT_.out kr_) (fun _ _ _ h => h) (Or.inl ⟨by rfl, ?_⟩) ?_ ?_
           rotate_left
           ·intro w'
            go_simp
            with_reducible rfl
           rotate_left
           ·simp only [Act.put, sx_, s0_, s1_, i64_w, i32_w]
            rfl
           refine pure_ (i := 5) (N := some 21) (v := ?_) (a' := ?_) #[true, true, true, true, true, true, false, false, false, false, false, false, false, false, false, false] rfl rfl (any_of HT_.out kr_) (fun _ _ _ h => h) (Or.inl ⟨by rfl, ?_⟩) ?_ ?_
           rotate_left
           ·intro w'
            go_simp
            with_reducible rfl
           rotate_left
           ·simp only [Act.put, sx_, s0_, s1_, i64_w, i32_w]
            rfl
           refine pure_ (i := 6) (N := some 22) (v := ?_) (a' := ?_) #[true, true, true, true, true, true, true, false, false, false, false, false, false, false, false, false] rfl rfl (any_of HT_.out kr_) (fun _ _ _ h => h) (Or.inl ⟨by rfl, ?_⟩) ?_ ?_
           rotate_left
           ·intro w'
            go_simp
            with_reducible rfl
           rotate_left
           ·simp only [Act.put, sx_, s0_, s1_, i64_w, i32_w]
            rfl
           refine pure_ (i := 8) (N := some 24) (v := ?_) (a' := ?_) #[true, true, true, true, true, true, true, false, true, false, false, false, false, false, false, false] rfl rfl (any_of HT_.out kr_) (fun _ _ _ h => h) (Or.inl ⟨by rfl, ?_⟩) ?_ ?_
           rotate_left
           ·intro w'
            go_simp
            with_reducible rfl
           rotate_left
           ·simp only [Act.put, sx_, s0_, s1_, i64_w, i32_w]
            rfl
           refine pure_ (i := 9) (N := some 25) (v := ?_) (a' := ?_) #[true, true, true, true, true, true, true, false, true, true, false, false, false, false, false, false] rfl rfl (any_of HT_.out kr_) (fun _ _ _ h => h) (Or.inl ⟨by rfl, ?_⟩) ?_ ?_
           rotate_left
           ·intro w'
            go_simp
            with_reducible rfl
           rotate_left
           ·simp only [Act.put, sx_, s0_, s1_, i64_w, i32_w]
            rfl
           refine pure_ (i := 10) (N := some 26) (v := ?_) (a' := ?_) #[true, true, true, true, true, true, true, false, true, true, true, false, false, false, false, false] rfl rfl (any_of HT_.out kr_) (fun _ _ _ h => h) (Or.inl ⟨by rfl, ?_⟩) ?_ ?_
           rotate_left
           ·intro w'
            go_simp
            with_reducible rfl
           rotate_left
           ·simp only [Act.put, sx_, s0_, s1_, i64_w, i32_w]
            rfl
           refine take_ (i := 7) (N := some 23) (v := ?_) (a' := ?_) #[true, true, true, true, true, true, true, true, true, true, true, false, false, false, false, false] rfl rfl (take_ofW HT_.out HW_.out kr_) (fun _ _ _ h => h) (Or.inl ⟨by rfl, ?_⟩) hHeld ?_ ?_
           rotate_left
           ·rintro w' ⟨s0, s1, s2, s3, s4, s5, s6, s7, s8, s9, s10, s11, s12, s13, s14⟩
            go_simp
            with_reducible rfl
           rotate_left
           ·simp only [Act.put, sx_, s0_, s1_, i64_w, i32_w]
            rfl
           refine take_ (i := 11) (N := some 27) (v := ?_) (a' := ?_) #[true, true, true, true, true, true, true, true, true, true, true, true, false, false, false, false] rfl rfl (take_ofW HT_.out HW_.out kr_) (fun _ _ _ h => h) (Or.inl ⟨by rfl, ?_⟩) hHeld ?_ ?_
           rotate_left
           ·rintro w' ⟨s0, s1, s2, s3, s4, s5, s6, s7, s8, s9, s10, s11, s12, s13, s14⟩
            go_simp
            with_reducible rfl
           rotate_left
           ·simp only [Act.put, sx_, s0_, s1_, i64_w, i32_w]
            rfl
           refine one_ (i := 12) (N := some 28) #[true, true, true, true, true, true, true, true, true, true, true, true, true, false, false, false] rfl rfl (one_of HT_.out kr_) (by decide) (fun K hK => ?_)
           refine goes_ Tryd.func19 kr_ rfl #[.agg #[.int .i64 ((rd_T26 l0 x11_1).f0.f0), .string ((rd_T26 l0 x11_1).f0.f1), .string ((rd_T26 l0 x11_1).f1), .slice A180_3 ((rd_T26 l0 x11_1).f2).length c180_3, .slice A180_4 ((rd_T26 l0 x11_1).f3).length c180_4], .agg #[.int .i64 ((rd_T26 l0 x6_1).f0.f0), .string ((rd_T26 l0 x6_1).f0.f1), .string ((rd_T26 l0 x6_1).f1), .slice A183_3 ((rd_T26 l0 x6_1).f2).length c183_3, .slice A183_4 ((rd_T26 l0 x6_1).f3).length c183_4]] (by rfl) rfl rfl rl_ ?_
           with_reducible refine (rule_Order.calls ((rd_T26 l0 x11_1).f0.f0) ((rd_T26 l0 x11_1).f0.f1) ((rd_T26 l0 x11_1).f1) _ _ ((rd_T26 l0 x11_1).f2) _ _ ((rd_T26 l0 x11_1).f3) ((rd_T26 l0 x6_1).f0.f0) ((rd_T26 l0 x6_1).f0.f1) ((rd_T26 l0 x6_1).f1) _ _ ((rd_T26 l0 x6_1).f2) _ _ ((rd_T26 l0 x6_1).f3) t184 _ ?side1 ?side2 ?side3 ?side4 ?side5 ?side6 ?side7 ?side8 A18.out).mono ?_
           (case side1 => exact C_ (Kd.C_below HR180_3.out HB.out))
           (case side2 => exact HC180_3.out)
           (case side3 => exact C_ (Kd.C_below HR180_4.out HB.out))
           (case side4 => exact HC180_4.out)
           (case side5 => exact C_ (Kd.C_below HR183_3.out HB.out))
           (case side6 => exact HC183_3.out)
           (case side7 => exact C_ (Kd.C_below HR183_4.out HB.out))
           (case side8 => exact HC183_4.out)
           rintro e w26 ⟨rfl, hb⟩
           refine ⟨_, rfl, ?_⟩
           have n0_ := am_ (blk_below (g := gb179) (o := .cells #[.string a1_0, .string a1_1, .string a1_2, .slice A1_3 l1_3.length c1_3, .slice A1_4 l1_4.length c1_4] 28 (0, 0)) (blk_ BK179.out) hb)
           have n1_ := am_ (blk_below (g := gb181) (o := .cells #[.int .i64 ((rd_T26 l0 x11_1).f0.f0), .string ((rd_T26 l0 x11_1).f0.f1), .string ((rd_T26 l0 x11_1).f1), .slice A180_3 ((rd_T26 l0 x11_1).f2).length c180_3, .slice A180_4 ((rd_T26 l0 x11_1).f3).length c180_4] 26 (0, 0)) (blk_ BK181.out) hb)
           have n2_ := am_ (below_step (bel_ HB.out) hb)
           clear BK179 BK181 HB
           have BK179 := n0_
           have BK181 := n1_
           have HB := n2_
           clear n0_ n1_ n2_
           (try clear hb)
           (try clear hb2)
           (try clear hk)
           (try clear hi)
           refine hK.out _ _ ⟨(blk_cell BK181.out 0).trans rfl, (blk_cell BK181.out 1).trans rfl, (blk_cell BK181.out 2).trans rfl, (blk_cell BK181.out 3).trans rfl, (blk_cell BK181.out 4).trans rfl, (blk_cell BK179.out 0).trans rfl, (blk_cell BK179.out 1).trans rfl, (blk_cell BK179.out 2).trans rfl, (blk_cell BK179.out 3).trans rfl, (blk_cell BK179.out 4).trans rfl, ((HB.out.cell (World.block_lt_of_cell? w _ hw183_0)).trans hw183_0), ((HB.out.cell (World.block_lt_of_cell? w _ hw183_1)).trans hw183_1), ((HB.out.cell (World.block_lt_of_cell? w _ hw183_2)).trans hw183_2), ((HB.out.cell (World.block_lt_of_cell? w _ hw183_3)).trans hw183_3), ((HB.out.cell (World.block_lt_of_cell? w _ hw183_4)).trans hw183_4)⟩ (fun hHeld => ?_)
           clear hK K
           refine norm_ (a' := ?_) ?_ ?_
           rotate_left
           ·show Act.put _ (some 28) _ = _
            simp only [Act.put, sx_, s0_, s1_, i64_w, i32_w]
            rfl
           refine pure_ (i := 13) (N := some 29) (v := ?_) (a' := ?_) #[true, true, true, true, true, true, true, true, true, true, true, true, true, true, false, false] rfl rfl (any_of HT_.out kr_) (fun _ _ _ h => h) (Or.inl ⟨by rfl, ?_⟩) ?_ ?_
           rotate_left
           ·intro w'
            go_simp
            with_reducible rfl
           rotate_left
           ·simp only [Act.put, sx_, s0_, s1_, i64_w, i32_w]
            rfl
           refine pure_ (i := 14) (N := some 30) (v := ?_) (a' := ?_) #[true, true, true, true, true, true, true, true, true, true, true, true, true, true, true, false] rfl rfl (any_of HT_.out kr_) (fun _ _ _ h => h) (Or.inl ⟨by rfl, ?_⟩) ?_ ?_
           rotate_left
           ·intro w'
            go_simp
            with_reducible rfl
           rotate_left
           ·simp only [Act.put, sx_, s0_, s1_, i64_w, i32_w]
            rfl
           refine pure_ (i := 15) (N := some 31) (v := ?_) (a' := ?_) #[true, true, true, true, true, true, true, true, true, true, true, true, true, true, true, true] rfl rfl (any_of HT_.out kr_) (fun _ _ _ h => h) (Or.inl ⟨by rfl, ?_⟩) ?_ ?_
           rotate_left
           ·intro w'
            go_simp
            with_reducible rfl
           rotate_left
           ·simp only [Act.put, sx_, s0_, s1_, i64_w, i32_w]
            rfl
           refine done_ (done_of HT_.out kr_) ?_
           try go_wp2
           go_roundg k1
           case measure => have := HK1.out; omega
           case rel => exact ⟨(x11_1), (wrap64 (x11_1 + 1)), sd_, sd_, H', ⟨by have := HK1.out; omega⟩, ⟨by (with_reducible repeat (first | refine blk_drewN ?_ _ | refine blk_drew ?_ | refine blk_alloc ?_ _)); exact BK179.out⟩, ⟨bel_ HB.out⟩⟩
          ·rw [if_neg c19] at H
           have c19b0 : decide (t184 < 0) = false := decide_eq_false c19
           clear c19
           have H' := Aside0.mk H
           clear H
           have p180 : 0 ≤ (x11_1 : Int) := of_decide_eq_true as_
           have q180 : x11_1 < (l0.length : Int) := of_decide_eq_true as_
           obtain ⟨ad180, A180_3, c180_3, A180_4, c180_4, e180, hx180_0, hx180_1, hx180_2, hx180_3, hx180_4, hl180_3, hi180_3, hl180_4, hi180_4⟩ := at_T26 HR0.out x11_1 p180 q180
           cases e180
           replace hx180_0 := (HB.out.cell (World.block_lt_of_cell? w _ hx180_0)).trans hx180_0
           replace hx180_1 := (HB.out.cell (World.block_lt_of_cell? w _ hx180_1)).trans hx180_1
           replace hx180_2 := (HB.out.cell (World.block_lt_of_cell? w _ hx180_2)).trans hx180_2
           replace hx180_3 := (HB.out.cell (World.block_lt_of_cell? w _ hx180_3)).trans hx180_3
           replace hx180_4 := (HB.out.cell (World.block_lt_of_cell? w _ hx180_4)).trans hx180_4
           have HR180_3 := Aside0.mk hi180_3
           have HC180_3 := Aside0.mk hl180_3
           clear hi180_3 hl180_3
           have HR180_4 := Aside0.mk hi180_4
           have HC180_4 := Aside0.mk hl180_4
           clear hi180_4 hl180_4
           replace p180 := eq_true p180
           replace q180 := eq_true q180
           try go_wp2_with (first | ((with_reducible refine gate_dst (N := 8) rfl ?_); refine box_event ?hg (N := 8) ?hd (cs := #[.int .i64 0, .string (⟨#[]⟩ : ByteArray), .string (⟨#[]⟩ : ByteArray), .slice none 0 0, .slice none 0 0]) (t := 26) ?hr ?_; (case hd => rfl); (case hg => rfl); (case hr => first | (go_simp; done) | (go_simp; rfl)); intro gb181 hg w27 hbox hb; have n0_ := am_ (blk_below (g := gb179) (o := .cells #[.string a1_0, .string a1_1, .string a1_2, .slice A1_3 l1_3.length c1_3, .slice A1_4 l1_4.length c1_4] 28 (0, 0)) (blk_ BK179.out) hb); have n1_ := am_ (below_step (bel_ HB.out) hb); have n2_ := am_ (hbox); have n3_ := am_ ((by rw [hg]; exact (below_size (bel_ HB.out)) : w.heap.size ≤ gb181)); have n4_ := am_ ((by rw [hg]; exact (below_size (bel_ HB.out)) : w.heap.size ≤ gb181)); have n5_ := am_ ((by rw [hg]; exact Nat.ne_of_lt (blk_lt (g := gb179) (o := .cells #[.string a1_0, .string a1_1, .string a1_2, .slice A1_3 l1_3.length c1_3, .slice A1_4 l1_4.length c1_4] 28 (0, 0)) (blk_ BK179.out)) : gb179 ≠ gb181)); have n6_ := am_ ((by rw [hg]; exact Nat.ne_of_gt (blk_lt (g := gb179) (o := .cells #[.string a1_0, .string a1_1, .string a1_2, .slice A1_3 l1_3.length c1_3, .slice A1_4 l1_4.length c1_4] 28 (0, 0)) (blk_ BK179.out)) : gb181 ≠ gb179)); clear BK179 HB; have BK179 := n0_; have HB := n1_; have BK181 := n2_; have GW181 := n3_; have GE181 := n4_; have NB179_181 := n5_; have NB181_179 := n6_; clear n0_ n1_ n2_ n3_ n4_ n5_ n6_ hb hbox hg; have hnb28 := NB181_179.out; have hnc28 := NB179_181.out; have hcz29_0 : w27.cell? ⟨gb181, 0, none⟩ = some (.int .i64 0) := (blk_cell BK181.out 0).trans rfl; have hcz29_1 : w27.cell? ⟨gb181, 1, none⟩ = some (.string (⟨#[]⟩ : ByteArray)) := (blk_cell BK181.out 1).trans rfl; have hcz29_2 : w27.cell? ⟨gb181, 2, none⟩ = some (.string (⟨#[]⟩ : ByteArray)) := (blk_cell BK181.out 2).trans rfl; have hcz29_3 : w27.cell? ⟨gb181, 3, none⟩ = some (.slice none 0 0) := (blk_cell BK181.out 3).trans rfl; have hcz29_4 : w27.cell? ⟨gb181, 4, none⟩ = some (.slice none 0 0) := (blk_cell BK181.out 4).trans rfl; have hfz29_0 := blk_frozen BK181.out 0; have hfz29_1 := blk_frozen BK181.out 1; have hfz29_2 := blk_frozen BK181.out 2; have hfz29_3 := blk_frozen BK181.out 3; have hfz29_4 := blk_frozen BK181.out 4))
           have n0_ : Aside0 ((((((w27.setCell ⟨gb181, 0, none⟩ (.int .i64 ((rd_T26 l0 x11_1).f0.f0))).setCell ⟨gb181, 1, none⟩ (.string ((rd_T26 l0 x11_1).f0.f1))).setCell ⟨gb181, 2, none⟩ (.string ((rd_T26 l0 x11_1).f1))).setCell ⟨gb181, 3, none⟩ (.slice A180_3 ((rd_T26 l0 x11_1).f2).length c180_3)).setCell ⟨gb181, 4, none⟩ (.slice A180_4 ((rd_T26 l0 x11_1).f3).length c180_4)).heap[gb179]? = some (.cells #[.string a1_0, .string a1_1, .string a1_2, .slice A1_3 l1_3.length c1_3, .slice A1_4 l1_4.length c1_4] 28 (0, 0))) := ⟨by (with_reducible repeat (first | refine blk_drewN ?_ _ | refine blk_drew ?_ | refine blk_alloc ?_ _)); refine blk_far ?_ NB179_181.out _; (with_reducible repeat (first | refine blk_drewN ?_ _ | refine blk_drew ?_ | refine blk_alloc ?_ _)); refine blk_far ?_ NB179_181.out _; (with_reducible repeat (first | refine blk_drewN ?_ _ | refine blk_drew ?_ | refine blk_alloc ?_ _)); refine blk_far ?_ NB179_181.out _; (with_reducible repeat (first | refine blk_drewN ?_ _ | refine blk_drew ?_ | refine blk_alloc ?_ _)); refine blk_far ?_ NB179_181.out _; (with_reducible repeat (first | refine blk_drewN ?_ _ | refine blk_drew ?_ | refine blk_alloc ?_ _)); refine blk_far ?_ NB179_181.out _; (with_reducible repeat (first | refine blk_drewN ?_ _ | refine blk_drew ?_ | refine blk_alloc ?_ _)); exact BK179.out⟩
           have n1_ : Aside0 ((((((w27.setCell ⟨gb181, 0, none⟩ (.int .i64 ((rd_T26 l0 x11_1).f0.f0))).setCell ⟨gb181, 1, none⟩ (.string ((rd_T26 l0 x11_1).f0.f1))).setCell ⟨gb181, 2, none⟩ (.string ((rd_T26 l0 x11_1).f1))).setCell ⟨gb181, 3, none⟩ (.slice A180_3 ((rd_T26 l0 x11_1).f2).length c180_3)).setCell ⟨gb181, 4, none⟩ (.slice A180_4 ((rd_T26 l0 x11_1).f3).length c180_4)).heap[gb181]? = some (.cells #[.int .i64 ((rd_T26 l0 x11_1).f0.f0), .string ((rd_T26 l0 x11_1).f0.f1), .string ((rd_T26 l0 x11_1).f1), .slice A180_3 ((rd_T26 l0 x11_1).f2).length c180_3, .slice A180_4 ((rd_T26 l0 x11_1).f3).length c180_4] 26 (0, 0))) := ⟨by (with_reducible repeat (first | refine blk_drewN ?_ _ | refine blk_drew ?_ | refine blk_alloc ?_ _)); refine blk_put (cs := #[.int .i64 ((rd_T26 l0 x11_1).f0.f0), .string ((rd_T26 l0 x11_1).f0.f1), .string ((rd_T26 l0 x11_1).f1), .slice A180_3 ((rd_T26 l0 x11_1).f2).length c180_3, .slice none 0 0]) ?_ 4 _ rfl; (with_reducible repeat (first | refine blk_drewN ?_ _ | refine blk_drew ?_ | refine blk_alloc ?_ _)); refine blk_put (cs := #[.int .i64 ((rd_T26 l0 x11_1).f0.f0), .string ((rd_T26 l0 x11_1).f0.f1), .string ((rd_T26 l0 x11_1).f1), .slice none 0 0, .slice none 0 0]) ?_ 3 _ rfl; (with_reducible repeat (first | refine blk_drewN ?_ _ | refine blk_drew ?_ | refine blk_alloc ?_ _)); refine blk_put (cs := #[.int .i64 ((rd_T26 l0 x11_1).f0.f0), .string ((rd_T26 l0 x11_1).f0.f1), .string (⟨#[]⟩ : ByteArray), .slice none 0 0, .slice none 0 0]) ?_ 2 _ rfl; (with_reducible repeat (first | refine blk_drewN ?_ _ | refine blk_drew ?_ | refine blk_alloc ?_ _)); refine blk_put (cs := #[.int .i64 ((rd_T26 l0 x11_1).f0.f0), .string (⟨#[]⟩ : ByteArray), .string (⟨#[]⟩ : ByteArray), .slice none 0 0, .slice none 0 0]) ?_ 1 _ rfl; (with_reducible repeat (first | refine blk_drewN ?_ _ | refine blk_drew ?_ | refine blk_alloc ?_ _)); refine blk_put (cs := #[.int .i64 0, .string (⟨#[]⟩ : ByteArray), .string (⟨#[]⟩ : ByteArray), .slice none 0 0, .slice none 0 0]) ?_ 0 _ rfl; (with_reducible repeat (first | refine blk_drewN ?_ _ | refine blk_drew ?_ | refine blk_alloc ?_ _)); exact BK181.out⟩
           have n2_ : Aside0 (Below w.heap.size w (((((w27.setCell ⟨gb181, 0, none⟩ (.int .i64 ((rd_T26 l0 x11_1).f0.f0))).setCell ⟨gb181, 1, none⟩ (.string ((rd_T26 l0 x11_1).f0.f1))).setCell ⟨gb181, 2, none⟩ (.string ((rd_T26 l0 x11_1).f1))).setCell ⟨gb181, 3, none⟩ (.slice A180_3 ((rd_T26 l0 x11_1).f2).length c180_3)).setCell ⟨gb181, 4, none⟩ (.slice A180_4 ((rd_T26 l0 x11_1).f3).length c180_4))) := ⟨bel_ HB.out⟩
           (try clear BK179)
           (try clear BK181)
           (try clear HB)
           generalize (((((w27.setCell ⟨gb181, 0, none⟩ (.int .i64 ((rd_T26 l0 x11_1).f0.f0))).setCell ⟨gb181, 1, none⟩ (.string ((rd_T26 l0 x11_1).f0.f1))).setCell ⟨gb181, 2, none⟩ (.string ((rd_T26 l0 x11_1).f1))).setCell ⟨gb181, 3, none⟩ (.slice A180_3 ((rd_T26 l0 x11_1).f2).length c180_3)).setCell ⟨gb181, 4, none⟩ (.slice A180_4 ((rd_T26 l0 x11_1).f3).length c180_4)) = w30 at n0_ n1_ n2_ ⊢
           have BK179 := n0_
           have BK181 := n1_
           have HB := n2_
           clear n0_ n1_ n2_
           have n0_ := am_ (blk_drew BK179.out)
           have n1_ := am_ (blk_drew BK181.out)
           have n2_ := am_ (below_drew1 HB.out)
           clear BK179 BK181 HB
           have BK179 := n0_
           have BK181 := n1_
           have HB := n2_
           clear n0_ n1_ n2_
           have p183 : 0 ≤ (x6_1 : Int) := of_decide_eq_true as_
           have q183 : x6_1 < (l0.length : Int) := of_decide_eq_true as_
           obtain ⟨ad183, A183_3, c183_3, A183_4, c183_4, e183, hx183_0, hx183_1, hx183_2, hx183_3, hx183_4, hl183_3, hi183_3, hl183_4, hi183_4⟩ := at_T26 HR0.out x6_1 p183 q183
           have hw183_4 := hx183_4
           have hw183_3 := hx183_3
           have hw183_2 := hx183_2
           have hw183_1 := hx183_1
           have hw183_0 := hx183_0
           obtain rfl : ad180 = ad183 := (by injection e183)
           replace hx183_0 := (HB.out.cell (World.block_lt_of_cell? w _ hx183_0)).trans hx183_0
           replace hx183_1 := (HB.out.cell (World.block_lt_of_cell? w _ hx183_1)).trans hx183_1
           replace hx183_2 := (HB.out.cell (World.block_lt_of_cell? w _ hx183_2)).trans hx183_2
           replace hx183_3 := (HB.out.cell (World.block_lt_of_cell? w _ hx183_3)).trans hx183_3
           replace hx183_4 := (HB.out.cell (World.block_lt_of_cell? w _ hx183_4)).trans hx183_4
           have HR183_3 := Aside0.mk hi183_3
           have HC183_3 := Aside0.mk hl183_3
           clear hi183_3 hl183_3
           have HR183_4 := Aside0.mk hi183_4
           have HC183_4 := Aside0.mk hl183_4
           clear hi183_4 hl183_4
           replace p183 := eq_true p183
           replace q183 := eq_true q183
           refine start_ (n := 16) (S := fun w' => w'.cell? ⟨gb181, 0, none⟩ = some (.int .i64 ((rd_T26 l0 x11_1).f0.f0)) ∧ w'.cell? ⟨gb181, 1, none⟩ = some (.string ((rd_T26 l0 x11_1).f0.f1)) ∧ w'.cell? ⟨gb181, 2, none⟩ = some (.string ((rd_T26 l0 x11_1).f1)) ∧ w'.cell? ⟨gb181, 3, none⟩ = some (.slice A180_3 ((rd_T26 l0 x11_1).f2).length c180_3) ∧ w'.cell? ⟨gb181, 4, none⟩ = some (.slice A180_4 ((rd_T26 l0 x11_1).f3).length c180_4) ∧ w'.cell? ⟨gb179, 0, none⟩ = some (.string a1_0) ∧ w'.cell? ⟨gb179, 1, none⟩ = some (.string a1_1) ∧ w'.cell? ⟨gb179, 2, none⟩ = some (.string a1_2) ∧ w'.cell? ⟨gb179, 3, none⟩ = some (.slice A1_3 l1_3.length c1_3) ∧ w'.cell? ⟨gb179, 4, none⟩ = some (.slice A1_4 l1_4.length c1_4) ∧ w'.cell? (ad180.add ((x6_1).toNat * 5)) = some (.int .i64 ((rd_T26 l0 x6_1).f0.f0)) ∧ w'.cell? ⟨(ad180.add ((x6_1).toNat * 5)).block, (ad180.add ((x6_1).toNat * 5)).off + 1, none⟩ = some (.string ((rd_T26 l0 x6_1).f0.f1)) ∧ w'.cell? ⟨(ad180.add ((x6_1).toNat * 5)).block, (ad180.add ((x6_1).toNat * 5)).off + 2, none⟩ = some (.string ((rd_T26 l0 x6_1).f1)) ∧ w'.cell? ⟨(ad180.add ((x6_1).toNat * 5)).block, (ad180.add ((x6_1).toNat * 5)).off + 3, none⟩ = some (.slice A183_3 ((rd_T26 l0 x6_1).f2).length c183_3) ∧ w'.cell? ⟨(ad180.add ((x6_1).toNat * 5)).block, (ad180.add ((x6_1).toNat * 5)).off + 4, none⟩ = some (.slice A183_4 ((rd_T26 l0 x6_1).f3).length c183_4)) (ds := []) #[false, false, false, false, false, false, false, false, false, false, false, false, false, false, false, false] kr_ rfl rfl ⟨(blk_cell BK181.out 0).trans rfl, (blk_cell BK181.out 1).trans rfl, (blk_cell BK181.out 2).trans rfl, (blk_cell BK181.out 3).trans rfl, (blk_cell BK181.out 4).trans rfl, (blk_cell BK179.out 0).trans rfl, (blk_cell BK179.out 1).trans rfl, (blk_cell BK179.out 2).trans rfl, (blk_cell BK179.out 3).trans rfl, (blk_cell BK179.out 4).trans rfl, ((HB.out.cell (World.block_lt_of_cell? w _ hw183_0)).trans hw183_0), ((HB.out.cell (World.block_lt_of_cell? w _ hw183_1)).trans hw183_1), ((HB.out.cell (World.block_lt_of_cell? w _ hw183_2)).trans hw183_2), ((HB.out.cell (World.block_lt_of_cell? w _ hw183_3)).trans hw183_3), ((HB.out.cell (World.block_lt_of_cell? w _ hw183_4)).trans hw183_4)⟩ (fun hHeld => ?_); refine with_tabW rule_First.tab5 rule_First.bits5 (fun HT_ HW_ => ?_)
           generalize w30.drew = w31 at BK179 BK181 HB HR183_3 HR183_4 hx183_0 hx183_1 hx183_2 hx183_3 hx183_4 hHeld ⊢
           refine take_ (i := 0) (N := some 16) (v := ?_) (a' := ?_) #[true, false, false, false, false, false, false, false, false, false, false, false, false, false, false, false] rfl rfl (take_ofW HT_.out HW_.out kr_) (fun _ _ _ h => h) (Or.inl ⟨by rfl, ?_⟩) hHeld ?_ ?_
           rotate_left
           ·rintro w' ⟨s0, s1, s2, s3, s4, s5, s6, s7, s8, s9, s10, s11, s12, s13, s14⟩
            go_simp
            with_reducible rfl
           rotate_left
           ·simp only [Act.put, sx_, s0_, s1_, i64_w, i32_w]
            rfl
           refine take_ (i := 1) (N := some 17) (v := ?_) (a' := ?_) #[true, true, false, false, false, false, false, false, false, false, false, false, false, false, false, false] rfl rfl (take_ofW HT_.out HW_.out kr_) (fun _ _ _ h => h) (Or.inl ⟨by rfl, ?_⟩) hHeld ?_ ?_
           rotate_left
           ·rintro w' ⟨s0, s1, s2, s3, s4, s5, s6, s7, s8, s9, s10, s11, s12, s13, s14⟩
            go_simp
            with_reducible rfl
           rotate_left
           ·simp only [Act.put, sx_, s0_, s1_, i64_w, i32_w]
            rfl
           refine one_ (i := 2) (N := some 18) #[true, true, true, false, false, false, false, false, false, false, false, false, false, false, false, false] rfl rfl (one_of HT_.out kr_) (by decide) (fun K hK => ?_)
           refine goes_ Tryd.func14 kr_ rfl #[.agg #[.int .i64 ((rd_T26 l0 x11_1).f0.f0), .string ((rd_T26 l0 x11_1).f0.f1), .string ((rd_T26 l0 x11_1).f1), .slice A180_3 ((rd_T26 l0 x11_1).f2).length c180_3, .slice A180_4 ((rd_T26 l0 x11_1).f3).length c180_4], .agg #[.string a1_0, .string a1_1, .string a1_2, .slice A1_3 l1_3.length c1_3, .slice A1_4 l1_4.length c1_4]] (by rfl) rfl rfl rl_ ?_
           with_reducible refine (rule_Holds.calls k1 ((rd_T26 l0 x11_1).f0.f0) ((rd_T26 l0 x11_1).f0.f1) ((rd_T26 l0 x11_1).f1) _ _ ((rd_T26 l0 x11_1).f2) _ _ ((rd_T26 l0 x11_1).f3) a1_0 a1_1 a1_2 _ _ l1_3 _ _ l1_4 true _ ?side1 ?side2 ?side3 ?side4 ?side5 ?side6 ?side7 ?side8 A7.out).mono ?_
           (case side1 => exact C_ (Kd.C_below HR180_3.out HB.out))
           (case side2 => exact HC180_3.out)
           (case side3 => exact C_ (Kd.C_below HR180_4.out HB.out))
           (case side4 => exact HC180_4.out)
           (case side5 => exact C_ (Kd.C_below HR1_3.out HB.out))
           (case side6 => exact HC1_3.out)
           (case side7 => exact C_ (Kd.C_below HR1_4.out HB.out))
           (case side8 => exact HC1_4.out)
           rintro e w32 ⟨rfl, hb⟩
           refine ⟨_, rfl, ?_⟩
           have n0_ := am_ (blk_below (g := gb179) (o := .cells #[.string a1_0, .string a1_1, .string a1_2, .slice A1_3 l1_3.length c1_3, .slice A1_4 l1_4.length c1_4] 28 (0, 0)) (blk_ BK179.out) hb)
           have n1_ := am_ (blk_below (g := gb181) (o := .cells #[.int .i64 ((rd_T26 l0 x11_1).f0.f0), .string ((rd_T26 l0 x11_1).f0.f1), .string ((rd_T26 l0 x11_1).f1), .slice A180_3 ((rd_T26 l0 x11_1).f2).length c180_3, .slice A180_4 ((rd_T26 l0 x11_1).f3).length c180_4] 26 (0, 0)) (blk_ BK181.out) hb)
           have n2_ := am_ (below_step (bel_ HB.out) hb)
           clear BK179 BK181 HB
           have BK179 := n0_
           have BK181 := n1_
           have HB := n2_
           clear n0_ n1_ n2_
           (try clear hb)
           (try clear hb2)
           (try clear hk)
           (try clear hi)
           refine hK.out _ _ ⟨(blk_cell BK181.out 0).trans rfl, (blk_cell BK181.out 1).trans rfl, (blk_cell BK181.out 2).trans rfl, (blk_cell BK181.out 3).trans rfl, (blk_cell BK181.out 4).trans rfl, (blk_cell BK179.out 0).trans rfl, (blk_cell BK179.out 1).trans rfl, (blk_cell BK179.out 2).trans rfl, (blk_cell BK179.out 3).trans rfl, (blk_cell BK179.out 4).trans rfl, ((HB.out.cell (World.block_lt_of_cell? w _ hw183_0)).trans hw183_0), ((HB.out.cell (World.block_lt_of_cell? w _ hw183_1)).trans hw183_1), ((HB.out.cell (World.block_lt_of_cell? w _ hw183_2)).trans hw183_2), ((HB.out.cell (World.block_lt_of_cell? w _ hw183_3)).trans hw183_3), ((HB.out.cell (World.block_lt_of_cell? w _ hw183_4)).trans hw183_4)⟩ (fun hHeld => ?_)
           clear hK K
           refine norm_ (a' := ?_) ?_ ?_
           rotate_left
           ·show Act.put _ (some 18) _ = _
            simp only [Act.put, sx_, s0_, s1_, i64_w, i32_w]
            rfl
           refine pure_ (i := 3) (N := some 19) (v := ?_) (a' := ?_) #[true, true, true, true, false, false, false, false, false, false, false, false, false, false, false, false] rfl rfl (any_of HT_.out kr_) (fun _ _ _ h => h) (Or.inl ⟨by rfl, ?_⟩) ?_ ?_
           rotate_left
           ·intro w'
            go_simp
            with_reducible rfl
           rotate_left
           ·simp only [Act.put, sx_, s0_, s1_, i64_w, i32_w]
            rfl
           refine pure_ (i := 4) (N := some 20) (v := ?_) (a' := ?_) #[true, true, true, true, true, false, false, false, false, false, false, false, false, false, false, false] rfl rfl (any_of HT_.out kr_) (fun _ _ _ h => h) (Or.inl ⟨by rfl, ?_⟩) ?_ ?_
           rotate_left
           ·intro w'
            go_simp
            with_reducible rfl
           rotate_left
           ·simp only [Act.put, sx_, s0_, s1_, i64_w, i32_w]
            rfl
           refine pure_ (i := 5) (N := some 21) (v := ?_) (a' := ?_) #[true, true, true, true, true, true, false, false, false, false, false, false, false, false, false, false] rfl rfl (any_of HT_.out kr_) (fun _ _ _ h => h) (Or.inl ⟨by rfl, ?_⟩) ?_ ?_
           rotate_left
           ·intro w'
            go_simp
            with_reducible rfl
           rotate_left
           ·simp only [Act.put, sx_, s0_, s1_, i64_w, i32_w]
            rfl
           refine pure_ (i := 6) (N := some 22) (v := ?_) (a' := ?_) #[true, true, true, true, true, true, true, false, false, false, false, false, false, false, false, false] rfl rfl (any_of HT_.out kr_) (fun _ _ _ h => h) (Or.inl ⟨by rfl, ?_⟩) ?_ ?_
           rotate_left
           ·intro w'
            go_simp
            with_reducible rfl
           rotate_left
           ·simp only [Act.put, sx_, s0_, s1_, i64_w, i32_w]
            rfl
           refine pure_ (i := 8) (N := some 24) (v := ?_) (a' := ?_) #[true, true, true, true, true, true, true, false, true, false, false, false, false, false, false, false] rfl rfl (any_of HT_.out kr_) (fun _ _ _ h => h) (Or.inl ⟨by rfl, ?_⟩) ?_ ?_
           rotate_left
           ·intro w'
            go_simp
            with_reducible rfl
           rotate_left
           ·simp only [Act.put, sx_, s0_, s1_, i64_w, i32_w]
            rfl
           refine pure_ (i := 9) (N := some 25) (v := ?_) (a' := ?_) #[true, true, true, true, true, true, true, false, true, true, false, false, false, false, false, false] rfl rfl (any_of HT_.out kr_) (fun _ _ _ h => h) (Or.inl ⟨by rfl, ?_⟩) ?_ ?_
           rotate_left
           ·intro w'
            go_simp
            with_reducible rfl
           rotate_left
           ·simp only [Act.put, sx_, s0_, s1_, i64_w, i32_w]
            rfl
           refine pure_ (i := 10) (N := some 26) (v := ?_) (a' := ?_) #[true, true, true, true, true, true, true, false, true, true, true, false, false, false, false, false] rfl rfl (any_of HT_.out kr_) (fun _ _ _ h => h) (Or.inl ⟨by rfl, ?_⟩) ?_ ?_
           rotate_left
           ·intro w'
            go_simp
            with_reducible rfl
           rotate_left
           ·simp only [Act.put, sx_, s0_, s1_, i64_w, i32_w]
            rfl
           refine take_ (i := 7) (N := some 23) (v := ?_) (a' := ?_) #[true, true, true, true, true, true, true, true, true, true, true, false, false, false, false, false] rfl rfl (take_ofW HT_.out HW_.out kr_) (fun _ _ _ h => h) (Or.inl ⟨by rfl, ?_⟩) hHeld ?_ ?_
           rotate_left
           ·rintro w' ⟨s0, s1, s2, s3, s4, s5, s6, s7, s8, s9, s10, s11, s12, s13, s14⟩
            go_simp
            with_reducible rfl
           rotate_left
           ·simp only [Act.put, sx_, s0_, s1_, i64_w, i32_w]
            rfl
           refine take_ (i := 11) (N := some 27) (v := ?_) (a' := ?_) #[true, true, true, true, true, true, true, true, true, true, true, true, false, false, false, false] rfl rfl (take_ofW HT_.out HW_.out kr_) (fun _ _ _ h => h) (Or.inl ⟨by rfl, ?_⟩) hHeld ?_ ?_
           rotate_left
           ·rintro w' ⟨s0, s1, s2, s3, s4, s5, s6, s7, s8, s9, s10, s11, s12, s13, s14⟩
            go_simp
            with_reducible rfl
           rotate_left
           ·simp only [Act.put, sx_, s0_, s1_, i64_w, i32_w]
            rfl
           refine one_ (i := 12) (N := some 28) #[true, true, true, true, true, true, true, true, true, true, true, true, true, false, false, false] rfl rfl (one_of HT_.out kr_) (by decide) (fun K hK => ?_)
           refine goes_ Tryd.func19 kr_ rfl #[.agg #[.int .i64 ((rd_T26 l0 x11_1).f0.f0), .string ((rd_T26 l0 x11_1).f0.f1), .string ((rd_T26 l0 x11_1).f1), .slice A180_3 ((rd_T26 l0 x11_1).f2).length c180_3, .slice A180_4 ((rd_T26 l0 x11_1).f3).length c180_4], .agg #[.int .i64 ((rd_T26 l0 x6_1).f0.f0), .string ((rd_T26 l0 x6_1).f0.f1), .string ((rd_T26 l0 x6_1).f1), .slice A183_3 ((rd_T26 l0 x6_1).f2).length c183_3, .slice A183_4 ((rd_T26 l0 x6_1).f3).length c183_4]] (by rfl) rfl rfl rl_ ?_
           with_reducible refine (rule_Order.calls ((rd_T26 l0 x11_1).f0.f0) ((rd_T26 l0 x11_1).f0.f1) ((rd_T26 l0 x11_1).f1) _ _ ((rd_T26 l0 x11_1).f2) _ _ ((rd_T26 l0 x11_1).f3) ((rd_T26 l0 x6_1).f0.f0) ((rd_T26 l0 x6_1).f0.f1) ((rd_T26 l0 x6_1).f1) _ _ ((rd_T26 l0 x6_1).f2) _ _ ((rd_T26 l0 x6_1).f3) t184 _ ?side1 ?side2 ?side3 ?side4 ?side5 ?side6 ?side7 ?side8 A18.out).mono ?_
           (case side1 => exact C_ (Kd.C_below HR180_3.out HB.out))
           (case side2 => exact HC180_3.out)
           (case side3 => exact C_ (Kd.C_below HR180_4.out HB.out))
           (case side4 => exact HC180_4.out)
           (case side5 => exact C_ (Kd.C_below HR183_3.out HB.out))
           (case side6 => exact HC183_3.out)
           (case side7 => exact C_ (Kd.C_below HR183_4.out HB.out))
           (case side8 => exact HC183_4.out)
           rintro e w33 ⟨rfl, hb⟩
           refine ⟨_, rfl, ?_⟩
           have n0_ := am_ (blk_below (g := gb179) (o := .cells #[.string a1_0, .string a1_1, .string a1_2, .slice A1_3 l1_3.length c1_3, .slice A1_4 l1_4.length c1_4] 28 (0, 0)) (blk_ BK179.out) hb)
           have n1_ := am_ (blk_below (g := gb181) (o := .cells #[.int .i64 ((rd_T26 l0 x11_1).f0.f0), .string ((rd_T26 l0 x11_1).f0.f1), .string ((rd_T26 l0 x11_1).f1), .slice A180_3 ((rd_T26 l0 x11_1).f2).length c180_3, .slice A180_4 ((rd_T26 l0 x11_1).f3).length c180_4] 26 (0, 0)) (blk_ BK181.out) hb)
           have n2_ := am_ (below_step (bel_ HB.out) hb)
           clear BK179 BK181 HB
           have BK179 := n0_
           have BK181 := n1_
           have HB := n2_
           clear n0_ n1_ n2_
           (try clear hb)
           (try clear hb2)
           (try clear hk)
           (try clear hi)
           refine hK.out _ _ ⟨(blk_cell BK181.out 0).trans rfl, (blk_cell BK181.out 1).trans rfl, (blk_cell BK181.out 2).trans rfl, (blk_cell BK181.out 3).trans rfl, (blk_cell BK181.out 4).trans rfl, (blk_cell BK179.out 0).trans rfl, (blk_cell BK179.out 1).trans rfl, (blk_cell BK179.out 2).trans rfl, (blk_cell BK179.out 3).trans rfl, (blk_cell BK179.out 4).trans rfl, ((HB.out.cell (World.block_lt_of_cell? w _ hw183_0)).trans hw183_0), ((HB.out.cell (World.block_lt_of_cell? w _ hw183_1)).trans hw183_1), ((HB.out.cell (World.block_lt_of_cell? w _ hw183_2)).trans hw183_2), ((HB.out.cell (World.block_lt_of_cell? w _ hw183_3)).trans hw183_3), ((HB.out.cell (World.block_lt_of_cell? w _ hw183_4)).trans hw183_4)⟩ (fun hHeld => ?_)
           clear hK K
           refine norm_ (a' := ?_) ?_ ?_
           rotate_left
           ·show Act.put _ (some 28) _ = _
            simp only [Act.put, sx_, s0_, s1_, i64_w, i32_w]
            rfl
           refine pure_ (i := 13) (N := some 29) (v := ?_) (a' := ?_) #[true, true, true, true, true, true, true, true, true, true, true, true, true, true, false, false] rfl rfl (any_of HT_.out kr_) (fun _ _ _ h => h) (Or.inl ⟨by rfl, ?_⟩) ?_ ?_
           rotate_left
           ·intro w'
            go_simp
            with_reducible rfl
           rotate_left
           ·simp only [Act.put, sx_, s0_, s1_, i64_w, i32_w]
            rfl
           refine pure_ (i := 14) (N := some 30) (v := ?_) (a' := ?_) #[true, true, true, true, true, true, true, true, true, true, true, true, true, true, true, false] rfl rfl (any_of HT_.out kr_) (fun _ _ _ h => h) (Or.inl ⟨by rfl, ?_⟩) ?_ ?_
           rotate_left
           ·intro w'
            go_simp
            with_reducible rfl
           rotate_left
           ·simp only [Act.put, sx_, s0_, s1_, i64_w, i32_w]
            rfl
           refine pure_ (i := 15) (N := some 31) (v := ?_) (a' := ?_) #[true, true, true, true, true, true, true, true, true, true, true, true, true, true, true, true] rfl rfl (any_of HT_.out kr_) (fun _ _ _ h => h) (Or.inl ⟨by rfl, ?_⟩) ?_ ?_
           rotate_left
           ·intro w'
            go_simp
            with_reducible rfl
           rotate_left
           ·simp only [Act.put, sx_, s0_, s1_, i64_w, i32_w]
            rfl
           refine done_ (done_of HT_.out kr_) ?_
           try go_wp2
           go_roundg k1
           case measure => have := HK1.out; omega
           case rel => exact ⟨(x6_1), (wrap64 (x11_1 + 1)), sd_, sd_, H', ⟨by have := HK1.out; omega⟩, ⟨by (with_reducible repeat (first | refine blk_drewN ?_ _ | refine blk_drew ?_ | refine blk_alloc ?_ _)); exact BK179.out⟩, ⟨bel_ HB.out⟩⟩
         ·rw [if_neg c17] at H
          exact absurd H (by simp)
        ·rw [if_neg c16] at H
         exact absurd H (by simp)
      ·replace c8 := Bool.eq_false_iff.mpr c8
       subst c8
       have H1 : (rule_First.l0 k1 l0 x6_1 l0 (l0.length : Int) (wrap64 (x11_1 + 1)) a1_0 a1_1 a1_2 l1_3 l1_4) = some (r1, r2) := by rw [if_neg (show ¬ (false = true) by decide)] at H; exact H
       clear H
       have H := H1
       clear H1
       have H' := Aside0.mk H
       clear H
       have p180 : 0 ≤ (x11_1 : Int) := of_decide_eq_true as_
       have q180 : x11_1 < (l0.length : Int) := of_decide_eq_true as_
       obtain ⟨ad180, A180_3, c180_3, A180_4, c180_4, e180, hx180_0, hx180_1, hx180_2, hx180_3, hx180_4, hl180_3, hi180_3, hl180_4, hi180_4⟩ := at_T26 HR0.out x11_1 p180 q180
       cases e180
       replace hx180_0 := (HB.out.cell (World.block_lt_of_cell? w _ hx180_0)).trans hx180_0
       replace hx180_1 := (HB.out.cell (World.block_lt_of_cell? w _ hx180_1)).trans hx180_1
       replace hx180_2 := (HB.out.cell (World.block_lt_of_cell? w _ hx180_2)).trans hx180_2
       replace hx180_3 := (HB.out.cell (World.block_lt_of_cell? w _ hx180_3)).trans hx180_3
       replace hx180_4 := (HB.out.cell (World.block_lt_of_cell? w _ hx180_4)).trans hx180_4
       have HR180_3 := Aside0.mk hi180_3
       have HC180_3 := Aside0.mk hl180_3
       clear hi180_3 hl180_3
       have HR180_4 := Aside0.mk hi180_4
       have HC180_4 := Aside0.mk hl180_4
       clear hi180_4 hl180_4
       replace p180 := eq_true p180
       replace q180 := eq_true q180
       try go_wp2_with (first | ((with_reducible refine gate_dst (N := 8) rfl ?_); refine box_event ?hg (N := 8) ?hd (cs := #[.int .i64 0, .string (⟨#[]⟩ : ByteArray), .string (⟨#[]⟩ : ByteArray), .slice none 0 0, .slice none 0 0]) (t := 26) ?hr ?_; (case hd => rfl); (case hg => rfl); (case hr => first | (go_simp; done) | (go_simp; rfl)); intro gb181 hg w34 hbox hb; have n0_ := am_ (blk_below (g := gb179) (o := .cells #[.string a1_0, .string a1_1, .string a1_2, .slice A1_3 l1_3.length c1_3, .slice A1_4 l1_4.length c1_4] 28 (0, 0)) (blk_ BK179.out) hb); have n1_ := am_ (below_step (bel_ HB.out) hb); have n2_ := am_ (hbox); have n3_ := am_ ((by rw [hg]; exact (below_size (bel_ HB.out)) : w.heap.size ≤ gb181)); have n4_ := am_ ((by rw [hg]; exact (below_size (bel_ HB.out)) : w.heap.size ≤ gb181)); have n5_ := am_ ((by rw [hg]; exact Nat.ne_of_lt (blk_lt (g := gb179) (o := .cells #[.string a1_0, .string a1_1, .string a1_2, .slice A1_3 l1_3.length c1_3, .slice A1_4 l1_4.length c1_4] 28 (0, 0)) (blk_ BK179.out)) : gb179 ≠ gb181)); have n6_ := am_ ((by rw [hg]; exact Nat.ne_of_gt (blk_lt (g := gb179) (o := .cells #[.string a1_0, .string a1_1, .string a1_2, .slice A1_3 l1_3.length c1_3, .slice A1_4 l1_4.length c1_4] 28 (0, 0)) (blk_ BK179.out)) : gb181 ≠ gb179)); clear BK179 HB; have BK179 := n0_; have HB := n1_; have BK181 := n2_; have GW181 := n3_; have GE181 := n4_; have NB179_181 := n5_; have NB181_179 := n6_; clear n0_ n1_ n2_ n3_ n4_ n5_ n6_ hb hbox hg; have hnb35 := NB181_179.out; have hnc35 := NB179_181.out; have hcz36_0 : w34.cell? ⟨gb181, 0, none⟩ = some (.int .i64 0) := (blk_cell BK181.out 0).trans rfl; have hcz36_1 : w34.cell? ⟨gb181, 1, none⟩ = some (.string (⟨#[]⟩ : ByteArray)) := (blk_cell BK181.out 1).trans rfl; have hcz36_2 : w34.cell? ⟨gb181, 2, none⟩ = some (.string (⟨#[]⟩ : ByteArray)) := (blk_cell BK181.out 2).trans rfl; have hcz36_3 : w34.cell? ⟨gb181, 3, none⟩ = some (.slice none 0 0) := (blk_cell BK181.out 3).trans rfl; have hcz36_4 : w34.cell? ⟨gb181, 4, none⟩ = some (.slice none 0 0) := (blk_cell BK181.out 4).trans rfl; have hfz36_0 := blk_frozen BK181.out 0; have hfz36_1 := blk_frozen BK181.out 1; have hfz36_2 := blk_frozen BK181.out 2; have hfz36_3 := blk_frozen BK181.out 3; have hfz36_4 := blk_frozen BK181.out 4))
       have n0_ : Aside0 ((((((w34.setCell ⟨gb181, 0, none⟩ (.int .i64 ((rd_T26 l0 x11_1).f0.f0))).setCell ⟨gb181, 1, none⟩ (.string ((rd_T26 l0 x11_1).f0.f1))).setCell ⟨gb181, 2, none⟩ (.string ((rd_T26 l0 x11_1).f1))).setCell ⟨gb181, 3, none⟩ (.slice A180_3 ((rd_T26 l0 x11_1).f2).length c180_3)).setCell ⟨gb181, 4, none⟩ (.slice A180_4 ((rd_T26 l0 x11_1).f3).length c180_4)).heap[gb179]? = some (.cells #[.string a1_0, .string a1_1, .string a1_2, .slice A1_3 l1_3.length c1_3, .slice A1_4 l1_4.length c1_4] 28 (0, 0))) := ⟨by (with_reducible repeat (first | refine blk_drewN ?_ _ | refine blk_drew ?_ | refine blk_alloc ?_ _)); refine blk_far ?_ NB179_181.out _; (with_reducible repeat (first | refine blk_drewN ?_ _ | refine blk_drew ?_ | refine blk_alloc ?_ _)); refine blk_far ?_ NB179_181.out _; (with_reducible repeat (first | refine blk_drewN ?_ _ | refine blk_drew ?_ | refine blk_alloc ?_ _)); refine blk_far ?_ NB179_181.out _; (with_reducible repeat (first | refine blk_drewN ?_ _ | refine blk_drew ?_ | refine blk_alloc ?_ _)); refine blk_far ?_ NB179_181.out _; (with_reducible repeat (first | refine blk_drewN ?_ _ | refine blk_drew ?_ | refine blk_alloc ?_ _)); refine blk_far ?_ NB179_181.out _; (with_reducible repeat (first | refine blk_drewN ?_ _ | refine blk_drew ?_ | refine blk_alloc ?_ _)); exact BK179.out⟩
       have n1_ : Aside0 ((((((w34.setCell ⟨gb181, 0, none⟩ (.int .i64 ((rd_T26 l0 x11_1).f0.f0))).setCell ⟨gb181, 1, none⟩ (.string ((rd_T26 l0 x11_1).f0.f1))).setCell ⟨gb181, 2, none⟩ (.string ((rd_T26 l0 x11_1).f1))).setCell ⟨gb181, 3, none⟩ (.slice A180_3 ((rd_T26 l0 x11_1).f2).length c180_3)).setCell ⟨gb181, 4, none⟩ (.slice A180_4 ((rd_T26 l0 x11_1).f3).length c180_4)).heap[gb181]? = some (.cells #[.int .i64 ((rd_T26 l0 x11_1).f0.f0), .string ((rd_T26 l0 x11_1).f0.f1), .string ((rd_T26 l0 x11_1).f1), .slice A180_3 ((rd_T26 l0 x11_1).f2).length c180_3, .slice A180_4 ((rd_T26 l0 x11_1).f3).length c180_4] 26 (0, 0))) := ⟨by (with_reducible repeat (first | refine blk_drewN ?_ _ | refine blk_drew ?_ | refine blk_alloc ?_ _)); refine blk_put (cs := #[.int .i64 ((rd_T26 l0 x11_1).f0.f0), .string ((rd_T26 l0 x11_1).f0.f1), .string ((rd_T26 l0 x11_1).f1), .slice A180_3 ((rd_T26 l0 x11_1).f2).length c180_3, .slice none 0 0]) ?_ 4 _ rfl; (with_reducible repeat (first | refine blk_drewN ?_ _ | refine blk_drew ?_ | refine blk_alloc ?_ _)); refine blk_put (cs := #[.int .i64 ((rd_T26 l0 x11_1).f0.f0), .string ((rd_T26 l0 x11_1).f0.f1), .string ((rd_T26 l0 x11_1).f1), .slice none 0 0, .slice none 0 0]) ?_ 3 _ rfl; (with_reducible repeat (first | refine blk_drewN ?_ _ | refine blk_drew ?_ | refine blk_alloc ?_ _)); refine blk_put (cs := #[.int .i64 ((rd_T26 l0 x11_1).f0.f0), .string ((rd_T26 l0 x11_1).f0.f1), .string (⟨#[]⟩ : ByteArray), .slice none 0 0, .slice none 0 0]) ?_ 2 _ rfl; (with_reducible repeat (first | refine blk_drewN ?_ _ | refine blk_drew ?_ | refine blk_alloc ?_ _)); refine blk_put (cs := #[.int .i64 ((rd_T26 l0 x11_1).f0.f0), .string (⟨#[]⟩ : ByteArray), .string (⟨#[]⟩ : ByteArray), .slice none 0 0, .slice none 0 0]) ?_ 1 _ rfl; (with_reducible repeat (first | refine blk_drewN ?_ _ | refine blk_drew ?_ | refine blk_alloc ?_ _)); refine blk_put (cs := #[.int .i64 0, .string (⟨#[]⟩ : ByteArray), .string (⟨#[]⟩ : ByteArray), .slice none 0 0, .slice none 0 0]) ?_ 0 _ rfl; (with_reducible repeat (first | refine blk_drewN ?_ _ | refine blk_drew ?_ | refine blk_alloc ?_ _)); exact BK181.out⟩
       have n2_ : Aside0 (Below w.heap.size w (((((w34.setCell ⟨gb181, 0, none⟩ (.int .i64 ((rd_T26 l0 x11_1).f0.f0))).setCell ⟨gb181, 1, none⟩ (.string ((rd_T26 l0 x11_1).f0.f1))).setCell ⟨gb181, 2, none⟩ (.string ((rd_T26 l0 x11_1).f1))).setCell ⟨gb181, 3, none⟩ (.slice A180_3 ((rd_T26 l0 x11_1).f2).length c180_3)).setCell ⟨gb181, 4, none⟩ (.slice A180_4 ((rd_T26 l0 x11_1).f3).length c180_4))) := ⟨bel_ HB.out⟩
       (try clear BK179)
       (try clear BK181)
       (try clear HB)
       generalize (((((w34.setCell ⟨gb181, 0, none⟩ (.int .i64 ((rd_T26 l0 x11_1).f0.f0))).setCell ⟨gb181, 1, none⟩ (.string ((rd_T26 l0 x11_1).f0.f1))).setCell ⟨gb181, 2, none⟩ (.string ((rd_T26 l0 x11_1).f1))).setCell ⟨gb181, 3, none⟩ (.slice A180_3 ((rd_T26 l0 x11_1).f2).length c180_3)).setCell ⟨gb181, 4, none⟩ (.slice A180_4 ((rd_T26 l0 x11_1).f3).length c180_4)) = w37 at n0_ n1_ n2_ ⊢
       have BK179 := n0_
       have BK181 := n1_
       have HB := n2_
       clear n0_ n1_ n2_
       have n0_ := am_ (blk_drew BK179.out)
       have n1_ := am_ (blk_drew BK181.out)
       have n2_ := am_ (below_drew1 HB.out)
       clear BK179 BK181 HB
       have BK179 := n0_
       have BK181 := n1_
       have HB := n2_
       clear n0_ n1_ n2_
       refine start_ (n := 16) (S := fun w' => w'.cell? ⟨gb181, 0, none⟩ = some (.int .i64 ((rd_T26 l0 x11_1).f0.f0)) ∧ w'.cell? ⟨gb181, 1, none⟩ = some (.string ((rd_T26 l0 x11_1).f0.f1)) ∧ w'.cell? ⟨gb181, 2, none⟩ = some (.string ((rd_T26 l0 x11_1).f1)) ∧ w'.cell? ⟨gb181, 3, none⟩ = some (.slice A180_3 ((rd_T26 l0 x11_1).f2).length c180_3) ∧ w'.cell? ⟨gb181, 4, none⟩ = some (.slice A180_4 ((rd_T26 l0 x11_1).f3).length c180_4) ∧ w'.cell? ⟨gb179, 0, none⟩ = some (.string a1_0) ∧ w'.cell? ⟨gb179, 1, none⟩ = some (.string a1_1) ∧ w'.cell? ⟨gb179, 2, none⟩ = some (.string a1_2) ∧ w'.cell? ⟨gb179, 3, none⟩ = some (.slice A1_3 l1_3.length c1_3) ∧ w'.cell? ⟨gb179, 4, none⟩ = some (.slice A1_4 l1_4.length c1_4)) (ds := []) #[false, false, false, false, false, false, false, false, false, false, false, false, false, false, false, false] kr_ rfl rfl ⟨(blk_cell BK181.out 0).trans rfl, (blk_cell BK181.out 1).trans rfl, (blk_cell BK181.out 2).trans rfl, (blk_cell BK181.out 3).trans rfl, (blk_cell BK181.out 4).trans rfl, (blk_cell BK179.out 0).trans rfl, (blk_cell BK179.out 1).trans rfl, (blk_cell BK179.out 2).trans rfl, (blk_cell BK179.out 3).trans rfl, (blk_cell BK179.out 4).trans rfl⟩ (fun hHeld => ?_); refine with_tabW rule_First.tab5 rule_First.bits5 (fun HT_ HW_ => ?_)
       generalize w37.drew = w38 at BK179 BK181 HB hHeld ⊢
       refine take_ (i := 0) (N := some 16) (v := ?_) (a' := ?_) #[true, false, false, false, false, false, false, false, false, false, false, false, false, false, false, false] rfl rfl (take_ofW HT_.out HW_.out kr_) (fun _ _ _ h => h) (Or.inl ⟨by rfl, ?_⟩) hHeld ?_ ?_
       rotate_left
       ·rintro w' ⟨s0, s1, s2, s3, s4, s5, s6, s7, s8, s9⟩
        go_simp
        with_reducible rfl
       rotate_left
       ·simp only [Act.put, sx_, s0_, s1_, i64_w, i32_w]
        rfl
       refine take_ (i := 1) (N := some 17) (v := ?_) (a' := ?_) #[true, true, false, false, false, false, false, false, false, false, false, false, false, false, false, false] rfl rfl (take_ofW HT_.out HW_.out kr_) (fun _ _ _ h => h) (Or.inl ⟨by rfl, ?_⟩) hHeld ?_ ?_
       rotate_left
       ·rintro w' ⟨s0, s1, s2, s3, s4, s5, s6, s7, s8, s9⟩
        go_simp
        with_reducible rfl
       rotate_left
       ·simp only [Act.put, sx_, s0_, s1_, i64_w, i32_w]
        rfl
       refine one_ (i := 2) (N := some 18) #[true, true, true, false, false, false, false, false, false, false, false, false, false, false, false, false] rfl rfl (one_of HT_.out kr_) (by decide) (fun K hK => ?_)
       refine goes_ Tryd.func14 kr_ rfl #[.agg #[.int .i64 ((rd_T26 l0 x11_1).f0.f0), .string ((rd_T26 l0 x11_1).f0.f1), .string ((rd_T26 l0 x11_1).f1), .slice A180_3 ((rd_T26 l0 x11_1).f2).length c180_3, .slice A180_4 ((rd_T26 l0 x11_1).f3).length c180_4], .agg #[.string a1_0, .string a1_1, .string a1_2, .slice A1_3 l1_3.length c1_3, .slice A1_4 l1_4.length c1_4]] (by rfl) rfl rfl rl_ ?_
       with_reducible refine (rule_Holds.calls k1 ((rd_T26 l0 x11_1).f0.f0) ((rd_T26 l0 x11_1).f0.f1) ((rd_T26 l0 x11_1).f1) _ _ ((rd_T26 l0 x11_1).f2) _ _ ((rd_T26 l0 x11_1).f3) a1_0 a1_1 a1_2 _ _ l1_3 _ _ l1_4 false _ ?side1 ?side2 ?side3 ?side4 ?side5 ?side6 ?side7 ?side8 A7.out).mono ?_
       (case side1 => exact C_ (Kd.C_below HR180_3.out HB.out))
       (case side2 => exact HC180_3.out)
       (case side3 => exact C_ (Kd.C_below HR180_4.out HB.out))
       (case side4 => exact HC180_4.out)
       (case side5 => exact C_ (Kd.C_below HR1_3.out HB.out))
       (case side6 => exact HC1_3.out)
       (case side7 => exact C_ (Kd.C_below HR1_4.out HB.out))
       (case side8 => exact HC1_4.out)
       rintro e w39 ⟨rfl, hb⟩
       refine ⟨_, rfl, ?_⟩
       have n0_ := am_ (blk_below (g := gb179) (o := .cells #[.string a1_0, .string a1_1, .string a1_2, .slice A1_3 l1_3.length c1_3, .slice A1_4 l1_4.length c1_4] 28 (0, 0)) (blk_ BK179.out) hb)
       have n1_ := am_ (blk_below (g := gb181) (o := .cells #[.int .i64 ((rd_T26 l0 x11_1).f0.f0), .string ((rd_T26 l0 x11_1).f0.f1), .string ((rd_T26 l0 x11_1).f1), .slice A180_3 ((rd_T26 l0 x11_1).f2).length c180_3, .slice A180_4 ((rd_T26 l0 x11_1).f3).length c180_4] 26 (0, 0)) (blk_ BK181.out) hb)
       have n2_ := am_ (below_step (bel_ HB.out) hb)
       clear BK179 BK181 HB
       have BK179 := n0_
       have BK181 := n1_
       have HB := n2_
       clear n0_ n1_ n2_
       (try clear hb)
       (try clear hb2)
       (try clear hk)
       (try clear hi)
       refine hK.out _ _ ⟨(blk_cell BK181.out 0).trans rfl, (blk_cell BK181.out 1).trans rfl, (blk_cell BK181.out 2).trans rfl, (blk_cell BK181.out 3).trans rfl, (blk_cell BK181.out 4).trans rfl, (blk_cell BK179.out 0).trans rfl, (blk_cell BK179.out 1).trans rfl, (blk_cell BK179.out 2).trans rfl, (blk_cell BK179.out 3).trans rfl, (blk_cell BK179.out 4).trans rfl⟩ (fun hHeld => ?_)
       clear hK K
       refine norm_ (a' := ?_) ?_ ?_
       rotate_left
       ·show Act.put _ (some 18) _ = _
        simp only [Act.put, sx_, s0_, s1_, i64_w, i32_w]
        rfl
       refine pure_ (i := 3) (N := some 19) (v := ?_) (a' := ?_) #[true, true, true, true, false, false, false, false, false, false, false, false, false, false, false, false] rfl rfl (any_of HT_.out kr_) (fun _ _ _ h => h) (Or.inl ⟨by rfl, ?_⟩) ?_ ?_
       rotate_left
       ·intro w'
        go_simp
        with_reducible rfl
       rotate_left
       ·simp only [Act.put, sx_, s0_, s1_, i64_w, i32_w]
        rfl
       refine pure_ (i := 4) (N := some 20) (v := undef) (a' := ?_) #[true, true, true, true, true, false, false, false, false, false, false, false, false, false, false, false] rfl rfl (any_of HT_.out kr_) (fun _ _ _ h => h) (Or.inr ⟨by rfl, rfl⟩) ?_ ?_
       rotate_left
       ·simp only [Act.put, sx_, s0_, s1_, i64_w, i32_w]
        rfl
       refine pure_ (i := 5) (N := some 21) (v := undef) (a' := ?_) #[true, true, true, true, true, true, false, false, false, false, false, false, false, false, false, false] rfl rfl (any_of HT_.out kr_) (fun _ _ _ h => h) (Or.inr ⟨by rfl, rfl⟩) ?_ ?_
       rotate_left
       ·simp only [Act.put, sx_, s0_, s1_, i64_w, i32_w]
        rfl
       refine pure_ (i := 6) (N := some 22) (v := undef) (a' := ?_) #[true, true, true, true, true, true, true, false, false, false, false, false, false, false, false, false] rfl rfl (any_of HT_.out kr_) (fun _ _ _ h => h) (Or.inr ⟨by rfl, rfl⟩) ?_ ?_
       rotate_left
       ·simp only [Act.put, sx_, s0_, s1_, i64_w, i32_w]
        rfl
       refine pure_ (i := 7) (N := some 23) (v := undef) (a' := ?_) #[true, true, true, true, true, true, true, true, false, false, false, false, false, false, false, false] rfl rfl (any_of HT_.out kr_) (fun _ _ _ h => h) (Or.inr ⟨by rfl, rfl⟩) ?_ ?_
       rotate_left
       ·simp only [Act.put, sx_, s0_, s1_, i64_w, i32_w]
        rfl
       refine pure_ (i := 8) (N := some 24) (v := undef) (a' := ?_) #[true, true, true, true, true, true, true, true, true, false, false, false, false, false, false, false] rfl rfl (any_of HT_.out kr_) (fun _ _ _ h => h) (Or.inr ⟨by rfl, rfl⟩) ?_ ?_
       rotate_left
       ·simp only [Act.put, sx_, s0_, s1_, i64_w, i32_w]
        rfl
       refine pure_ (i := 9) (N := some 25) (v := undef) (a' := ?_) #[true, true, true, true, true, true, true, true, true, true, false, false, false, false, false, false] rfl rfl (any_of HT_.out kr_) (fun _ _ _ h => h) (Or.inr ⟨by rfl, rfl⟩) ?_ ?_
       rotate_left
       ·simp only [Act.put, sx_, s0_, s1_, i64_w, i32_w]
        rfl
       refine pure_ (i := 10) (N := some 26) (v := undef) (a' := ?_) #[true, true, true, true, true, true, true, true, true, true, true, false, false, false, false, false] rfl rfl (any_of HT_.out kr_) (fun _ _ _ h => h) (Or.inr ⟨by rfl, rfl⟩) ?_ ?_
       rotate_left
       ·simp only [Act.put, sx_, s0_, s1_, i64_w, i32_w]
        rfl
       refine pure_ (i := 11) (N := some 27) (v := undef) (a' := ?_) #[true, true, true, true, true, true, true, true, true, true, true, true, false, false, false, false] rfl rfl (any_of HT_.out kr_) (fun _ _ _ h => h) (Or.inr ⟨by rfl, rfl⟩) ?_ ?_
       rotate_left
       ·simp only [Act.put, sx_, s0_, s1_, i64_w, i32_w]
        rfl
       refine pure_ (i := 12) (N := some 28) (v := undef) (a' := ?_) #[true, true, true, true, true, true, true, true, true, true, true, true, true, false, false, false] rfl rfl (any_of HT_.out kr_) (fun _ _ _ h => h) (Or.inr ⟨by rfl, rfl⟩) ?_ ?_
       rotate_left
       ·simp only [Act.put, sx_, s0_, s1_, i64_w, i32_w]
        rfl
       refine pure_ (i := 13) (N := some 29) (v := undef) (a' := ?_) #[true, true, true, true, true, true, true, true, true, true, true, true, true, true, false, false] rfl rfl (any_of HT_.out kr_) (fun _ _ _ h => h) (Or.inr ⟨by rfl, rfl⟩) ?_ ?_
       rotate_left
       ·simp only [Act.put, sx_, s0_, s1_, i64_w, i32_w]
        rfl
       refine pure_ (i := 14) (N := some 30) (v := undef) (a' := ?_) #[true, true, true, true, true, true, true, true, true, true, true, true, true, true, true, false] rfl rfl (any_of HT_.out kr_) (fun _ _ _ h => h) (Or.inr ⟨by rfl, rfl⟩) ?_ ?_
       rotate_left
       ·simp only [Act.put, sx_, s0_, s1_, i64_w, i32_w]
        rfl
       refine pure_ (i := 15) (N := some 31) (v := ?_) (a' := ?_) #[true, true, true, true, true, true, true, true, true, true, true, true, true, true, true, true] rfl rfl (any_of HT_.out kr_) (fun _ _ _ h => h) (Or.inl ⟨by rfl, ?_⟩) ?_ ?_
       rotate_left
       ·intro w'
        go_simp
        with_reducible rfl
       rotate_left
       ·simp only [Act.put, sx_, s0_, s1_, i64_w, i32_w]
        rfl
       refine done_ (done_of HT_.out kr_) ?_
       try go_wp2
       go_roundg k1
       case measure => have := HK1.out; omega
       case rel => exact ⟨(x6_1), (wrap64 (x11_1 + 1)), sd_, sd_, H', ⟨by have := HK1.out; omega⟩, ⟨by (with_reducible repeat (first | refine blk_drewN ?_ _ | refine blk_drew ?_ | refine blk_alloc ?_ _)); exact BK179.out⟩, ⟨bel_ HB.out⟩⟩
     ·rw [if_neg c6] at H
      exact absurd H (by simp)
    ·rw [if_neg c5] at H
     exact absurd H (by simp)
   ·rw [if_neg c4] at H
    have c4b0 : decide (x11_1 < (l0.length : Int)) = false := decide_eq_false c4
    clear c4
    obtain ⟨ji40, hji40⟩ : ∃ j_ : Int, (mx x6_1 0) = j_ := ⟨_, rfl⟩
    replace H : (some (ji40, decide (x6_1 ≥ 0))) = some (r1, r2) := by first | (rw [hji40] at H; exact H) | (simp only [hji40] at H ⊢; exact H)
    have hji40_ : (if x6_1 < 0 then 0 else x6_1) = ji40 := hji40
    simp only [Option.some.injEq, Prod.mk.injEq] at H
    obtain ⟨rfl, rfl⟩ := H
    go_wp2
    go_ret2
    exact ⟨by first | rfl | (simp [errW_none, errW_some] <;> rfl) | (simp only [← hji40]; first | rfl | (simp [errW_none, errW_some] <;> rfl)) | (simp [*, errW_none, errW_some] <;> rfl), bel_ HB.out⟩

/-! ### region_table: a region whose order is open and whose every operation comes to one value, whatever the order -/
/-- What has been listed stands in its place; the rest is as it was. -/
structure TabI (ops : Array Oper) (base : Act) (d : Nat → Nat) (val : Nat → Value) (WI : World → Prop) (l : Array Bool) (a : Act) (w : World) : Prop where
 world : WI w
 defers : a.defers = base.defers
 size : a.tmps.size = base.tmps.size
 lsize : l.size = ops.size
 told : ∀ j, j < ops.size → l.getD j false = true → a.tmps[d j]? = some (val j)
 rest : ∀ m, (∀ j, j < ops.size → d j ≠ m) → a.tmps[m]? = base.tmps[m]?
theorem getD_lt {l : Array Bool} {i : Nat} (h : l.getD i false = true) : i < l.size := by
 rcases Nat.lt_or_ge i l.size with c | c
 ·exact c
 ·simp [Array.getD, Nat.not_lt.2 c] at h
theorem fold_set (d : Nat → Nat) (val : Nat → Value) (T : Array Value) : ∀ n, (∀ j, j < n → d j < T.size) → (∀ i j, i < n → j < n → d i = d j → i = j) →
  ((List.range n).foldl (fun t j => t.setIfInBounds (d j) (val j)) T).size = T.size ∧ (∀ j, j < n → ((List.range n).foldl (fun t j => t.setIfInBounds (d j) (val j)) T)[d j]? = some (val j)) ∧ ∀ m, (∀ j, j < n → d j ≠ m) → ((List.range n).foldl (fun t j => t.setIfInBounds (d j) (val j)) T)[m]? = T[m]?
 | 0, _, _ => ⟨rfl, fun j hj => by omega, fun m _ => rfl⟩
 | n + 1, h, hi => by
  obtain ⟨h1, h2, h3⟩ := fold_set d val T n (fun j hj => h j (by omega)) (fun i j a b => hi i j (by omega) (by omega))
  rw [List.range_succ, List.foldl_append]
  simp only [List.foldl_cons, List.foldl_nil]
  refine ⟨by rw [Array.size_setIfInBounds]; exact h1, fun j hj => ?_, fun m hm => ?_⟩
  ·by_cases e : n = j
   ·subst e
    rw [Array.getElem?_setIfInBounds_self_of_lt (by rw [h1]; exact h n (by omega))]
   ·rw [Array.getElem?_setIfInBounds_ne (fun h => e (hi n j (by omega) hj h))]
    exact h2 j (by omega)
  ·rw [Array.getElem?_setIfInBounds_ne (hm n (by omega))]
   exact h3 m (fun j hj => hm j (by omega))
theorem region_table {P : Program} {ops : Array Oper} {Q : Exit → Act → World → Prop} {id : Nat} {base : Act} {w : World} (hm : P.follows .mixedOrders = true) (d : Nat → Nat) (val : Nat → Value) (WI : World → Prop)
  (inj : ∀ i j, i < ops.size → j < ops.size → d i = d j → i = j) (hdl : ∀ j, j < ops.size → d j < base.tmps.size)
  (ht : (List.range ops.size).all (fun j => ((ops[j]?).map fun o => o.after.all fun e => !Region.binds .any e || decide (e.on < j)).getD true) = true)
  (h0 : WI w.drew)
  (hop : ∀ i l a w, i < ops.size → TabI ops base d val WI l a w → (∀ o, ops[i]? = some o → o.after.all (fun e => !Region.binds .any e || l.getD e.on false) = true) → wpOp P ops Q i (fun a' w' => WI w' ∧ a' = a.put (some (d i)) (val i)) a w)
  (hend : ∀ w, WI w → Q .normal { tmps := (List.range ops.size).foldl (fun t j => t.setIfInBounds (d j) (val j)) base.tmps, defers := base.defers } w) :
  (Code.region id ops true).wp P Q base w := by
 refine region_inv hm (TabI ops base d val WI) ?_ ?_ ?_
 ·exact ⟨h0, rfl, rfl, by simp, fun j hj h => by simp [Array.getD, hj] at h, fun m _ => rfl⟩
 ·intro l a w i hI hi
  obtain ⟨hi1, hli, hdep⟩ := ready_at hi
  refine wpOp_mono (fun a' w' h' => ?_) (hop i l a w hi1 hI hdep)
  obtain ⟨hW, rfl⟩ := h'
  have hds := hdl i hi1
  have hsz := hI.size
  refine ⟨hW, hI.defers, by simp [Act.put, hsz], by simpa using hI.lsize, fun j hj hlj => ?_, fun m hm2 => ?_⟩
  ·show (a.tmps.setIfInBounds (d i) (val i))[d j]? = _
   by_cases e : i = j
   ·subst e
    rw [Array.getElem?_setIfInBounds_self_of_lt (by omega)]
   ·have hne : d i ≠ d j := fun h => e (inj i j hi1 hj h)
    rw [Array.getElem?_setIfInBounds_ne hne]
    exact hI.told j hj (getD_set hlj e)
  ·show (a.tmps.setIfInBounds (d i) (val i))[m]? = _
   rw [Array.getElem?_setIfInBounds_ne (hm2 i hi1)]
   exact hI.rest m hm2
 ·intro l a w hI hr
  have hall := all_listed hI.lsize hr ht
  obtain ⟨f1, f2, f3⟩ := fold_set d val base.tmps ops.size hdl inj
  have e : a = { tmps := (List.range ops.size).foldl (fun t j => t.setIfInBounds (d j) (val j)) base.tmps, defers := base.defers } := by
   obtain ⟨T, D⟩ := a
   have hD : D = base.defers := hI.defers
   have hT : T = (List.range ops.size).foldl (fun t j => t.setIfInBounds (d j) (val j)) base.tmps := by
    apply Array.ext_getElem?
    intro m
    by_cases hm2 : ∃ j, j < ops.size ∧ d j = m
    ·obtain ⟨j, hj, rfl⟩ := hm2
     rw [f2 j hj]; exact hI.told j hj (hall j hj)
    ·have hm3 : ∀ j, j < ops.size → d j ≠ m := fun j hj h => hm2 ⟨j, hj, h⟩
     rw [f3 m hm3]; exact hI.rest m hm3
   rw [hD, hT]
  rw [e]
  exact hend w hI.world
/-- One operation, no call, guarded or not. -/
theorem wpOp_go {P : Program} {ops : Array Oper} {Q : Exit → Act → World → Prop} {i : Nat} {o : Oper} {a : Act} {w : World} {J : Act → World → Prop} (hi : ops[i]? = some o) (hw : Region.wanted o (yielded ops a.tmps) = true)
  (h : ∀ K : Act → World → Prop, (∀ a' w', J a' w' → K a' w') → o.wp P a w K Q) : wpOp P ops Q i J a w := by
 unfold wpOp
 rw [hi]
 simp only [hw, if_true]
 exact Or.inl (h J fun _ _ h => h)
/-- One call, guarded or not. -/
theorem wpOp_callG {P : Program} {ops : Array Oper} {Q : Exit → Act → World → Prop} {i : Nat} {o : Oper} {a : Act} {w : World} {J : Act → World → Prop} (hi : ops[i]? = some o) (hw : Region.wanted o (yielded ops a.tmps) = true) {f : FuncId} {fn : Func} {xs : Array Operand} {ts : Array TypeId}
  (hop : o.op = .call { callee := .value (.func f), args := xs, argTypes := ts }) (hf : P.funcs[f]? = some fn) (hname : (fn.name == "runtime.NumGoroutine") = false) (hb : fn.body.isSome = true) (args : Array Value) (hargs : xs.map a.eval = args)
  (h : Calls P f args w fun e w' => ∃ v, e = .returned v ∧ J (a.put o.dst v) w') : wpOp P ops Q i J a w := by
 have := goes_ (K := J) (Q := Q) hf hname hb args hw rfl hop hargs h
 rw [if_pos hw] at this
 unfold wpOp
 rw [hi]
 simp only [hw, if_true]
 exact Or.inl this
theorem eval_of {a : Act} {t : Tmp} {v : Value} (h : a.tmps[t]? = some v) : a.eval (.tmp t) = v := by
 show a.tmps.getD t undef = v
 rw [Array.getD_eq_getD_getElem?, h]; rfl

end Go.Proofs.YtompldnifiieaaaDoor.P
