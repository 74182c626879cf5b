-- written by wip/tool/hprint.py of this repo: the kit's print, with contracts by hand joined; Lean checks it.
import Derived.Test.YtompldnifiieaaaDoorPx0
import Derived.Test.YtompldnifiieaaaDoorPx1
import Derived.Test.YtompldnifiieaaaDoorPx3
import Derived.Test.YtompldnifiieaaaDoorPx4
import Derived.Test.YtompldnifiieaaaDoorPx7
namespace Go.Proofs.YtompldnifiieaaaDoor.P
open Go.RowKit Go.Proofs.YtompldnifiieaaaDoorW.PrintWords Go.Proofs.YtompldnifiieaaaDoorW.PrintLast Go.Proofs.YtompldnifiieaaaDoorW.PrintMore
attribute [local go_sem] max2_int min2_int max_two min_two max_three min_three max_four min_four   -- for this text's walks alone
set_option linter.unusedVariables false
set_option linter.unusedSimpArgs false

/-! ### tolllaw06_RuleOwn: function 7 -/
noncomputable def tolllaw06_RuleOwn.f (k : Nat) (a0_0 : Int) (a0_1 : ByteArray) (a0_2 : ByteArray) (l0_3 : List (S49)) (l0_4 : List (S49)) : Option (Bool) := (tolllaw06_Few.f k a0_0 a0_1 a0_2 l0_3 l0_4).bind fun bt929 => ((rule_Holds.f k bt929.1 bt929.2.1 bt929.2.2.1 bt929.2.2.2.1 bt929.2.2.2.2 bt929.2.2.1 (⟨#[]⟩ : ByteArray) bt929.2.1 bt929.2.2.2.2 bt929.2.2.2.1).bind fun t939 => ((rule_May.f k bt929.1 bt929.2.1 bt929.2.2.1 bt929.2.2.2.1 bt929.2.2.2.2).bind fun t940 => (if (t939 == t940) = true then ((tolllaw06_awake.f).bind fun t941 => (some t941)) else (none))))
theorem tolllaw06_RuleOwn.mono : ∀ a0 a1 a2 a3 a4 k, LeO (tolllaw06_RuleOwn.f k a0 a1 a2 a3 a4) (tolllaw06_RuleOwn.f (k + 1) a0 a1 a2 a3 a4) := by
 intro a0 a1 a2 a3 a4 k
 unfold tolllaw06_RuleOwn.f
 repeat' first
   | (with_reducible exact rule_Holds.mono _ _ _ _ _ _ _ _ _ _ _)
   | (with_reducible exact rule_May.mono _ _ _ _ _ _)
   | (with_reducible exact tolllaw06_Few.mono _ _ _ _ _ _)
   | (with_reducible exact LeO.refl _)
   | (with_reducible exact LeO.none _)
   | (with_reducible refine LeO.ite ?_ ?_)
   | (with_reducible refine LeO.bind ?_ (fun _ => ?_))
   | exact rule_Holds.mono _ _ _ _ _ _ _ _ _ _ _
   | exact rule_May.mono _ _ _ _ _ _
   | exact tolllaw06_Few.mono _ _ _ _ _ _
   | exact LeO.none _
   | refine LeO.ite ?_ ?_
   | refine LeO.bind ?_ (fun _ => ?_)
noncomputable def tolllaw06_RuleOwn.T3 : Bool × List (List Nat × List Nat) := (true, [([], []), ([], []), ([0, 1], [0, 1]), ([], []), ([3, 2], [3]), ([2, 4], [2, 4]), ([5, 4], [5]), ([6, 6], [6]), ([6, 7], [6, 7]), ([8, 7, 0, 1, 2, 3, 4, 5, 6, 7, 8], [8])])
noncomputable def tolllaw06_RuleOwn.B3 : List Nat := [0, 0, 3, 0, 15, 31, 63, 127, 255, 511]
theorem tolllaw06_RuleOwn.tab3 : rtab .any (opsOf Tryd.f7 3) = tolllaw06_RuleOwn.T3 := by kernel_rfl
theorem tolllaw06_RuleOwn.bits3 : waitsOk tolllaw06_RuleOwn.T3.2 tolllaw06_RuleOwn.B3 = true := by kernel_rfl
set_option maxHeartbeats 8000000 in
set_option maxRecDepth 100000 in
theorem tolllaw06_RuleOwn.calls (k : Nat) (a0_0 : Int) (a0_1 : ByteArray) (a0_2 : ByteArray) (A0_3 : Option Addr) (c0_3 : Nat) (l0_3 : List (S49)) (A0_4 : Option Addr) (c0_4 : Nat) (l0_4 : List (S49)) (r : Bool) (w : World) (hr0_3 : Kd.C k49 w A0_3 l0_3.length l0_3) (hc0_3 : l0_3.length ≤ c0_3) (hr0_4 : Kd.C k49 w A0_4 l0_4.length l0_4) (hc0_4 : l0_4.length ≤ c0_4) (h : tolllaw06_RuleOwn.f k a0_0 a0_1 a0_2 l0_3 l0_4 = some r) :
  Calls Tryd.prog 7 #[.agg #[.int .i64 a0_0, .string a0_1, .string a0_2, .slice A0_3 l0_3.length c0_3, .slice A0_4 l0_4.length c0_4]] w fun e w' => e = .returned (.bool r) ∧ Below w.heap.size w w' := by
 have hu26 := Tryd.underlying26
 have hu28 := Tryd.underlying28
 have HR0_3 := Aside0.mk hr0_3
 have HC0_3 := Aside0.mk hc0_3
 clear hr0_3 hc0_3
 have HR0_4 := Aside0.mk hr0_4
 have HC0_4 := Aside0.mk hc0_4
 clear hr0_4 hc0_4
 have HB := am_ (Below.refl w.heap.size w)
 have H : ((tolllaw06_Few.f k a0_0 a0_1 a0_2 l0_3 l0_4).bind fun bt929 => ((rule_Holds.f k bt929.1 bt929.2.1 bt929.2.2.1 bt929.2.2.2.1 bt929.2.2.2.2 bt929.2.2.1 (⟨#[]⟩ : ByteArray) bt929.2.1 bt929.2.2.2.2 bt929.2.2.2.1).bind fun t939 => ((rule_May.f k bt929.1 bt929.2.1 bt929.2.2.1 bt929.2.2.2.1 bt929.2.2.2.2).bind fun t940 => (if (t939 == t940) = true then ((tolllaw06_awake.f).bind fun t941 => (some t941)) else (none))))) = some r := h
 clear h
 replace H := Option.bind_eq_some_iff.mp H
 obtain ⟨⟨t929, t930, t931, t932, t935⟩, A20, H⟩ := H
 replace H : ((rule_Holds.f k t929 t930 t931 t932 t935 t931 (⟨#[]⟩ : ByteArray) t930 t935 t932).bind fun t939 => ((rule_May.f k t929 t930 t931 t932 t935).bind fun t940 => (if (t939 == t940) = true then ((tolllaw06_awake.f).bind fun t941 => (some t941)) else (none)))) = some r := H
 have A2 := Aside0.mk A20
 clear A20
 replace H := Option.bind_eq_some_iff.mp H
 obtain ⟨t939, A30, H⟩ := H
 replace H : ((rule_May.f k t929 t930 t931 t932 t935).bind fun t940 => (if (t939 == t940) = true then ((tolllaw06_awake.f).bind fun t941 => (some t941)) else (none))) = some r := H
 have A3 := Aside0.mk A30
 clear A30
 replace H := Option.bind_eq_some_iff.mp H
 obtain ⟨t940, A40, H⟩ := H
 replace H : (if (t939 == t940) = true then ((tolllaw06_awake.f).bind fun t941 => (some t941)) else (none)) = some r := H
 have A4 := Aside0.mk A40
 clear A40
 by_cases c5 : (t939 == t940) = true
 ·rw [if_pos c5] at H
  have c5b0 : (t939 == t940) = true := c5
  (try (have c5b1 : decide (t939 = t940) = true := by simpa using c5))
  (try (have c5b2 : (t939 == t940) = true := by simpa using c5))
  clear c5
  replace H := Option.bind_eq_some_iff.mp H
  obtain ⟨t941, A60, H⟩ := H
  replace H : (some t941) = some r := H
  have A6 := Aside0.mk A60
  clear A60
  obtain rfl := Option.some.inj H
  go_enter Tryd.func7, Tryd.ntmps7
  try go_wp2_with (first | ((with_reducible refine gate_dst (N := 1) rfl ?_); refine box_event ?hg (N := 1) ?hd (cs := #[.int .i64 a0_0, .string a0_1, .string a0_2, .slice A0_3 l0_3.length c0_3, .slice A0_4 l0_4.length c0_4]) (t := 26) ?hr ?_; (case hd => rfl); (case hg => rfl); (case hr => first | (go_simp; done) | (go_simp; rfl)); intro gb928 hg w7 hbox hb; have n0_ := am_ (below_step (bel_ HB.out) hb); have n1_ := am_ (hbox); have n2_ := am_ ((by rw [hg]; exact (below_size (bel_ HB.out)) : w.heap.size ≤ gb928)); have n3_ := am_ ((by rw [hg]; exact (below_size (bel_ HB.out)) : w.heap.size ≤ gb928)); clear HB; have HB := n0_; have BK928 := n1_; have GW928 := n2_; have GE928 := n3_; clear n0_ n1_ n2_ n3_ hb hbox hg; have hcz8_0 : w7.cell? ⟨gb928, 0, none⟩ = some (.int .i64 a0_0) := (blk_cell BK928.out 0).trans rfl; have hcz8_1 : w7.cell? ⟨gb928, 1, none⟩ = some (.string a0_1) := (blk_cell BK928.out 1).trans rfl; have hcz8_2 : w7.cell? ⟨gb928, 2, none⟩ = some (.string a0_2) := (blk_cell BK928.out 2).trans rfl; have hcz8_3 : w7.cell? ⟨gb928, 3, none⟩ = some (.slice A0_3 l0_3.length c0_3) := (blk_cell BK928.out 3).trans rfl; have hcz8_4 : w7.cell? ⟨gb928, 4, none⟩ = some (.slice A0_4 l0_4.length c0_4) := (blk_cell BK928.out 4).trans rfl; have hfz8_0 := blk_frozen BK928.out 0; have hfz8_1 := blk_frozen BK928.out 1; have hfz8_2 := blk_frozen BK928.out 2; have hfz8_3 := blk_frozen BK928.out 3; have hfz8_4 := blk_frozen BK928.out 4) | ((with_reducible refine gate_callee (f := 9) rfl ?_); refine goesL_ (some 5) rfl rfl Tryd.func9 kr_ rfl #[.agg #[.int .i64 a0_0, .string a0_1, .string a0_2, .slice A0_3 l0_3.length c0_3, .slice A0_4 l0_4.length c0_4]] rfl rl_ ?_; (with_reducible refine (tolllaw06_Few.calls k a0_0 a0_1 a0_2 _ _ l0_3 _ _ l0_4 t929 t930 t931 t932 t935 _ ?side1 ?side2 ?side3 ?side4 A2.out).mono ?_); (case side1 => exact C_ (Kd.C_below HR0_3.out HB.out)); (case side2 => exact HC0_3.out); (case side3 => exact C_ (Kd.C_below HR0_4.out HB.out)); (case side4 => exact HC0_4.out); rintro e w9 ⟨v933, v936, rfl, ho0, ho1, hb⟩; refine ⟨_, rfl, ?_⟩; have n0_ := am_ (Kd.R_lower ho0 (below_size (bel_ HB.out))); have n1_ := am_ (Kd.R_lower ho1 (below_size (bel_ HB.out))); have n2_ := am_ (blk_below (g := gb928) (o := .cells #[.int .i64 a0_0, .string a0_1, .string a0_2, .slice A0_3 l0_3.length c0_3, .slice A0_4 l0_4.length c0_4] 26 (0, 0)) (blk_ BK928.out) hb); have n3_ := am_ (below_step (bel_ HB.out) hb); clear BK928 HB; have HO934 := n0_; have HO937 := n1_; have BK928 := n2_; have HB := n3_; clear n0_ n1_ n2_ n3_; (try clear hb); (try clear hb2); (try clear hk); (try clear hi); (try clear ho0); (try clear ho1); have hcz10_0 : w9.cell? ⟨gb928, 0, none⟩ = some (.int .i64 a0_0) := (blk_cell BK928.out 0).trans rfl; have hcz10_1 : w9.cell? ⟨gb928, 1, none⟩ = some (.string a0_1) := (blk_cell BK928.out 1).trans rfl; have hcz10_2 : w9.cell? ⟨gb928, 2, none⟩ = some (.string a0_2) := (blk_cell BK928.out 2).trans rfl; have hcz10_3 : w9.cell? ⟨gb928, 3, none⟩ = some (.slice A0_3 l0_3.length c0_3) := (blk_cell BK928.out 3).trans rfl; have hcz10_4 : w9.cell? ⟨gb928, 4, none⟩ = some (.slice A0_4 l0_4.length c0_4) := (blk_cell BK928.out 4).trans rfl; have hfz10_0 := blk_frozen BK928.out 0; have hfz10_1 := blk_frozen BK928.out 1; have hfz10_2 := blk_frozen BK928.out 2; have hfz10_3 := blk_frozen BK928.out 3; have hfz10_4 := blk_frozen BK928.out 4; obtain ⟨Ao11, co11, eo11⟩ := Kd.R_slice HO934.out; subst eo11; obtain ⟨Ao12, co12, eo12⟩ := Kd.R_slice HO937.out; subst eo12) | ((with_reducible refine gate_dst (N := 3) rfl ?_); refine box_event ?hg (N := 3) ?hd (cs := #[.string (⟨#[]⟩ : ByteArray), .string (⟨#[]⟩ : ByteArray), .string (⟨#[]⟩ : ByteArray), .slice none 0 0, .slice none 0 0]) (t := 28) ?hr ?_; (case hd => rfl); (case hg => rfl); (case hr => first | (go_simp; done) | (go_simp; rfl)); intro gb938 hg w13 hbox hb; have n0_ := am_ (Kd.R_below (by (with_reducible repeat (first | apply Kd.R_alloc | apply Kd.R_drewN | apply Kd.R_drew)); exact (Kd.R_mono (Kd.R_far (p := ⟨gb928, 4, none⟩) (Kd.R_far (p := ⟨gb928, 3, none⟩) (Kd.R_far (p := ⟨gb928, 2, none⟩) (Kd.R_far (p := ⟨gb928, 1, none⟩) (Kd.R_far (p := ⟨gb928, 0, none⟩) (Kd.R_types HO934.out BK928.out (by decide)) (fun _ hk => hk.2) (.int .i64 t929)) (fun _ hk => hk.2) (.string t930)) (fun _ hk => hk.2) (.string t931)) (fun _ hk => hk.2) (.slice Ao11 t932.length co11)) (fun _ hk => hk.2) (.slice Ao12 t935.length co12)) (fun _ h_ => h_.1))) hb); have n1_ := am_ (Kd.R_below (by (with_reducible repeat (first | apply Kd.R_alloc | apply Kd.R_drewN | apply Kd.R_drew)); exact (Kd.R_mono (Kd.R_far (p := ⟨gb928, 4, none⟩) (Kd.R_far (p := ⟨gb928, 3, none⟩) (Kd.R_far (p := ⟨gb928, 2, none⟩) (Kd.R_far (p := ⟨gb928, 1, none⟩) (Kd.R_far (p := ⟨gb928, 0, none⟩) (Kd.R_types HO937.out BK928.out (by decide)) (fun _ hk => hk.2) (.int .i64 t929)) (fun _ hk => hk.2) (.string t930)) (fun _ hk => hk.2) (.string t931)) (fun _ hk => hk.2) (.slice Ao11 t932.length co11)) (fun _ hk => hk.2) (.slice Ao12 t935.length co12)) (fun _ h_ => h_.1))) hb); have n2_ := am_ (blk_below (g := gb928) (o := .cells #[.int .i64 t929, .string t930, .string t931, .slice Ao11 t932.length co11, .slice Ao12 t935.length co12] 26 (0, 0)) (by (with_reducible repeat (first | refine blk_drewN ?_ _ | refine blk_drew ?_ | refine blk_alloc ?_ _)); refine blk_put (cs := #[.int .i64 t929, .string t930, .string t931, .slice Ao11 t932.length co11, .slice A0_4 l0_4.length c0_4]) ?_ 4 _ rfl; (with_reducible repeat (first | refine blk_drewN ?_ _ | refine blk_drew ?_ | refine blk_alloc ?_ _)); refine blk_put (cs := #[.int .i64 t929, .string t930, .string t931, .slice A0_3 l0_3.length c0_3, .slice A0_4 l0_4.length c0_4]) ?_ 3 _ rfl; (with_reducible repeat (first | refine blk_drewN ?_ _ | refine blk_drew ?_ | refine blk_alloc ?_ _)); refine blk_put (cs := #[.int .i64 t929, .string t930, .string a0_2, .slice A0_3 l0_3.length c0_3, .slice A0_4 l0_4.length c0_4]) ?_ 2 _ rfl; (with_reducible repeat (first | refine blk_drewN ?_ _ | refine blk_drew ?_ | refine blk_alloc ?_ _)); refine blk_put (cs := #[.int .i64 t929, .string a0_1, .string a0_2, .slice A0_3 l0_3.length c0_3, .slice A0_4 l0_4.length c0_4]) ?_ 1 _ rfl; (with_reducible repeat (first | refine blk_drewN ?_ _ | refine blk_drew ?_ | refine blk_alloc ?_ _)); refine blk_put (cs := #[.int .i64 a0_0, .string a0_1, .string a0_2, .slice A0_3 l0_3.length c0_3, .slice A0_4 l0_4.length c0_4]) ?_ 0 _ rfl; (with_reducible repeat (first | refine blk_drewN ?_ _ | refine blk_drew ?_ | refine blk_alloc ?_ _)); exact BK928.out) hb); have n3_ := am_ (below_step (bel_ HB.out) hb); have n4_ := am_ (hbox); have n5_ := am_ ((by rw [hg]; exact (below_size (bel_ HB.out)) : w.heap.size ≤ gb938)); have n6_ := am_ ((by rw [hg]; exact (below_size (bel_ HB.out)) : w.heap.size ≤ gb938)); have n7_ := am_ ((by rw [hg]; exact Nat.ne_of_lt (blk_lt (g := gb928) (o := .cells #[.int .i64 t929, .string t930, .string t931, .slice Ao11 t932.length co11, .slice Ao12 t935.length co12] 26 (0, 0)) (by (with_reducible repeat (first | refine blk_drewN ?_ _ | refine blk_drew ?_ | refine blk_alloc ?_ _)); refine blk_put (cs := #[.int .i64 t929, .string t930, .string t931, .slice Ao11 t932.length co11, .slice A0_4 l0_4.length c0_4]) ?_ 4 _ rfl; (with_reducible repeat (first | refine blk_drewN ?_ _ | refine blk_drew ?_ | refine blk_alloc ?_ _)); refine blk_put (cs := #[.int .i64 t929, .string t930, .string t931, .slice A0_3 l0_3.length c0_3, .slice A0_4 l0_4.length c0_4]) ?_ 3 _ rfl; (with_reducible repeat (first | refine blk_drewN ?_ _ | refine blk_drew ?_ | refine blk_alloc ?_ _)); refine blk_put (cs := #[.int .i64 t929, .string t930, .string a0_2, .slice A0_3 l0_3.length c0_3, .slice A0_4 l0_4.length c0_4]) ?_ 2 _ rfl; (with_reducible repeat (first | refine blk_drewN ?_ _ | refine blk_drew ?_ | refine blk_alloc ?_ _)); refine blk_put (cs := #[.int .i64 t929, .string a0_1, .string a0_2, .slice A0_3 l0_3.length c0_3, .slice A0_4 l0_4.length c0_4]) ?_ 1 _ rfl; (with_reducible repeat (first | refine blk_drewN ?_ _ | refine blk_drew ?_ | refine blk_alloc ?_ _)); refine blk_put (cs := #[.int .i64 a0_0, .string a0_1, .string a0_2, .slice A0_3 l0_3.length c0_3, .slice A0_4 l0_4.length c0_4]) ?_ 0 _ rfl; (with_reducible repeat (first | refine blk_drewN ?_ _ | refine blk_drew ?_ | refine blk_alloc ?_ _)); exact BK928.out)) : gb928 ≠ gb938)); have n8_ := am_ ((by rw [hg]; exact Nat.ne_of_gt (blk_lt (g := gb928) (o := .cells #[.int .i64 t929, .string t930, .string t931, .slice Ao11 t932.length co11, .slice Ao12 t935.length co12] 26 (0, 0)) (by (with_reducible repeat (first | refine blk_drewN ?_ _ | refine blk_drew ?_ | refine blk_alloc ?_ _)); refine blk_put (cs := #[.int .i64 t929, .string t930, .string t931, .slice Ao11 t932.length co11, .slice A0_4 l0_4.length c0_4]) ?_ 4 _ rfl; (with_reducible repeat (first | refine blk_drewN ?_ _ | refine blk_drew ?_ | refine blk_alloc ?_ _)); refine blk_put (cs := #[.int .i64 t929, .string t930, .string t931, .slice A0_3 l0_3.length c0_3, .slice A0_4 l0_4.length c0_4]) ?_ 3 _ rfl; (with_reducible repeat (first | refine blk_drewN ?_ _ | refine blk_drew ?_ | refine blk_alloc ?_ _)); refine blk_put (cs := #[.int .i64 t929, .string t930, .string a0_2, .slice A0_3 l0_3.length c0_3, .slice A0_4 l0_4.length c0_4]) ?_ 2 _ rfl; (with_reducible repeat (first | refine blk_drewN ?_ _ | refine blk_drew ?_ | refine blk_alloc ?_ _)); refine blk_put (cs := #[.int .i64 t929, .string a0_1, .string a0_2, .slice A0_3 l0_3.length c0_3, .slice A0_4 l0_4.length c0_4]) ?_ 1 _ rfl; (with_reducible repeat (first | refine blk_drewN ?_ _ | refine blk_drew ?_ | refine blk_alloc ?_ _)); refine blk_put (cs := #[.int .i64 a0_0, .string a0_1, .string a0_2, .slice A0_3 l0_3.length c0_3, .slice A0_4 l0_4.length c0_4]) ?_ 0 _ rfl; (with_reducible repeat (first | refine blk_drewN ?_ _ | refine blk_drew ?_ | refine blk_alloc ?_ _)); exact BK928.out)) : gb938 ≠ gb928)); clear HO934 HO937 BK928 HB; have HO934 := n0_; have HO937 := n1_; have BK928 := n2_; have HB := n3_; have BK938 := n4_; have GW938 := n5_; have GE938 := n6_; have NB928_938 := n7_; have NB938_928 := n8_; clear n0_ n1_ n2_ n3_ n4_ n5_ n6_ n7_ n8_ hb hbox hg; have hnb14 := NB938_928.out; have hnc14 := NB928_938.out; have hcz15_0 : w13.cell? ⟨gb938, 0, none⟩ = some (.string (⟨#[]⟩ : ByteArray)) := (blk_cell BK938.out 0).trans rfl; have hcz15_1 : w13.cell? ⟨gb938, 1, none⟩ = some (.string (⟨#[]⟩ : ByteArray)) := (blk_cell BK938.out 1).trans rfl; have hcz15_2 : w13.cell? ⟨gb938, 2, none⟩ = some (.string (⟨#[]⟩ : ByteArray)) := (blk_cell BK938.out 2).trans rfl; have hcz15_3 : w13.cell? ⟨gb938, 3, none⟩ = some (.slice none 0 0) := (blk_cell BK938.out 3).trans rfl; have hcz15_4 : w13.cell? ⟨gb938, 4, none⟩ = some (.slice none 0 0) := (blk_cell BK938.out 4).trans rfl; have hfz15_0 := blk_frozen BK938.out 0; have hfz15_1 := blk_frozen BK938.out 1; have hfz15_2 := blk_frozen BK938.out 2; have hfz15_3 := blk_frozen BK938.out 3; have hfz15_4 := blk_frozen BK938.out 4))
  have n0_ : Aside0 (Kd.R k49 49 (((((w13.setCell ⟨gb938, 0, none⟩ (.string t931)).setCell ⟨gb938, 1, none⟩ (.string (⟨#[]⟩ : ByteArray))).setCell ⟨gb938, 2, none⟩ (.string t930)).setCell ⟨gb938, 3, none⟩ (.slice Ao12 t935.length co12)).setCell ⟨gb938, 4, none⟩ (.slice Ao11 t932.length co11)) w.heap.size (fun k_ => some k_ ≠ (.slice Ao12 t935.length co12 : Value).ownBlock) (.slice Ao11 t932.length co11) t932) := ⟨by (with_reducible repeat (first | apply Kd.R_alloc | apply Kd.R_drewN | apply Kd.R_drew)); exact Kd.R_mono (Kd.R_far (p := ⟨gb938, 4, none⟩) (Kd.R_far (p := ⟨gb938, 3, none⟩) (Kd.R_far (p := ⟨gb938, 2, none⟩) (Kd.R_far (p := ⟨gb938, 1, none⟩) (Kd.R_far (p := ⟨gb938, 0, none⟩) (Kd.R_types HO934.out BK938.out (by decide)) (fun _ hk => hk.2) (.string t931)) (fun _ hk => hk.2) (.string (⟨#[]⟩ : ByteArray))) (fun _ hk => hk.2) (.string t930)) (fun _ hk => hk.2) (.slice Ao12 t935.length co12)) (fun _ hk => hk.2) (.slice Ao11 t932.length co11)) (fun _ hk => hk.1)⟩
  have n1_ : Aside0 (Kd.R k49 49 (((((w13.setCell ⟨gb938, 0, none⟩ (.string t931)).setCell ⟨gb938, 1, none⟩ (.string (⟨#[]⟩ : ByteArray))).setCell ⟨gb938, 2, none⟩ (.string t930)).setCell ⟨gb938, 3, none⟩ (.slice Ao12 t935.length co12)).setCell ⟨gb938, 4, none⟩ (.slice Ao11 t932.length co11)) w.heap.size (fun k_ => some k_ ≠ (.slice Ao11 t932.length co11 : Value).ownBlock) (.slice Ao12 t935.length co12) t935) := ⟨by (with_reducible repeat (first | apply Kd.R_alloc | apply Kd.R_drewN | apply Kd.R_drew)); exact Kd.R_mono (Kd.R_far (p := ⟨gb938, 4, none⟩) (Kd.R_far (p := ⟨gb938, 3, none⟩) (Kd.R_far (p := ⟨gb938, 2, none⟩) (Kd.R_far (p := ⟨gb938, 1, none⟩) (Kd.R_far (p := ⟨gb938, 0, none⟩) (Kd.R_types HO937.out BK938.out (by decide)) (fun _ hk => hk.2) (.string t931)) (fun _ hk => hk.2) (.string (⟨#[]⟩ : ByteArray))) (fun _ hk => hk.2) (.string t930)) (fun _ hk => hk.2) (.slice Ao12 t935.length co12)) (fun _ hk => hk.2) (.slice Ao11 t932.length co11)) (fun _ hk => hk.1)⟩
  have n2_ : Aside0 ((((((w13.setCell ⟨gb938, 0, none⟩ (.string t931)).setCell ⟨gb938, 1, none⟩ (.string (⟨#[]⟩ : ByteArray))).setCell ⟨gb938, 2, none⟩ (.string t930)).setCell ⟨gb938, 3, none⟩ (.slice Ao12 t935.length co12)).setCell ⟨gb938, 4, none⟩ (.slice Ao11 t932.length co11)).heap[gb928]? = some (.cells #[.int .i64 t929, .string t930, .string t931, .slice Ao11 t932.length co11, .slice Ao12 t935.length co12] 26 (0, 0))) := ⟨by (with_reducible repeat (first | refine blk_drewN ?_ _ | refine blk_drew ?_ | refine blk_alloc ?_ _)); refine blk_far ?_ NB928_938.out _; (with_reducible repeat (first | refine blk_drewN ?_ _ | refine blk_drew ?_ | refine blk_alloc ?_ _)); refine blk_far ?_ NB928_938.out _; (with_reducible repeat (first | refine blk_drewN ?_ _ | refine blk_drew ?_ | refine blk_alloc ?_ _)); refine blk_far ?_ NB928_938.out _; (with_reducible repeat (first | refine blk_drewN ?_ _ | refine blk_drew ?_ | refine blk_alloc ?_ _)); refine blk_far ?_ NB928_938.out _; (with_reducible repeat (first | refine blk_drewN ?_ _ | refine blk_drew ?_ | refine blk_alloc ?_ _)); refine blk_far ?_ NB928_938.out _; (with_reducible repeat (first | refine blk_drewN ?_ _ | refine blk_drew ?_ | refine blk_alloc ?_ _)); exact BK928.out⟩
  have n3_ : Aside0 ((((((w13.setCell ⟨gb938, 0, none⟩ (.string t931)).setCell ⟨gb938, 1, none⟩ (.string (⟨#[]⟩ : ByteArray))).setCell ⟨gb938, 2, none⟩ (.string t930)).setCell ⟨gb938, 3, none⟩ (.slice Ao12 t935.length co12)).setCell ⟨gb938, 4, none⟩ (.slice Ao11 t932.length co11)).heap[gb938]? = some (.cells #[.string t931, .string (⟨#[]⟩ : ByteArray), .string t930, .slice Ao12 t935.length co12, .slice Ao11 t932.length co11] 28 (0, 0))) := ⟨by (with_reducible repeat (first | refine blk_drewN ?_ _ | refine blk_drew ?_ | refine blk_alloc ?_ _)); refine blk_put (cs := #[.string t931, .string (⟨#[]⟩ : ByteArray), .string t930, .slice Ao12 t935.length co12, .slice none 0 0]) ?_ 4 _ rfl; (with_reducible repeat (first | refine blk_drewN ?_ _ | refine blk_drew ?_ | refine blk_alloc ?_ _)); refine blk_put (cs := #[.string t931, .string (⟨#[]⟩ : ByteArray), .string t930, .slice none 0 0, .slice none 0 0]) ?_ 3 _ rfl; (with_reducible repeat (first | refine blk_drewN ?_ _ | refine blk_drew ?_ | refine blk_alloc ?_ _)); refine blk_put (cs := #[.string t931, .string (⟨#[]⟩ : ByteArray), .string (⟨#[]⟩ : ByteArray), .slice none 0 0, .slice none 0 0]) ?_ 2 _ rfl; (with_reducible repeat (first | refine blk_drewN ?_ _ | refine blk_drew ?_ | refine blk_alloc ?_ _)); refine blk_put (cs := #[.string t931, .string (⟨#[]⟩ : ByteArray), .string (⟨#[]⟩ : ByteArray), .slice none 0 0, .slice none 0 0]) ?_ 1 _ rfl; (with_reducible repeat (first | refine blk_drewN ?_ _ | refine blk_drew ?_ | refine blk_alloc ?_ _)); refine blk_put (cs := #[.string (⟨#[]⟩ : ByteArray), .string (⟨#[]⟩ : ByteArray), .string (⟨#[]⟩ : ByteArray), .slice none 0 0, .slice none 0 0]) ?_ 0 _ rfl; (with_reducible repeat (first | refine blk_drewN ?_ _ | refine blk_drew ?_ | refine blk_alloc ?_ _)); exact BK938.out⟩
  have n4_ : Aside0 (Below w.heap.size w (((((w13.setCell ⟨gb938, 0, none⟩ (.string t931)).setCell ⟨gb938, 1, none⟩ (.string (⟨#[]⟩ : ByteArray))).setCell ⟨gb938, 2, none⟩ (.string t930)).setCell ⟨gb938, 3, none⟩ (.slice Ao12 t935.length co12)).setCell ⟨gb938, 4, none⟩ (.slice Ao11 t932.length co11))) := ⟨bel_ HB.out⟩
  (try clear HO934)
  (try clear HO937)
  (try clear BK928)
  (try clear BK938)
  (try clear HB)
  generalize (((((w13.setCell ⟨gb938, 0, none⟩ (.string t931)).setCell ⟨gb938, 1, none⟩ (.string (⟨#[]⟩ : ByteArray))).setCell ⟨gb938, 2, none⟩ (.string t930)).setCell ⟨gb938, 3, none⟩ (.slice Ao12 t935.length co12)).setCell ⟨gb938, 4, none⟩ (.slice Ao11 t932.length co11)) = w16 at n0_ n1_ n2_ n3_ n4_ ⊢
  have HO934 := n0_
  have HO937 := n1_
  have BK928 := n2_
  have BK938 := n3_
  have HB := n4_
  clear n0_ n1_ n2_ n3_ n4_
  have n0_ := am_ (Kd.R_drew HO934.out)
  have n1_ := am_ (Kd.R_drew HO937.out)
  have n2_ := am_ (blk_drew BK928.out)
  have n3_ := am_ (blk_drew BK938.out)
  have n4_ := am_ (below_drew1 HB.out)
  clear HO934 HO937 BK928 BK938 HB
  have HO934 := n0_
  have HO937 := n1_
  have BK928 := n2_
  have BK938 := n3_
  have HB := n4_
  clear n0_ n1_ n2_ n3_ n4_
  refine start_ (n := 10) (S := fun w' => w'.cell? ⟨gb928, 0, none⟩ = some (.int .i64 t929) ∧ w'.cell? ⟨gb928, 1, none⟩ = some (.string t930) ∧ w'.cell? ⟨gb928, 2, none⟩ = some (.string t931) ∧ w'.cell? ⟨gb928, 3, none⟩ = some (.slice Ao11 t932.length co11) ∧ w'.cell? ⟨gb928, 4, none⟩ = some (.slice Ao12 t935.length co12) ∧ w'.cell? ⟨gb938, 0, none⟩ = some (.string t931) ∧ w'.cell? ⟨gb938, 1, none⟩ = some (.string (⟨#[]⟩ : ByteArray)) ∧ w'.cell? ⟨gb938, 2, none⟩ = some (.string t930) ∧ w'.cell? ⟨gb938, 3, none⟩ = some (.slice Ao12 t935.length co12) ∧ w'.cell? ⟨gb938, 4, none⟩ = some (.slice Ao11 t932.length co11)) (ds := []) #[false, false, false, false, false, false, false, false, false, false] kr_ rfl rfl ⟨(blk_cell BK928.out 0).trans rfl, (blk_cell BK928.out 1).trans rfl, (blk_cell BK928.out 2).trans rfl, (blk_cell BK928.out 3).trans rfl, (blk_cell BK928.out 4).trans rfl, (blk_cell BK938.out 0).trans rfl, (blk_cell BK938.out 1).trans rfl, (blk_cell BK938.out 2).trans rfl, (blk_cell BK938.out 3).trans rfl, (blk_cell BK938.out 4).trans rfl⟩ (fun hHeld => ?_); refine with_tabW tolllaw06_RuleOwn.tab3 tolllaw06_RuleOwn.bits3 (fun HT_ HW_ => ?_)
  generalize w16.drew = w17 at HO934 HO937 BK928 BK938 HB hHeld ⊢
  refine take_ (i := 0) (N := some 16) (v := ?_) (a' := ?_) #[true, false, false, false, false, false, false, false, false, false] rfl rfl (take_ofW HT_.out HW_.out kr_) (fun _ _ _ h => h) (Or.inl ⟨by rfl, ?_⟩) hHeld ?_ ?_
  rotate_left
  ·rintro w' ⟨s0, s1, s2, s3, s4, s5, s6, s7, s8, s9⟩
   go_simp
   with_reducible rfl
  rotate_left
  ·simp only [Act.put, sx_, s0_, s1_, i64_w, i32_w]
   rfl
  refine take_ (i := 1) (N := some 17) (v := ?_) (a' := ?_) #[true, true, false, false, false, false, false, false, false, false] rfl rfl (take_ofW HT_.out HW_.out kr_) (fun _ _ _ h => h) (Or.inl ⟨by rfl, ?_⟩) hHeld ?_ ?_
  rotate_left
  ·rintro w' ⟨s0, s1, s2, s3, s4, s5, s6, s7, s8, s9⟩
   go_simp
   with_reducible rfl
  rotate_left
  ·simp only [Act.put, sx_, s0_, s1_, i64_w, i32_w]
   rfl
  refine take_ (i := 3) (N := some 19) (v := ?_) (a' := ?_) #[true, true, false, true, false, false, false, false, false, false] rfl rfl (take_ofW HT_.out HW_.out kr_) (fun _ _ _ h => h) (Or.inl ⟨by rfl, ?_⟩) hHeld ?_ ?_
  rotate_left
  ·rintro w' ⟨s0, s1, s2, s3, s4, s5, s6, s7, s8, s9⟩
   go_simp
   with_reducible rfl
  rotate_left
  ·simp only [Act.put, sx_, s0_, s1_, i64_w, i32_w]
   rfl
  refine one_ (i := 2) (N := some 18) #[true, true, true, true, false, false, false, false, false, false] rfl rfl (one_of HT_.out kr_) (by decide) (fun K hK => ?_)
  refine goes_ Tryd.func14 kr_ rfl #[.agg #[.int .i64 t929, .string t930, .string t931, .slice Ao11 t932.length co11, .slice Ao12 t935.length co12], .agg #[.string t931, .string (⟨#[]⟩ : ByteArray), .string t930, .slice Ao12 t935.length co12, .slice Ao11 t932.length co11]] (by rfl) rfl rfl rl_ ?_
  with_reducible refine (rule_Holds.calls k t929 t930 t931 _ _ t932 _ _ t935 t931 (⟨#[]⟩ : ByteArray) t930 _ _ t935 _ _ t932 t939 _ ?side1 ?side2 ?side3 ?side4 ?side5 ?side6 ?side7 ?side8 A3.out).mono ?_
  (case side1 => exact C_ (Kd.R_reads' HO934.out).2.2)
  (case side2 => exact (Kd.R_reads' HO934.out).2.1)
  (case side3 => exact C_ (Kd.R_reads' HO937.out).2.2)
  (case side4 => exact (Kd.R_reads' HO937.out).2.1)
  (case side5 => exact C_ (Kd.R_reads' HO937.out).2.2)
  (case side6 => exact (Kd.R_reads' HO937.out).2.1)
  (case side7 => exact C_ (Kd.R_reads' HO934.out).2.2)
  (case side8 => exact (Kd.R_reads' HO934.out).2.1)
  rintro e w18 ⟨rfl, hb⟩
  refine ⟨_, rfl, ?_⟩
  have n0_ := am_ (Kd.R_below (R_ HO934.out) hb)
  have n1_ := am_ (Kd.R_below (R_ HO937.out) hb)
  have n2_ := am_ (blk_below (g := gb928) (o := .cells #[.int .i64 t929, .string t930, .string t931, .slice Ao11 t932.length co11, .slice Ao12 t935.length co12] 26 (0, 0)) (blk_ BK928.out) hb)
  have n3_ := am_ (blk_below (g := gb938) (o := .cells #[.string t931, .string (⟨#[]⟩ : ByteArray), .string t930, .slice Ao12 t935.length co12, .slice Ao11 t932.length co11] 28 (0, 0)) (blk_ BK938.out) hb)
  have n4_ := am_ (below_step (bel_ HB.out) hb)
  clear HO934 HO937 BK928 BK938 HB
  have HO934 := n0_
  have HO937 := n1_
  have BK928 := n2_
  have BK938 := n3_
  have HB := n4_
  clear n0_ n1_ n2_ n3_ n4_
  (try clear hb)
  (try clear hb2)
  (try clear hk)
  (try clear hi)
  refine hK.out _ _ ⟨(blk_cell BK928.out 0).trans rfl, (blk_cell BK928.out 1).trans rfl, (blk_cell BK928.out 2).trans rfl, (blk_cell BK928.out 3).trans rfl, (blk_cell BK928.out 4).trans rfl, (blk_cell BK938.out 0).trans rfl, (blk_cell BK938.out 1).trans rfl, (blk_cell BK938.out 2).trans rfl, (blk_cell BK938.out 3).trans rfl, (blk_cell BK938.out 4).trans rfl⟩ (fun hHeld => ?_)
  clear hK K
  refine norm_ (a' := ?_) ?_ ?_
  rotate_left
  ·show Act.put _ (some 18) _ = _
   simp only [Act.put, sx_, s0_, s1_, i64_w, i32_w]
   rfl
  refine one_ (i := 4) (N := some 20) #[true, true, true, true, true, false, false, false, false, false] rfl rfl (one_of HT_.out kr_) (by decide) (fun K hK => ?_)
  refine goes_ Tryd.func12 kr_ rfl #[.agg #[.int .i64 t929, .string t930, .string t931, .slice Ao11 t932.length co11, .slice Ao12 t935.length co12]] (by rfl) rfl rfl rl_ ?_
  with_reducible refine (rule_May.calls k t929 t930 t931 _ _ t932 _ _ t935 t940 _ ?side1 ?side2 ?side3 ?side4 A4.out).mono ?_
  (case side1 => exact C_ (Kd.R_reads' HO934.out).2.2)
  (case side2 => exact (Kd.R_reads' HO934.out).2.1)
  (case side3 => exact C_ (Kd.R_reads' HO937.out).2.2)
  (case side4 => exact (Kd.R_reads' HO937.out).2.1)
  rintro e w19 ⟨rfl, hb⟩
  refine ⟨_, rfl, ?_⟩
  have n0_ := am_ (Kd.R_below (R_ HO934.out) hb)
  have n1_ := am_ (Kd.R_below (R_ HO937.out) hb)
  have n2_ := am_ (blk_below (g := gb928) (o := .cells #[.int .i64 t929, .string t930, .string t931, .slice Ao11 t932.length co11, .slice Ao12 t935.length co12] 26 (0, 0)) (blk_ BK928.out) hb)
  have n3_ := am_ (blk_below (g := gb938) (o := .cells #[.string t931, .string (⟨#[]⟩ : ByteArray), .string t930, .slice Ao12 t935.length co12, .slice Ao11 t932.length co11] 28 (0, 0)) (blk_ BK938.out) hb)
  have n4_ := am_ (below_step (bel_ HB.out) hb)
  clear HO934 HO937 BK928 BK938 HB
  have HO934 := n0_
  have HO937 := n1_
  have BK928 := n2_
  have BK938 := n3_
  have HB := n4_
  clear n0_ n1_ n2_ n3_ n4_
  (try clear hb)
  (try clear hb2)
  (try clear hk)
  (try clear hi)
  refine hK.out _ _ ⟨(blk_cell BK928.out 0).trans rfl, (blk_cell BK928.out 1).trans rfl, (blk_cell BK928.out 2).trans rfl, (blk_cell BK928.out 3).trans rfl, (blk_cell BK928.out 4).trans rfl, (blk_cell BK938.out 0).trans rfl, (blk_cell BK938.out 1).trans rfl, (blk_cell BK938.out 2).trans rfl, (blk_cell BK938.out 3).trans rfl, (blk_cell BK938.out 4).trans rfl⟩ (fun hHeld => ?_)
  clear hK K
  refine norm_ (a' := ?_) ?_ ?_
  rotate_left
  ·show Act.put _ (some 20) _ = _
   simp only [Act.put, sx_, s0_, s1_, i64_w, i32_w]
   rfl
  refine pure_ (i := 5) (N := some 21) (v := ?_) (a' := ?_) #[true, true, true, true, true, true, false, false, false, false] rfl rfl (any_of HT_.out kr_) (fun _ _ _ h => h) (Or.inl ⟨by rfl, ?_⟩) ?_ ?_
  rotate_left
  ·intro w'
   go_simp
   with_reducible rfl
  rotate_left
  ·simp only [Act.put, sx_, s0_, s1_, i64_w, i32_w]
   rfl
  refine pure_ (i := 6) (N := some 22) (v := ?_) (a' := ?_) #[true, true, true, true, true, true, true, false, false, false] rfl rfl (any_of HT_.out kr_) (fun _ _ _ h => h) (Or.inl ⟨by rfl, ?_⟩) ?_ ?_
  rotate_left
  ·intro w'
   go_simp
   with_reducible rfl
  rotate_left
  ·simp only [Act.put, sx_, s0_, s1_, i64_w, i32_w]
   rfl
  refine one_ (i := 7) (N := some 23) #[true, true, true, true, true, true, true, true, false, false] rfl rfl (one_of HT_.out kr_) (by decide) (fun K hK => ?_)
  refine goes_ Tryd.func18 kr_ rfl #[] (by rfl) rfl rfl rl_ ?_
  with_reducible refine (tolllaw06_awake.calls  t941 _ A6.out).mono ?_
  rintro e w20 ⟨rfl, hb⟩
  refine ⟨_, rfl, ?_⟩
  have n0_ := am_ (Kd.R_below (R_ HO934.out) hb)
  have n1_ := am_ (Kd.R_below (R_ HO937.out) hb)
  have n2_ := am_ (blk_below (g := gb928) (o := .cells #[.int .i64 t929, .string t930, .string t931, .slice Ao11 t932.length co11, .slice Ao12 t935.length co12] 26 (0, 0)) (blk_ BK928.out) hb)
  have n3_ := am_ (blk_below (g := gb938) (o := .cells #[.string t931, .string (⟨#[]⟩ : ByteArray), .string t930, .slice Ao12 t935.length co12, .slice Ao11 t932.length co11] 28 (0, 0)) (blk_ BK938.out) hb)
  have n4_ := am_ (below_step (bel_ HB.out) hb)
  clear HO934 HO937 BK928 BK938 HB
  have HO934 := n0_
  have HO937 := n1_
  have BK928 := n2_
  have BK938 := n3_
  have HB := n4_
  clear n0_ n1_ n2_ n3_ n4_
  (try clear hb)
  (try clear hb2)
  (try clear hk)
  (try clear hi)
  refine hK.out _ _ ⟨(blk_cell BK928.out 0).trans rfl, (blk_cell BK928.out 1).trans rfl, (blk_cell BK928.out 2).trans rfl, (blk_cell BK928.out 3).trans rfl, (blk_cell BK928.out 4).trans rfl, (blk_cell BK938.out 0).trans rfl, (blk_cell BK938.out 1).trans rfl, (blk_cell BK938.out 2).trans rfl, (blk_cell BK938.out 3).trans rfl, (blk_cell BK938.out 4).trans rfl⟩ (fun hHeld => ?_)
  clear hK K
  refine norm_ (a' := ?_) ?_ ?_
  rotate_left
  ·show Act.put _ (some 23) _ = _
   simp only [Act.put, sx_, s0_, s1_, i64_w, i32_w]
   rfl
  refine pure_ (i := 8) (N := some 24) (v := ?_) (a' := ?_) #[true, true, true, true, true, true, true, true, true, false] rfl rfl (any_of HT_.out kr_) (fun _ _ _ h => h) (Or.inl ⟨by rfl, ?_⟩) ?_ ?_
  rotate_left
  ·intro w'
   go_simp
   with_reducible rfl
  rotate_left
  ·simp only [Act.put, sx_, s0_, s1_, i64_w, i32_w]
   rfl
  refine pure_ (i := 9) (N := some 2) (v := ?_) (a' := ?_) #[true, true, true, true, true, true, true, true, true, true] rfl rfl (any_of HT_.out kr_) (fun _ _ _ h => h) (Or.inl ⟨by rfl, ?_⟩) ?_ ?_
  rotate_left
  ·intro w'
   go_simp
   with_reducible rfl
  rotate_left
  ·simp only [Act.put, sx_, s0_, s1_, i64_w, i32_w]
   rfl
  refine done_ (done_of HT_.out kr_) ?_
  try go_wp2
  go_ret
  exact ⟨fi_, bel_ HB.out⟩
 ·rw [if_neg c5] at H
  exact absurd H (by simp)

/-- THE ONE PURE STATEMENT of tolllaw06_RuleOwn. -/
noncomputable def tolllaw06_RuleOwn.Pure : Prop := ∀ (a0_0 : Int) (a0_1 : ByteArray) (a0_2 : ByteArray) (l0_3 : List (S49)) (l0_4 : List (S49)), ((((Lit.int .i64 a0_0).wf = true) ∧ (a0_1.size ≤ 140737488351232)) ∧ (a0_2.size ≤ 140737488351232) ∧ (l0_3.length ≤ maxLen ∧ l0_3.length * 32 ≤ 140737488351232 ∧ ∀ y ∈ l0_3, (y.f0.size ≤ 140737488351232) ∧ (y.f1.size ≤ 140737488351232)) ∧ (l0_4.length ≤ maxLen ∧ l0_4.length * 32 ≤ 140737488351232 ∧ ∀ y ∈ l0_4, (y.f0.size ≤ 140737488351232) ∧ (y.f1.size ≤ 140737488351232))) → ∃ k, tolllaw06_RuleOwn.f k a0_0 a0_1 a0_2 l0_3 l0_4 = some true

end Go.Proofs.YtompldnifiieaaaDoor.P
