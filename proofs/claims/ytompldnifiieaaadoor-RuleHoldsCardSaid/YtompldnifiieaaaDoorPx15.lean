-- written by wip/tool/hprint.py of this repo: the kit's print, with contracts by hand joined; Lean checks it.
import Derived.Test.YtompldnifiieaaaDoorPx0
import Derived.Test.YtompldnifiieaaaDoorPx1
import Derived.Test.YtompldnifiieaaaDoorPx3
import Derived.Test.YtompldnifiieaaaDoorPx4
import Derived.Test.YtompldnifiieaaaDoorPx7
import Derived.Test.YtompldnifiieaaaDoorPx8
import Derived.Test.YtompldnifiieaaaDoorPx10
import Derived.Test.YtompldnifiieaaaDoorPx11
import Derived.Test.YtompldnifiieaaaDoorPx14
namespace Go.Proofs.YtompldnifiieaaaDoor.P
open Go.RowKit Go.Proofs.YtompldnifiieaaaDoorW.PrintWords Go.Proofs.YtompldnifiieaaaDoorW.PrintLast Go.Proofs.YtompldnifiieaaaDoorW.PrintMore
attribute [local go_sem] max2_int min2_int max_two min_two max_three min_three max_four min_four   -- for this text's walks alone
set_option linter.unusedVariables false
set_option linter.unusedSimpArgs false

/-! ### tolllaw06_RuleHolds: function 3 -/
noncomputable def tolllaw06_RuleHolds.f (k : Nat) (a0_0 : Int) (a0_1 : ByteArray) (a0_2 : ByteArray) (l0_3 : List (S49)) (l0_4 : List (S49)) (a1_0 : ByteArray) (a1_1 : ByteArray) (a1_2 : ByteArray) (l1_3 : List (S49)) (l1_4 : List (S49)) (a2 : ByteArray) : Option (Bool) := (tolllaw06_Few.f k a0_0 a0_1 a0_2 l0_3 l0_4).bind fun bt238 => ((tolllaw06_Asked.f k a1_0 a1_1 a1_2 l1_3 l1_4).bind fun bt247 => ((tolllaw01_Few.f a2).bind fun t256 => ((rule_May.f k bt238.1 bt238.2.1 bt238.2.2.1 bt238.2.2.2.1 bt238.2.2.2.2).bind fun t257 => ((tollref06_May.f k bt238.1 bt238.2.1 bt238.2.2.1 bt238.2.2.2.1 bt238.2.2.2.2).bind fun t258 => (if (t257 == t258) = true then ((rule_Holds.f k bt238.1 bt238.2.1 bt238.2.2.1 bt238.2.2.2.1 bt238.2.2.2.2 bt247.1 bt247.2.1 bt247.2.2.1 bt247.2.2.2.1 bt247.2.2.2.2).bind fun t259 => ((tollref06_Holds.f k bt238.1 bt238.2.1 bt238.2.2.1 bt238.2.2.2.1 bt238.2.2.2.2 bt247.1 bt247.2.1 bt247.2.2.1 bt247.2.2.2.1 bt247.2.2.2.2).bind fun t260 => (if (t259 == t260) = true then ((rule_Method.f t256).bind fun t261 => ((tollref06_Method.f k t256).bind fun t262 => (if (t261 == t262) = true then ((tolllaw06_awake.f).bind fun t263 => (some t263)) else (none)))) else (none)))) else (none))))))
theorem tolllaw06_RuleHolds.mono : ∀ a0 a1 a2 a3 a4 a5 a6 a7 a8 a9 a10 k, LeO (tolllaw06_RuleHolds.f k a0 a1 a2 a3 a4 a5 a6 a7 a8 a9 a10) (tolllaw06_RuleHolds.f (k + 1) a0 a1 a2 a3 a4 a5 a6 a7 a8 a9 a10) := by
 intro a0 a1 a2 a3 a4 a5 a6 a7 a8 a9 a10 k
 unfold tolllaw06_RuleHolds.f
 repeat' first
   | (with_reducible exact rule_Holds.mono _ _ _ _ _ _ _ _ _ _ _)
   | (with_reducible exact rule_May.mono _ _ _ _ _ _)
   | (with_reducible exact tolllaw06_Asked.mono _ _ _ _ _ _)
   | (with_reducible exact tolllaw06_Few.mono _ _ _ _ _ _)
   | (with_reducible exact tollref06_Holds.mono _ _ _ _ _ _ _ _ _ _ _)
   | (with_reducible exact tollref06_May.mono _ _ _ _ _ _)
   | (with_reducible exact tollref06_Method.mono _ _)
   | (with_reducible exact LeO.refl _)
   | (with_reducible exact LeO.none _)
   | (with_reducible refine LeO.ite ?_ ?_)
   | (with_reducible refine LeO.bind ?_ (fun _ => ?_))
   | exact rule_Holds.mono _ _ _ _ _ _ _ _ _ _ _
   | exact rule_May.mono _ _ _ _ _ _
   | exact tolllaw06_Asked.mono _ _ _ _ _ _
   | exact tolllaw06_Few.mono _ _ _ _ _ _
   | exact tollref06_Holds.mono _ _ _ _ _ _ _ _ _ _ _
   | exact tollref06_May.mono _ _ _ _ _ _
   | exact tollref06_Method.mono _ _
   | exact LeO.none _
   | refine LeO.ite ?_ ?_
   | refine LeO.bind ?_ (fun _ => ?_)
noncomputable def tolllaw06_RuleHolds.T1 : Bool × List (List Nat × List Nat) := (true, [([], []), ([0], [0]), ([], []), ([2, 1], [2]), ([], []), ([4, 3], [4]), ([1, 5, 0, 1], [1]), ([3, 6, 0, 1, 2, 3, 6], [3]), ([5, 7, 0, 1, 2, 3, 4, 5, 6, 7], [4, 5])])
noncomputable def tolllaw06_RuleHolds.B1 : List Nat := [0, 1, 0, 7, 0, 31, 63, 127, 255]
theorem tolllaw06_RuleHolds.tab1 : rtab .any (opsOf Tryd.f3 1) = tolllaw06_RuleHolds.T1 := by kernel_rfl
theorem tolllaw06_RuleHolds.bits1 : waitsOk tolllaw06_RuleHolds.T1.2 tolllaw06_RuleHolds.B1 = true := by kernel_rfl
noncomputable def tolllaw06_RuleHolds.T2 : Bool × List (List Nat × List Nat) := (true, [([], []), ([0], [0]), ([], []), ([2, 1], [2]), ([1, 3], [1, 3]), ([4, 3], [4]), ([5], [5]), ([5], [5]), ([6, 7, 5, 5], [5, 6, 7]), ([5], [5]), ([5], [5]), ([9, 10, 8, 5], [5, 9, 10]), ([8, 11, 5], [5, 8, 11]), ([5, 12], [5, 12]), ([13, 11], [13]), ([14], [14]), ([15, 14, 14], [14, 15]), ([14], [14]), ([17, 16, 14], [14, 17]), ([16, 18, 14], [14, 16, 18]), ([14, 19], [14, 19]), ([20, 18], [20]), ([21, 21], [21]), ([21, 22], [21, 22]), ([23, 22, 0, 1, 2, 3, 4, 5, 6, 7, 8, 9, 10, 11, 12, 13, 14, 15, 16, 17, 18, 19, 20, 21, 22, 23], [23])])
noncomputable def tolllaw06_RuleHolds.B2 : List Nat := [0, 1, 0, 7, 15, 31, 63, 63, 255, 63, 63, 2047, 4095, 8191, 16383, 32767, 65535, 32767, 262143, 524287, 1048575, 2097151, 4194303, 8388607, 16777215]
theorem tolllaw06_RuleHolds.tab2 : rtab .any (opsOf Tryd.f3 2) = tolllaw06_RuleHolds.T2 := by kernel_rfl
theorem tolllaw06_RuleHolds.bits2 : waitsOk tolllaw06_RuleHolds.T2.2 tolllaw06_RuleHolds.B2 = true := by kernel_rfl
set_option maxHeartbeats 4000000 in
set_option maxRecDepth 100000 in
theorem tolllaw06_RuleHolds.calls (k : Nat) (a0_0 : Int) (a0_1 : ByteArray) (a0_2 : ByteArray) (A0_3 : Option Addr) (c0_3 : Nat) (l0_3 : List (S49)) (A0_4 : Option Addr) (c0_4 : Nat) (l0_4 : List (S49)) (a1_0 : ByteArray) (a1_1 : ByteArray) (a1_2 : ByteArray) (A1_3 : Option Addr) (c1_3 : Nat) (l1_3 : List (S49)) (A1_4 : Option Addr) (c1_4 : Nat) (l1_4 : List (S49)) (a2 : ByteArray) (r : Bool) (w : World) (hr0_3 : Kd.C k49 w A0_3 l0_3.length l0_3) (hc0_3 : l0_3.length ≤ c0_3) (hr0_4 : Kd.C k49 w A0_4 l0_4.length l0_4) (hc0_4 : l0_4.length ≤ c0_4) (hr1_3 : Kd.C k49 w A1_3 l1_3.length l1_3) (hc1_3 : l1_3.length ≤ c1_3) (hr1_4 : Kd.C k49 w A1_4 l1_4.length l1_4) (hc1_4 : l1_4.length ≤ c1_4) (h : tolllaw06_RuleHolds.f k a0_0 a0_1 a0_2 l0_3 l0_4 a1_0 a1_1 a1_2 l1_3 l1_4 a2 = some r) :
  Calls Tryd.prog 3 #[.agg #[.int .i64 a0_0, .string a0_1, .string a0_2, .slice A0_3 l0_3.length c0_3, .slice A0_4 l0_4.length c0_4], .agg #[.string a1_0, .string a1_1, .string a1_2, .slice A1_3 l1_3.length c1_3, .slice A1_4 l1_4.length c1_4], .string a2] w fun e w' => e = .returned (.bool r) ∧ Below w.heap.size w w' := by
 have hu26 := Tryd.underlying26
 have hu28 := Tryd.underlying28
 have HR0_3 := Aside0.mk hr0_3
 have HC0_3 := Aside0.mk hc0_3
 clear hr0_3 hc0_3
 have HR0_4 := Aside0.mk hr0_4
 have HC0_4 := Aside0.mk hc0_4
 clear hr0_4 hc0_4
 have HR1_3 := Aside0.mk hr1_3
 have HC1_3 := Aside0.mk hc1_3
 clear hr1_3 hc1_3
 have HR1_4 := Aside0.mk hr1_4
 have HC1_4 := Aside0.mk hc1_4
 clear hr1_4 hc1_4
 have HB := am_ (Below.refl w.heap.size w)
 have H : ((tolllaw06_Few.f k a0_0 a0_1 a0_2 l0_3 l0_4).bind fun bt238 => ((tolllaw06_Asked.f k a1_0 a1_1 a1_2 l1_3 l1_4).bind fun bt247 => ((tolllaw01_Few.f a2).bind fun t256 => ((rule_May.f k bt238.1 bt238.2.1 bt238.2.2.1 bt238.2.2.2.1 bt238.2.2.2.2).bind fun t257 => ((tollref06_May.f k bt238.1 bt238.2.1 bt238.2.2.1 bt238.2.2.2.1 bt238.2.2.2.2).bind fun t258 => (if (t257 == t258) = true then ((rule_Holds.f k bt238.1 bt238.2.1 bt238.2.2.1 bt238.2.2.2.1 bt238.2.2.2.2 bt247.1 bt247.2.1 bt247.2.2.1 bt247.2.2.2.1 bt247.2.2.2.2).bind fun t259 => ((tollref06_Holds.f k bt238.1 bt238.2.1 bt238.2.2.1 bt238.2.2.2.1 bt238.2.2.2.2 bt247.1 bt247.2.1 bt247.2.2.1 bt247.2.2.2.1 bt247.2.2.2.2).bind fun t260 => (if (t259 == t260) = true then ((rule_Method.f t256).bind fun t261 => ((tollref06_Method.f k t256).bind fun t262 => (if (t261 == t262) = true then ((tolllaw06_awake.f).bind fun t263 => (some t263)) else (none)))) else (none)))) else (none))))))) = some r := h
 clear h
 replace H := Option.bind_eq_some_iff.mp H
 obtain ⟨⟨t238, t239, t240, t241, t244⟩, A40, H⟩ := H
 replace H : ((tolllaw06_Asked.f k a1_0 a1_1 a1_2 l1_3 l1_4).bind fun bt247 => ((tolllaw01_Few.f a2).bind fun t256 => ((rule_May.f k t238 t239 t240 t241 t244).bind fun t257 => ((tollref06_May.f k t238 t239 t240 t241 t244).bind fun t258 => (if (t257 == t258) = true then ((rule_Holds.f k t238 t239 t240 t241 t244 bt247.1 bt247.2.1 bt247.2.2.1 bt247.2.2.2.1 bt247.2.2.2.2).bind fun t259 => ((tollref06_Holds.f k t238 t239 t240 t241 t244 bt247.1 bt247.2.1 bt247.2.2.1 bt247.2.2.2.1 bt247.2.2.2.2).bind fun t260 => (if (t259 == t260) = true then ((rule_Method.f t256).bind fun t261 => ((tollref06_Method.f k t256).bind fun t262 => (if (t261 == t262) = true then ((tolllaw06_awake.f).bind fun t263 => (some t263)) else (none)))) else (none)))) else (none)))))) = some r := H
 have A4 := Aside0.mk A40
 clear A40
 replace H := Option.bind_eq_some_iff.mp H
 obtain ⟨⟨t247, t248, t249, t250, t253⟩, A50, H⟩ := H
 replace H : ((tolllaw01_Few.f a2).bind fun t256 => ((rule_May.f k t238 t239 t240 t241 t244).bind fun t257 => ((tollref06_May.f k t238 t239 t240 t241 t244).bind fun t258 => (if (t257 == t258) = true then ((rule_Holds.f k t238 t239 t240 t241 t244 t247 t248 t249 t250 t253).bind fun t259 => ((tollref06_Holds.f k t238 t239 t240 t241 t244 t247 t248 t249 t250 t253).bind fun t260 => (if (t259 == t260) = true then ((rule_Method.f t256).bind fun t261 => ((tollref06_Method.f k t256).bind fun t262 => (if (t261 == t262) = true then ((tolllaw06_awake.f).bind fun t263 => (some t263)) else (none)))) else (none)))) else (none))))) = some r := H
 have A5 := Aside0.mk A50
 clear A50
 replace H := Option.bind_eq_some_iff.mp H
 obtain ⟨t256, A60, H⟩ := H
 replace H : ((rule_May.f k t238 t239 t240 t241 t244).bind fun t257 => ((tollref06_May.f k t238 t239 t240 t241 t244).bind fun t258 => (if (t257 == t258) = true then ((rule_Holds.f k t238 t239 t240 t241 t244 t247 t248 t249 t250 t253).bind fun t259 => ((tollref06_Holds.f k t238 t239 t240 t241 t244 t247 t248 t249 t250 t253).bind fun t260 => (if (t259 == t260) = true then ((rule_Method.f t256).bind fun t261 => ((tollref06_Method.f k t256).bind fun t262 => (if (t261 == t262) = true then ((tolllaw06_awake.f).bind fun t263 => (some t263)) else (none)))) else (none)))) else (none)))) = some r := H
 have A6 := Aside0.mk A60
 clear A60
 replace H := Option.bind_eq_some_iff.mp H
 obtain ⟨t257, A70, H⟩ := H
 replace H : ((tollref06_May.f k t238 t239 t240 t241 t244).bind fun t258 => (if (t257 == t258) = true then ((rule_Holds.f k t238 t239 t240 t241 t244 t247 t248 t249 t250 t253).bind fun t259 => ((tollref06_Holds.f k t238 t239 t240 t241 t244 t247 t248 t249 t250 t253).bind fun t260 => (if (t259 == t260) = true then ((rule_Method.f t256).bind fun t261 => ((tollref06_Method.f k t256).bind fun t262 => (if (t261 == t262) = true then ((tolllaw06_awake.f).bind fun t263 => (some t263)) else (none)))) else (none)))) else (none))) = some r := H
 have A7 := Aside0.mk A70
 clear A70
 replace H := Option.bind_eq_some_iff.mp H
 obtain ⟨t258, A80, H⟩ := H
 replace H : (if (t257 == t258) = true then ((rule_Holds.f k t238 t239 t240 t241 t244 t247 t248 t249 t250 t253).bind fun t259 => ((tollref06_Holds.f k t238 t239 t240 t241 t244 t247 t248 t249 t250 t253).bind fun t260 => (if (t259 == t260) = true then ((rule_Method.f t256).bind fun t261 => ((tollref06_Method.f k t256).bind fun t262 => (if (t261 == t262) = true then ((tolllaw06_awake.f).bind fun t263 => (some t263)) else (none)))) else (none)))) else (none)) = some r := H
 have A8 := Aside0.mk A80
 clear A80
 by_cases c9 : (t257 == t258) = true
 ·rw [if_pos c9] at H
  have c9b0 : (t257 == t258) = true := c9
  (try (have c9b1 : decide (t257 = t258) = true := by simpa using c9))
  (try (have c9b2 : (t257 == t258) = true := by simpa using c9))
  clear c9
  replace H := Option.bind_eq_some_iff.mp H
  obtain ⟨t259, A100, H⟩ := H
  replace H : ((tollref06_Holds.f k t238 t239 t240 t241 t244 t247 t248 t249 t250 t253).bind fun t260 => (if (t259 == t260) = true then ((rule_Method.f t256).bind fun t261 => ((tollref06_Method.f k t256).bind fun t262 => (if (t261 == t262) = true then ((tolllaw06_awake.f).bind fun t263 => (some t263)) else (none)))) else (none))) = some r := H
  have A10 := Aside0.mk A100
  clear A100
  replace H := Option.bind_eq_some_iff.mp H
  obtain ⟨t260, A110, H⟩ := H
  replace H : (if (t259 == t260) = true then ((rule_Method.f t256).bind fun t261 => ((tollref06_Method.f k t256).bind fun t262 => (if (t261 == t262) = true then ((tolllaw06_awake.f).bind fun t263 => (some t263)) else (none)))) else (none)) = some r := H
  have A11 := Aside0.mk A110
  clear A110
  by_cases c12 : (t259 == t260) = true
  ·rw [if_pos c12] at H
   have c12b0 : (t259 == t260) = true := c12
   (try (have c12b1 : decide (t259 = t260) = true := by simpa using c12))
   (try (have c12b2 : (t259 == t260) = true := by simpa using c12))
   clear c12
   replace H := Option.bind_eq_some_iff.mp H
   obtain ⟨t261, A130, H⟩ := H
   replace H : ((tollref06_Method.f k t256).bind fun t262 => (if (t261 == t262) = true then ((tolllaw06_awake.f).bind fun t263 => (some t263)) else (none))) = some r := H
   have A13 := Aside0.mk A130
   clear A130
   replace H := Option.bind_eq_some_iff.mp H
   obtain ⟨t262, A140, H⟩ := H
   replace H : (if (t261 == t262) = true then ((tolllaw06_awake.f).bind fun t263 => (some t263)) else (none)) = some r := H
   have A14 := Aside0.mk A140
   clear A140
   by_cases c15 : (t261 == t262) = true
   ·rw [if_pos c15] at H
    have c15b0 : (t261 == t262) = true := c15
    (try (have c15b1 : decide (t261 = t262) = true := by simpa using c15))
    (try (have c15b2 : (t261 == t262) = true := by simpa using c15))
    clear c15
    replace H := Option.bind_eq_some_iff.mp H
    obtain ⟨t263, A160, H⟩ := H
    replace H : (some t263) = some r := H
    have A16 := Aside0.mk A160
    clear A160
    obtain rfl := Option.some.inj H
    go_enter Tryd.func3, Tryd.ntmps3
    try go_wp2_with (first | ((with_reducible refine gate_dst (N := 3) rfl ?_); refine box_event ?hg (N := 3) ?hd (cs := #[.int .i64 a0_0, .string a0_1, .string a0_2, .slice A0_3 l0_3.length c0_3, .slice A0_4 l0_4.length c0_4]) (t := 26) ?hr ?_; (case hd => rfl); (case hg => rfl); (case hr => first | (go_simp; done) | (go_simp; rfl)); intro gb236 hg w17 hbox hb; have n0_ := am_ (below_step (bel_ HB.out) hb); have n1_ := am_ (hbox); have n2_ := am_ ((by rw [hg]; exact (below_size (bel_ HB.out)) : w.heap.size ≤ gb236)); have n3_ := am_ ((by rw [hg]; exact (below_size (bel_ HB.out)) : w.heap.size ≤ gb236)); clear HB; have HB := n0_; have BK236 := n1_; have GW236 := n2_; have GE236 := n3_; clear n0_ n1_ n2_ n3_ hb hbox hg) | ((with_reducible refine gate_dst (N := 4) rfl ?_); refine box_event ?hg (N := 4) ?hd (cs := #[.string a1_0, .string a1_1, .string a1_2, .slice A1_3 l1_3.length c1_3, .slice A1_4 l1_4.length c1_4]) (t := 28) ?hr ?_; (case hd => rfl); (case hg => rfl); (case hr => first | (go_simp; done) | (go_simp; rfl)); intro gb237 hg w18 hbox hb; have n0_ := am_ (blk_below (g := gb236) (o := .cells #[.int .i64 a0_0, .string a0_1, .string a0_2, .slice A0_3 l0_3.length c0_3, .slice A0_4 l0_4.length c0_4] 26 (0, 0)) (blk_ BK236.out) hb); have n1_ := am_ (below_step (bel_ HB.out) hb); have n2_ := am_ (hbox); have n3_ := am_ ((by rw [hg]; exact (below_size (bel_ HB.out)) : w.heap.size ≤ gb237)); have n4_ := am_ ((by rw [hg]; exact (below_size (bel_ HB.out)) : w.heap.size ≤ gb237)); have n5_ := am_ ((by rw [hg]; exact Nat.ne_of_lt (blk_lt (g := gb236) (o := .cells #[.int .i64 a0_0, .string a0_1, .string a0_2, .slice A0_3 l0_3.length c0_3, .slice A0_4 l0_4.length c0_4] 26 (0, 0)) (blk_ BK236.out)) : gb236 ≠ gb237)); have n6_ := am_ ((by rw [hg]; exact Nat.ne_of_gt (blk_lt (g := gb236) (o := .cells #[.int .i64 a0_0, .string a0_1, .string a0_2, .slice A0_3 l0_3.length c0_3, .slice A0_4 l0_4.length c0_4] 26 (0, 0)) (blk_ BK236.out)) : gb237 ≠ gb236)); clear BK236 HB; have BK236 := n0_; have HB := n1_; have BK237 := n2_; have GW237 := n3_; have GE237 := n4_; have NB236_237 := n5_; have NB237_236 := n6_; clear n0_ n1_ n2_ n3_ n4_ n5_ n6_ hb hbox hg))
    have n0_ := am_ (blk_drew BK236.out)
    have n1_ := am_ (blk_drew BK237.out)
    have n2_ := am_ (below_drew1 HB.out)
    clear BK236 BK237 HB
    have BK236 := n0_
    have BK237 := n1_
    have HB := n2_
    clear n0_ n1_ n2_
    refine start_ (n := 9) (S := fun w' => w'.cell? ⟨gb236, 0, none⟩ = some (.int .i64 a0_0) ∧ w'.cell? ⟨gb236, 1, none⟩ = some (.string a0_1) ∧ w'.cell? ⟨gb236, 2, none⟩ = some (.string a0_2) ∧ w'.cell? ⟨gb236, 3, none⟩ = some (.slice A0_3 l0_3.length c0_3) ∧ w'.cell? ⟨gb236, 4, none⟩ = some (.slice A0_4 l0_4.length c0_4) ∧ w'.cell? ⟨gb237, 0, none⟩ = some (.string a1_0) ∧ w'.cell? ⟨gb237, 1, none⟩ = some (.string a1_1) ∧ w'.cell? ⟨gb237, 2, none⟩ = some (.string a1_2) ∧ w'.cell? ⟨gb237, 3, none⟩ = some (.slice A1_3 l1_3.length c1_3) ∧ w'.cell? ⟨gb237, 4, none⟩ = some (.slice A1_4 l1_4.length c1_4)) (ds := [6, 7]) #[false, false, false, false, false, false, false, false, false] kr_ rfl rfl ⟨(blk_cell BK236.out 0).trans rfl, (blk_cell BK236.out 1).trans rfl, (blk_cell BK236.out 2).trans rfl, (blk_cell BK236.out 3).trans rfl, (blk_cell BK236.out 4).trans rfl, (blk_cell BK237.out 0).trans rfl, (blk_cell BK237.out 1).trans rfl, (blk_cell BK237.out 2).trans rfl, (blk_cell BK237.out 3).trans rfl, (blk_cell BK237.out 4).trans rfl⟩ (fun hHeld => ?_); refine with_tabW tolllaw06_RuleHolds.tab1 tolllaw06_RuleHolds.bits1 (fun HT_ HW_ => ?_)
    generalize w18.drew = w19 at BK236 BK237 HB hHeld ⊢
    refine pure_ (i := 4) (N := some 11) (v := ?_) (a' := ?_) #[false, false, false, false, true, false, false, false, false] rfl rfl (any_of HT_.out kr_) (fun _ _ _ h => h) (Or.inl ⟨by rfl, ?_⟩) ?_ ?_
    rotate_left
    ·intro w'
     go_simp
     with_reducible rfl
    rotate_left
    ·simp only [Act.put, sx_, s0_, s1_, i64_w, i32_w]
     rfl
    refine take_ (i := 0) (N := some 7) (v := ?_) (a' := ?_) #[true, false, false, false, true, false, false, false, false] rfl rfl (take_ofW HT_.out HW_.out kr_) (fun _ _ _ h => h) (Or.inl ⟨by rfl, ?_⟩) hHeld ?_ ?_
    rotate_left
    ·rintro w' ⟨s0, s1, s2, s3, s4, s5, s6, s7, s8, s9⟩
     go_simp
     with_reducible rfl
    rotate_left
    ·simp only [Act.put, sx_, s0_, s1_, i64_w, i32_w]
     rfl
    refine take_ (i := 2) (N := some 9) (v := ?_) (a' := ?_) #[true, false, true, false, true, false, false, false, false] rfl rfl (take_ofW HT_.out HW_.out kr_) (fun _ _ _ h => h) (Or.inl ⟨by rfl, ?_⟩) hHeld ?_ ?_
    rotate_left
    ·rintro w' ⟨s0, s1, s2, s3, s4, s5, s6, s7, s8, s9⟩
     go_simp
     with_reducible rfl
    rotate_left
    ·simp only [Act.put, sx_, s0_, s1_, i64_w, i32_w]
     rfl
    refine one_ (i := 1) (N := some 8) #[true, true, true, false, true, false, false, false, false] rfl rfl (one_of HT_.out kr_) (by decide) (fun K hK => ?_)
    refine goes_ Tryd.func9 kr_ rfl #[.agg #[.int .i64 a0_0, .string a0_1, .string a0_2, .slice A0_3 l0_3.length c0_3, .slice A0_4 l0_4.length c0_4]] (by rfl) rfl rfl rl_ ?_
    with_reducible refine (tolllaw06_Few.calls k a0_0 a0_1 a0_2 _ _ l0_3 _ _ l0_4 t238 t239 t240 t241 t244 _ ?side1 ?side2 ?side3 ?side4 A4.out).mono ?_
    (case side1 => exact C_ (Kd.C_below HR0_3.out HB.out))
    (case side2 => exact HC0_3.out)
    (case side3 => exact C_ (Kd.C_below HR0_4.out HB.out))
    (case side4 => exact HC0_4.out)
    rintro e w20 ⟨v242, v245, rfl, ho0, ho1, hb⟩
    refine ⟨_, rfl, ?_⟩
    have n0_ := am_ (Kd.R_lower ho0 (below_size (bel_ HB.out)))
    have n1_ := am_ (Kd.R_lower ho1 (below_size (bel_ HB.out)))
    have n2_ := am_ (blk_below (g := gb236) (o := .cells #[.int .i64 a0_0, .string a0_1, .string a0_2, .slice A0_3 l0_3.length c0_3, .slice A0_4 l0_4.length c0_4] 26 (0, 0)) (blk_ BK236.out) hb)
    have n3_ := am_ (blk_below (g := gb237) (o := .cells #[.string a1_0, .string a1_1, .string a1_2, .slice A1_3 l1_3.length c1_3, .slice A1_4 l1_4.length c1_4] 28 (0, 0)) (blk_ BK237.out) hb)
    have n4_ := am_ (below_step (bel_ HB.out) hb)
    clear BK236 BK237 HB
    have HO243 := n0_
    have HO246 := n1_
    have BK236 := n2_
    have BK237 := n3_
    have HB := n4_
    clear n0_ n1_ n2_ n3_ n4_
    (try clear hb)
    (try clear hb2)
    (try clear hk)
    (try clear hi)
    (try clear ho0)
    (try clear ho1)
    refine hK.out _ _ ⟨(blk_cell BK236.out 0).trans rfl, (blk_cell BK236.out 1).trans rfl, (blk_cell BK236.out 2).trans rfl, (blk_cell BK236.out 3).trans rfl, (blk_cell BK236.out 4).trans rfl, (blk_cell BK237.out 0).trans rfl, (blk_cell BK237.out 1).trans rfl, (blk_cell BK237.out 2).trans rfl, (blk_cell BK237.out 3).trans rfl, (blk_cell BK237.out 4).trans rfl⟩ (fun hHeld => ?_)
    clear hK K
    refine norm_ (a' := ?_) ?_ ?_
    rotate_left
    ·show Act.put _ (some 8) _ = _
     simp only [Act.put, sx_, s0_, s1_, i64_w, i32_w]
     rfl
    refine one_ (i := 3) (N := some 10) #[true, true, true, true, true, false, false, false, false] rfl rfl (one_of HT_.out kr_) (by decide) (fun K hK => ?_)
    refine goes_ Tryd.func10 kr_ rfl #[.agg #[.string a1_0, .string a1_1, .string a1_2, .slice A1_3 l1_3.length c1_3, .slice A1_4 l1_4.length c1_4]] (by rfl) rfl rfl rl_ ?_
    with_reducible refine (tolllaw06_Asked.calls k a1_0 a1_1 a1_2 _ _ l1_3 _ _ l1_4 t247 t248 t249 t250 t253 _ ?side1 ?side2 ?side3 ?side4 A5.out).mono ?_
    (case side1 => exact C_ (Kd.C_below HR1_3.out HB.out))
    (case side2 => exact HC1_3.out)
    (case side3 => exact C_ (Kd.C_below HR1_4.out HB.out))
    (case side4 => exact HC1_4.out)
    rintro e w21 ⟨v251, v254, rfl, ho0, ho1, hb⟩
    refine ⟨_, rfl, ?_⟩
    have n0_ := am_ (Kd.R_mono (Kd.R_told (Kd.R_told (Kd.R_old (R_ HO243.out) hb) (Kd.R_base ho0)) (Kd.R_base ho1)) (fun _ h_ => h_.1))
    have n1_ := am_ (Kd.R_mono (Kd.R_told (Kd.R_told (Kd.R_old (R_ HO246.out) hb) (Kd.R_base ho0)) (Kd.R_base ho1)) (fun _ h_ => h_.1))
    have n2_ := am_ (Kd.R_lower (Kd.R_new' (Kd.R_new' ho0 (Kd.R_lt (R_ HO243.out))) (Kd.R_lt (R_ HO246.out))) (below_size (bel_ HB.out)))
    have n3_ := am_ (Kd.R_lower (Kd.R_new' (Kd.R_new' ho1 (Kd.R_lt (R_ HO243.out))) (Kd.R_lt (R_ HO246.out))) (below_size (bel_ HB.out)))
    have n4_ := am_ (blk_below (g := gb236) (o := .cells #[.int .i64 a0_0, .string a0_1, .string a0_2, .slice A0_3 l0_3.length c0_3, .slice A0_4 l0_4.length c0_4] 26 (0, 0)) (blk_ BK236.out) hb)
    have n5_ := am_ (blk_below (g := gb237) (o := .cells #[.string a1_0, .string a1_1, .string a1_2, .slice A1_3 l1_3.length c1_3, .slice A1_4 l1_4.length c1_4] 28 (0, 0)) (blk_ BK237.out) hb)
    have n6_ := am_ (below_step (bel_ HB.out) hb)
    clear HO243 HO246 BK236 BK237 HB
    have HO243 := n0_
    have HO246 := n1_
    have HO252 := n2_
    have HO255 := n3_
    have BK236 := n4_
    have BK237 := n5_
    have HB := n6_
    clear n0_ n1_ n2_ n3_ n4_ n5_ n6_
    (try clear hb)
    (try clear hb2)
    (try clear hk)
    (try clear hi)
    (try clear ho0)
    (try clear ho1)
    refine hK.out _ _ ⟨(blk_cell BK236.out 0).trans rfl, (blk_cell BK236.out 1).trans rfl, (blk_cell BK236.out 2).trans rfl, (blk_cell BK236.out 3).trans rfl, (blk_cell BK236.out 4).trans rfl, (blk_cell BK237.out 0).trans rfl, (blk_cell BK237.out 1).trans rfl, (blk_cell BK237.out 2).trans rfl, (blk_cell BK237.out 3).trans rfl, (blk_cell BK237.out 4).trans rfl⟩ (fun hHeld => ?_)
    clear hK K
    refine norm_ (a' := ?_) ?_ ?_
    rotate_left
    ·show Act.put _ (some 10) _ = _
     simp only [Act.put, sx_, s0_, s1_, i64_w, i32_w]
     rfl
    refine one_ (i := 5) (N := some 12) #[true, true, true, true, true, true, false, false, false] rfl rfl (one_of HT_.out kr_) (by decide) (fun K hK => ?_)
    refine goes_ Tryd.func11 kr_ rfl #[.string a2] (by rfl) rfl rfl rl_ ?_
    with_reducible refine (tolllaw01_Few.calls a2 t256 _ A6.out).mono ?_
    rintro e w' ⟨rfl, ⟨nd, rfl⟩⟩
    refine ⟨_, rfl, ?_⟩
    obtain ⟨Ao25, co25, eo25⟩ := Kd.R_slice HO243.out
    (first | subst eo25 | (injection eo25 with f1_ f2_ f3_; have f4_ := f1_.symm; have f5_ := f3_.symm; clear f1_ f2_ f3_; subst f4_; subst f5_))
    obtain ⟨Ao27, co27, eo27⟩ := Kd.R_slice HO246.out
    (first | subst eo27 | (injection eo27 with f1_ f2_ f3_; have f4_ := f1_.symm; have f5_ := f3_.symm; clear f1_ f2_ f3_; subst f4_; subst f5_))
    obtain ⟨Ao32, co32, eo32⟩ := Kd.R_slice HO252.out
    (first | subst eo32 | (injection eo32 with f1_ f2_ f3_; have f4_ := f1_.symm; have f5_ := f3_.symm; clear f1_ f2_ f3_; subst f4_; subst f5_))
    obtain ⟨Ao34, co34, eo34⟩ := Kd.R_slice HO255.out
    (first | subst eo34 | (injection eo34 with f1_ f2_ f3_; have f4_ := f1_.symm; have f5_ := f3_.symm; clear f1_ f2_ f3_; subst f4_; subst f5_))
    refine hK.out _ _ ⟨(blk_cell BK236.out 0).trans rfl, (blk_cell BK236.out 1).trans rfl, (blk_cell BK236.out 2).trans rfl, (blk_cell BK236.out 3).trans rfl, (blk_cell BK236.out 4).trans rfl, (blk_cell BK237.out 0).trans rfl, (blk_cell BK237.out 1).trans rfl, (blk_cell BK237.out 2).trans rfl, (blk_cell BK237.out 3).trans rfl, (blk_cell BK237.out 4).trans rfl⟩ (fun hHeld => ?_)
    clear hK K
    refine norm_ (a' := ?_) ?_ ?_
    rotate_left
    ·show Act.put _ (some 12) _ = _
     simp only [Act.put, sx_, s0_, s1_, i64_w, i32_w]
     rfl
    refine last_ (i := 6) (N := none) #[true, true, true, true, true, true, true, false, false] rfl rfl (one_of HT_.out kr_) (by decide) (fun K hK => ?_)
    have hs22 : w21.cell? ⟨gb236, 0, none⟩ = some (.int .i64 a0_0) := (blk_cell BK236.out 0).trans rfl
    have hfs22 := blk_frozen BK236.out 0
    have hns22_1 := NB237_236.out
    have hms22_1 := NB236_237.out
    have hs23 : w21.cell? ⟨gb236, 1, none⟩ = some (.string a0_1) := (blk_cell BK236.out 1).trans rfl
    have hfs23 := blk_frozen BK236.out 1
    have hns23_1 := NB237_236.out
    have hms23_1 := NB236_237.out
    have hs24 : w21.cell? ⟨gb236, 2, none⟩ = some (.string a0_2) := (blk_cell BK236.out 2).trans rfl
    have hfs24 := blk_frozen BK236.out 2
    have hns24_1 := NB237_236.out
    have hms24_1 := NB236_237.out
    have hs26 : w21.cell? ⟨gb236, 3, none⟩ = some (.slice A0_3 l0_3.length c0_3) := (blk_cell BK236.out 3).trans rfl
    have hfs26 := blk_frozen BK236.out 3
    have hns26_1 := NB237_236.out
    have hms26_1 := NB236_237.out
    have hs28 : w21.cell? ⟨gb236, 4, none⟩ = some (.slice A0_4 l0_4.length c0_4) := (blk_cell BK236.out 4).trans rfl
    have hfs28 := blk_frozen BK236.out 4
    have hns28_1 := NB237_236.out
    have hms28_1 := NB236_237.out
    refine skip_ (w1 := ?_) (by rfl) rfl ?_ ?_
    rotate_left
    ·go_simp
     rfl
    refine hK.out _ _ ?_
    clear hK K
    refine last_ (i := 7) (N := none) #[true, true, true, true, true, true, true, true, false] rfl rfl (one_of HT_.out kr_) (by decide) (fun K hK => ?_)
    have hs29 : w21.cell? ⟨gb237, 0, none⟩ = some (.string a1_0) := (blk_cell BK237.out 0).trans rfl
    have hfs29 := blk_frozen BK237.out 0
    have hns29_0 := NB236_237.out
    have hms29_0 := NB237_236.out
    have hs30 : w21.cell? ⟨gb237, 1, none⟩ = some (.string a1_1) := (blk_cell BK237.out 1).trans rfl
    have hfs30 := blk_frozen BK237.out 1
    have hns30_0 := NB236_237.out
    have hms30_0 := NB237_236.out
    have hs31 : w21.cell? ⟨gb237, 2, none⟩ = some (.string a1_2) := (blk_cell BK237.out 2).trans rfl
    have hfs31 := blk_frozen BK237.out 2
    have hns31_0 := NB236_237.out
    have hms31_0 := NB237_236.out
    have hs33 : w21.cell? ⟨gb237, 3, none⟩ = some (.slice A1_3 l1_3.length c1_3) := (blk_cell BK237.out 3).trans rfl
    have hfs33 := blk_frozen BK237.out 3
    have hns33_0 := NB236_237.out
    have hms33_0 := NB237_236.out
    have hs35 : w21.cell? ⟨gb237, 4, none⟩ = some (.slice A1_4 l1_4.length c1_4) := (blk_cell BK237.out 4).trans rfl
    have hfs35 := blk_frozen BK237.out 4
    have hns35_0 := NB236_237.out
    have hms35_0 := NB237_236.out
    refine skip_ (w1 := ?_) (by rfl) rfl ?_ ?_
    rotate_left
    ·go_simp
     rfl
    refine hK.out _ _ ?_
    clear hK K
    refine pure_ (i := 8) (N := some 2) (v := ?_) (a' := ?_) #[true, true, true, true, true, true, true, true, true] rfl rfl (any_of HT_.out kr_) (fun _ _ _ h => h) (Or.inl ⟨by rfl, ?_⟩) ?_ ?_
    rotate_left
    ·intro w'
     go_simp
     with_reducible rfl
    rotate_left
    ·simp only [Act.put, sx_, s0_, s1_, i64_w, i32_w]
     rfl
    refine done_ (done_of HT_.out kr_) ?_
    try go_wp2
    have n0_ : Aside0 (Kd.R k49 49 (((((((((((w21.drewN nd).setCell ⟨gb236, 0, none⟩ (.int .i64 t238)).setCell ⟨gb236, 1, none⟩ (.string t239)).setCell ⟨gb236, 2, none⟩ (.string t240)).setCell ⟨gb236, 3, none⟩ (.slice Ao25 t241.length co25)).setCell ⟨gb236, 4, none⟩ (.slice Ao27 t244.length co27)).setCell ⟨gb237, 0, none⟩ (.string t247)).setCell ⟨gb237, 1, none⟩ (.string t248)).setCell ⟨gb237, 2, none⟩ (.string t249)).setCell ⟨gb237, 3, none⟩ (.slice Ao32 t250.length co32)).setCell ⟨gb237, 4, none⟩ (.slice Ao34 t253.length co34)) w.heap.size (fun k_ => some k_ ≠ (.slice Ao27 t244.length co27 : Value).ownBlock ∧ some k_ ≠ (.slice Ao32 t250.length co32 : Value).ownBlock ∧ some k_ ≠ (.slice Ao34 t253.length co34 : Value).ownBlock) (.slice Ao25 t241.length co25) t241) := ⟨by (with_reducible repeat (first | apply Kd.R_alloc | apply Kd.R_drewN | apply Kd.R_drew)); exact Kd.R_mono (Kd.R_far (p := ⟨gb237, 4, none⟩) (Kd.R_far (p := ⟨gb237, 3, none⟩) (Kd.R_far (p := ⟨gb237, 2, none⟩) (Kd.R_far (p := ⟨gb237, 1, none⟩) (Kd.R_far (p := ⟨gb237, 0, none⟩) (Kd.R_far (p := ⟨gb236, 4, none⟩) (Kd.R_far (p := ⟨gb236, 3, none⟩) (Kd.R_far (p := ⟨gb236, 2, none⟩) (Kd.R_far (p := ⟨gb236, 1, none⟩) (Kd.R_far (p := ⟨gb236, 0, none⟩) (Kd.R_types (Kd.R_types HO243.out BK236.out (by decide)) BK237.out (by decide)) (fun _ hk => hk.1.2) (.int .i64 t238)) (fun _ hk => hk.1.2) (.string t239)) (fun _ hk => hk.1.2) (.string t240)) (fun _ hk => hk.1.2) (.slice Ao25 t241.length co25)) (fun _ hk => hk.1.2) (.slice Ao27 t244.length co27)) (fun _ hk => hk.2) (.string t247)) (fun _ hk => hk.2) (.string t248)) (fun _ hk => hk.2) (.string t249)) (fun _ hk => hk.2) (.slice Ao32 t250.length co32)) (fun _ hk => hk.2) (.slice Ao34 t253.length co34)) (fun _ hk => ⟨hk.1.1.1.1, ⟨hk.1.1.1.2, hk.1.1.2⟩⟩)⟩
    have n1_ : Aside0 (Kd.R k49 49 (((((((((((w21.drewN nd).setCell ⟨gb236, 0, none⟩ (.int .i64 t238)).setCell ⟨gb236, 1, none⟩ (.string t239)).setCell ⟨gb236, 2, none⟩ (.string t240)).setCell ⟨gb236, 3, none⟩ (.slice Ao25 t241.length co25)).setCell ⟨gb236, 4, none⟩ (.slice Ao27 t244.length co27)).setCell ⟨gb237, 0, none⟩ (.string t247)).setCell ⟨gb237, 1, none⟩ (.string t248)).setCell ⟨gb237, 2, none⟩ (.string t249)).setCell ⟨gb237, 3, none⟩ (.slice Ao32 t250.length co32)).setCell ⟨gb237, 4, none⟩ (.slice Ao34 t253.length co34)) w.heap.size (fun k_ => some k_ ≠ (.slice Ao25 t241.length co25 : Value).ownBlock ∧ some k_ ≠ (.slice Ao32 t250.length co32 : Value).ownBlock ∧ some k_ ≠ (.slice Ao34 t253.length co34 : Value).ownBlock) (.slice Ao27 t244.length co27) t244) := ⟨by (with_reducible repeat (first | apply Kd.R_alloc | apply Kd.R_drewN | apply Kd.R_drew)); exact Kd.R_mono (Kd.R_far (p := ⟨gb237, 4, none⟩) (Kd.R_far (p := ⟨gb237, 3, none⟩) (Kd.R_far (p := ⟨gb237, 2, none⟩) (Kd.R_far (p := ⟨gb237, 1, none⟩) (Kd.R_far (p := ⟨gb237, 0, none⟩) (Kd.R_far (p := ⟨gb236, 4, none⟩) (Kd.R_far (p := ⟨gb236, 3, none⟩) (Kd.R_far (p := ⟨gb236, 2, none⟩) (Kd.R_far (p := ⟨gb236, 1, none⟩) (Kd.R_far (p := ⟨gb236, 0, none⟩) (Kd.R_types (Kd.R_types HO246.out BK236.out (by decide)) BK237.out (by decide)) (fun _ hk => hk.1.2) (.int .i64 t238)) (fun _ hk => hk.1.2) (.string t239)) (fun _ hk => hk.1.2) (.string t240)) (fun _ hk => hk.1.2) (.slice Ao25 t241.length co25)) (fun _ hk => hk.1.2) (.slice Ao27 t244.length co27)) (fun _ hk => hk.2) (.string t247)) (fun _ hk => hk.2) (.string t248)) (fun _ hk => hk.2) (.string t249)) (fun _ hk => hk.2) (.slice Ao32 t250.length co32)) (fun _ hk => hk.2) (.slice Ao34 t253.length co34)) (fun _ hk => ⟨hk.1.1.1.1, ⟨hk.1.1.1.2, hk.1.1.2⟩⟩)⟩
    have n2_ : Aside0 (Kd.R k49 49 (((((((((((w21.drewN nd).setCell ⟨gb236, 0, none⟩ (.int .i64 t238)).setCell ⟨gb236, 1, none⟩ (.string t239)).setCell ⟨gb236, 2, none⟩ (.string t240)).setCell ⟨gb236, 3, none⟩ (.slice Ao25 t241.length co25)).setCell ⟨gb236, 4, none⟩ (.slice Ao27 t244.length co27)).setCell ⟨gb237, 0, none⟩ (.string t247)).setCell ⟨gb237, 1, none⟩ (.string t248)).setCell ⟨gb237, 2, none⟩ (.string t249)).setCell ⟨gb237, 3, none⟩ (.slice Ao32 t250.length co32)).setCell ⟨gb237, 4, none⟩ (.slice Ao34 t253.length co34)) w.heap.size (fun k_ => some k_ ≠ (.slice Ao25 t241.length co25 : Value).ownBlock ∧ some k_ ≠ (.slice Ao27 t244.length co27 : Value).ownBlock ∧ some k_ ≠ (.slice Ao34 t253.length co34 : Value).ownBlock) (.slice Ao32 t250.length co32) t250) := ⟨by (with_reducible repeat (first | apply Kd.R_alloc | apply Kd.R_drewN | apply Kd.R_drew)); exact Kd.R_mono (Kd.R_far (p := ⟨gb237, 4, none⟩) (Kd.R_far (p := ⟨gb237, 3, none⟩) (Kd.R_far (p := ⟨gb237, 2, none⟩) (Kd.R_far (p := ⟨gb237, 1, none⟩) (Kd.R_far (p := ⟨gb237, 0, none⟩) (Kd.R_far (p := ⟨gb236, 4, none⟩) (Kd.R_far (p := ⟨gb236, 3, none⟩) (Kd.R_far (p := ⟨gb236, 2, none⟩) (Kd.R_far (p := ⟨gb236, 1, none⟩) (Kd.R_far (p := ⟨gb236, 0, none⟩) (Kd.R_types (Kd.R_types HO252.out BK236.out (by decide)) BK237.out (by decide)) (fun _ hk => hk.1.2) (.int .i64 t238)) (fun _ hk => hk.1.2) (.string t239)) (fun _ hk => hk.1.2) (.string t240)) (fun _ hk => hk.1.2) (.slice Ao25 t241.length co25)) (fun _ hk => hk.1.2) (.slice Ao27 t244.length co27)) (fun _ hk => hk.2) (.string t247)) (fun _ hk => hk.2) (.string t248)) (fun _ hk => hk.2) (.string t249)) (fun _ hk => hk.2) (.slice Ao32 t250.length co32)) (fun _ hk => hk.2) (.slice Ao34 t253.length co34)) (fun _ hk => ⟨hk.1.1.1.2, ⟨hk.1.1.2, hk.1.1.1.1⟩⟩)⟩
    have n3_ : Aside0 (Kd.R k49 49 (((((((((((w21.drewN nd).setCell ⟨gb236, 0, none⟩ (.int .i64 t238)).setCell ⟨gb236, 1, none⟩ (.string t239)).setCell ⟨gb236, 2, none⟩ (.string t240)).setCell ⟨gb236, 3, none⟩ (.slice Ao25 t241.length co25)).setCell ⟨gb236, 4, none⟩ (.slice Ao27 t244.length co27)).setCell ⟨gb237, 0, none⟩ (.string t247)).setCell ⟨gb237, 1, none⟩ (.string t248)).setCell ⟨gb237, 2, none⟩ (.string t249)).setCell ⟨gb237, 3, none⟩ (.slice Ao32 t250.length co32)).setCell ⟨gb237, 4, none⟩ (.slice Ao34 t253.length co34)) w.heap.size (fun k_ => some k_ ≠ (.slice Ao25 t241.length co25 : Value).ownBlock ∧ some k_ ≠ (.slice Ao27 t244.length co27 : Value).ownBlock ∧ some k_ ≠ (.slice Ao32 t250.length co32 : Value).ownBlock) (.slice Ao34 t253.length co34) t253) := ⟨by (with_reducible repeat (first | apply Kd.R_alloc | apply Kd.R_drewN | apply Kd.R_drew)); exact Kd.R_mono (Kd.R_far (p := ⟨gb237, 4, none⟩) (Kd.R_far (p := ⟨gb237, 3, none⟩) (Kd.R_far (p := ⟨gb237, 2, none⟩) (Kd.R_far (p := ⟨gb237, 1, none⟩) (Kd.R_far (p := ⟨gb237, 0, none⟩) (Kd.R_far (p := ⟨gb236, 4, none⟩) (Kd.R_far (p := ⟨gb236, 3, none⟩) (Kd.R_far (p := ⟨gb236, 2, none⟩) (Kd.R_far (p := ⟨gb236, 1, none⟩) (Kd.R_far (p := ⟨gb236, 0, none⟩) (Kd.R_types (Kd.R_types HO255.out BK236.out (by decide)) BK237.out (by decide)) (fun _ hk => hk.1.2) (.int .i64 t238)) (fun _ hk => hk.1.2) (.string t239)) (fun _ hk => hk.1.2) (.string t240)) (fun _ hk => hk.1.2) (.slice Ao25 t241.length co25)) (fun _ hk => hk.1.2) (.slice Ao27 t244.length co27)) (fun _ hk => hk.2) (.string t247)) (fun _ hk => hk.2) (.string t248)) (fun _ hk => hk.2) (.string t249)) (fun _ hk => hk.2) (.slice Ao32 t250.length co32)) (fun _ hk => hk.2) (.slice Ao34 t253.length co34)) (fun _ hk => ⟨hk.1.1.1.2, ⟨hk.1.1.2, hk.1.1.1.1⟩⟩)⟩
    have n4_ : Aside0 ((((((((((((w21.drewN nd).setCell ⟨gb236, 0, none⟩ (.int .i64 t238)).setCell ⟨gb236, 1, none⟩ (.string t239)).setCell ⟨gb236, 2, none⟩ (.string t240)).setCell ⟨gb236, 3, none⟩ (.slice Ao25 t241.length co25)).setCell ⟨gb236, 4, none⟩ (.slice Ao27 t244.length co27)).setCell ⟨gb237, 0, none⟩ (.string t247)).setCell ⟨gb237, 1, none⟩ (.string t248)).setCell ⟨gb237, 2, none⟩ (.string t249)).setCell ⟨gb237, 3, none⟩ (.slice Ao32 t250.length co32)).setCell ⟨gb237, 4, none⟩ (.slice Ao34 t253.length co34)).heap[gb236]? = some (.cells #[.int .i64 t238, .string t239, .string t240, .slice Ao25 t241.length co25, .slice Ao27 t244.length co27] 26 (0, 0))) := ⟨by (with_reducible repeat (first | refine blk_drewN ?_ _ | refine blk_drew ?_ | refine blk_alloc ?_ _)); refine blk_far ?_ NB236_237.out _; (with_reducible repeat (first | refine blk_drewN ?_ _ | refine blk_drew ?_ | refine blk_alloc ?_ _)); refine blk_far ?_ NB236_237.out _; (with_reducible repeat (first | refine blk_drewN ?_ _ | refine blk_drew ?_ | refine blk_alloc ?_ _)); refine blk_far ?_ NB236_237.out _; (with_reducible repeat (first | refine blk_drewN ?_ _ | refine blk_drew ?_ | refine blk_alloc ?_ _)); refine blk_far ?_ NB236_237.out _; (with_reducible repeat (first | refine blk_drewN ?_ _ | refine blk_drew ?_ | refine blk_alloc ?_ _)); refine blk_far ?_ NB236_237.out _; (with_reducible repeat (first | refine blk_drewN ?_ _ | refine blk_drew ?_ | refine blk_alloc ?_ _)); refine blk_put (cs := #[.int .i64 t238, .string t239, .string t240, .slice Ao25 t241.length co25, .slice A0_4 l0_4.length c0_4]) ?_ 4 _ rfl; (with_reducible repeat (first | refine blk_drewN ?_ _ | refine blk_drew ?_ | refine blk_alloc ?_ _)); refine blk_put (cs := #[.int .i64 t238, .string t239, .string t240, .slice A0_3 l0_3.length c0_3, .slice A0_4 l0_4.length c0_4]) ?_ 3 _ rfl; (with_reducible repeat (first | refine blk_drewN ?_ _ | refine blk_drew ?_ | refine blk_alloc ?_ _)); refine blk_put (cs := #[.int .i64 t238, .string t239, .string a0_2, .slice A0_3 l0_3.length c0_3, .slice A0_4 l0_4.length c0_4]) ?_ 2 _ rfl; (with_reducible repeat (first | refine blk_drewN ?_ _ | refine blk_drew ?_ | refine blk_alloc ?_ _)); refine blk_put (cs := #[.int .i64 t238, .string a0_1, .string a0_2, .slice A0_3 l0_3.length c0_3, .slice A0_4 l0_4.length c0_4]) ?_ 1 _ rfl; (with_reducible repeat (first | refine blk_drewN ?_ _ | refine blk_drew ?_ | refine blk_alloc ?_ _)); refine blk_put (cs := #[.int .i64 a0_0, .string a0_1, .string a0_2, .slice A0_3 l0_3.length c0_3, .slice A0_4 l0_4.length c0_4]) ?_ 0 _ rfl; (with_reducible repeat (first | refine blk_drewN ?_ _ | refine blk_drew ?_ | refine blk_alloc ?_ _)); exact BK236.out⟩
    have n5_ : Aside0 ((((((((((((w21.drewN nd).setCell ⟨gb236, 0, none⟩ (.int .i64 t238)).setCell ⟨gb236, 1, none⟩ (.string t239)).setCell ⟨gb236, 2, none⟩ (.string t240)).setCell ⟨gb236, 3, none⟩ (.slice Ao25 t241.length co25)).setCell ⟨gb236, 4, none⟩ (.slice Ao27 t244.length co27)).setCell ⟨gb237, 0, none⟩ (.string t247)).setCell ⟨gb237, 1, none⟩ (.string t248)).setCell ⟨gb237, 2, none⟩ (.string t249)).setCell ⟨gb237, 3, none⟩ (.slice Ao32 t250.length co32)).setCell ⟨gb237, 4, none⟩ (.slice Ao34 t253.length co34)).heap[gb237]? = some (.cells #[.string t247, .string t248, .string t249, .slice Ao32 t250.length co32, .slice Ao34 t253.length co34] 28 (0, 0))) := ⟨by (with_reducible repeat (first | refine blk_drewN ?_ _ | refine blk_drew ?_ | refine blk_alloc ?_ _)); refine blk_put (cs := #[.string t247, .string t248, .string t249, .slice Ao32 t250.length co32, .slice A1_4 l1_4.length c1_4]) ?_ 4 _ rfl; (with_reducible repeat (first | refine blk_drewN ?_ _ | refine blk_drew ?_ | refine blk_alloc ?_ _)); refine blk_put (cs := #[.string t247, .string t248, .string t249, .slice A1_3 l1_3.length c1_3, .slice A1_4 l1_4.length c1_4]) ?_ 3 _ rfl; (with_reducible repeat (first | refine blk_drewN ?_ _ | refine blk_drew ?_ | refine blk_alloc ?_ _)); refine blk_put (cs := #[.string t247, .string t248, .string a1_2, .slice A1_3 l1_3.length c1_3, .slice A1_4 l1_4.length c1_4]) ?_ 2 _ rfl; (with_reducible repeat (first | refine blk_drewN ?_ _ | refine blk_drew ?_ | refine blk_alloc ?_ _)); refine blk_put (cs := #[.string t247, .string a1_1, .string a1_2, .slice A1_3 l1_3.length c1_3, .slice A1_4 l1_4.length c1_4]) ?_ 1 _ rfl; (with_reducible repeat (first | refine blk_drewN ?_ _ | refine blk_drew ?_ | refine blk_alloc ?_ _)); refine blk_put (cs := #[.string a1_0, .string a1_1, .string a1_2, .slice A1_3 l1_3.length c1_3, .slice A1_4 l1_4.length c1_4]) ?_ 0 _ rfl; (with_reducible repeat (first | refine blk_drewN ?_ _ | refine blk_drew ?_ | refine blk_alloc ?_ _)); refine blk_far ?_ NB237_236.out _; (with_reducible repeat (first | refine blk_drewN ?_ _ | refine blk_drew ?_ | refine blk_alloc ?_ _)); refine blk_far ?_ NB237_236.out _; (with_reducible repeat (first | refine blk_drewN ?_ _ | refine blk_drew ?_ | refine blk_alloc ?_ _)); refine blk_far ?_ NB237_236.out _; (with_reducible repeat (first | refine blk_drewN ?_ _ | refine blk_drew ?_ | refine blk_alloc ?_ _)); refine blk_far ?_ NB237_236.out _; (with_reducible repeat (first | refine blk_drewN ?_ _ | refine blk_drew ?_ | refine blk_alloc ?_ _)); refine blk_far ?_ NB237_236.out _; (with_reducible repeat (first | refine blk_drewN ?_ _ | refine blk_drew ?_ | refine blk_alloc ?_ _)); exact BK237.out⟩
    have n6_ : Aside0 (Below w.heap.size w (((((((((((w21.drewN nd).setCell ⟨gb236, 0, none⟩ (.int .i64 t238)).setCell ⟨gb236, 1, none⟩ (.string t239)).setCell ⟨gb236, 2, none⟩ (.string t240)).setCell ⟨gb236, 3, none⟩ (.slice Ao25 t241.length co25)).setCell ⟨gb236, 4, none⟩ (.slice Ao27 t244.length co27)).setCell ⟨gb237, 0, none⟩ (.string t247)).setCell ⟨gb237, 1, none⟩ (.string t248)).setCell ⟨gb237, 2, none⟩ (.string t249)).setCell ⟨gb237, 3, none⟩ (.slice Ao32 t250.length co32)).setCell ⟨gb237, 4, none⟩ (.slice Ao34 t253.length co34))) := ⟨bel_ HB.out⟩
    (try clear HO243)
    (try clear HO246)
    (try clear HO252)
    (try clear HO255)
    (try clear BK236)
    (try clear BK237)
    (try clear HB)
    generalize (((((((((((w21.drewN nd).setCell ⟨gb236, 0, none⟩ (.int .i64 t238)).setCell ⟨gb236, 1, none⟩ (.string t239)).setCell ⟨gb236, 2, none⟩ (.string t240)).setCell ⟨gb236, 3, none⟩ (.slice Ao25 t241.length co25)).setCell ⟨gb236, 4, none⟩ (.slice Ao27 t244.length co27)).setCell ⟨gb237, 0, none⟩ (.string t247)).setCell ⟨gb237, 1, none⟩ (.string t248)).setCell ⟨gb237, 2, none⟩ (.string t249)).setCell ⟨gb237, 3, none⟩ (.slice Ao32 t250.length co32)).setCell ⟨gb237, 4, none⟩ (.slice Ao34 t253.length co34)) = w36 at n0_ n1_ n2_ n3_ n4_ n5_ n6_ ⊢
    have HO243 := n0_
    have HO246 := n1_
    have HO252 := n2_
    have HO255 := n3_
    have BK236 := n4_
    have BK237 := n5_
    have HB := n6_
    clear n0_ n1_ n2_ n3_ n4_ n5_ n6_
    (try (rw [drewN_self w36]; generalize hq_ : World.drewN w36 _ = w36; have n0_ : Aside0 (Kd.R k49 49 w36 w.heap.size (fun k_ => some k_ ≠ (.slice Ao27 t244.length co27 : Value).ownBlock ∧ some k_ ≠ (.slice Ao32 t250.length co32 : Value).ownBlock ∧ some k_ ≠ (.slice Ao34 t253.length co34 : Value).ownBlock) (.slice Ao25 t241.length co25) t241) := ⟨by rw [← hq_]; exact (R_ HO243.out)⟩; have n1_ : Aside0 (Kd.R k49 49 w36 w.heap.size (fun k_ => some k_ ≠ (.slice Ao25 t241.length co25 : Value).ownBlock ∧ some k_ ≠ (.slice Ao32 t250.length co32 : Value).ownBlock ∧ some k_ ≠ (.slice Ao34 t253.length co34 : Value).ownBlock) (.slice Ao27 t244.length co27) t244) := ⟨by rw [← hq_]; exact (R_ HO246.out)⟩; have n2_ : Aside0 (Kd.R k49 49 w36 w.heap.size (fun k_ => some k_ ≠ (.slice Ao25 t241.length co25 : Value).ownBlock ∧ some k_ ≠ (.slice Ao27 t244.length co27 : Value).ownBlock ∧ some k_ ≠ (.slice Ao34 t253.length co34 : Value).ownBlock) (.slice Ao32 t250.length co32) t250) := ⟨by rw [← hq_]; exact (R_ HO252.out)⟩; have n3_ : Aside0 (Kd.R k49 49 w36 w.heap.size (fun k_ => some k_ ≠ (.slice Ao25 t241.length co25 : Value).ownBlock ∧ some k_ ≠ (.slice Ao27 t244.length co27 : Value).ownBlock ∧ some k_ ≠ (.slice Ao32 t250.length co32 : Value).ownBlock) (.slice Ao34 t253.length co34) t253) := ⟨by rw [← hq_]; exact (R_ HO255.out)⟩; have n4_ : Aside0 (w36.heap[gb236]? = some (.cells #[.int .i64 t238, .string t239, .string t240, .slice Ao25 t241.length co25, .slice Ao27 t244.length co27] 26 (0, 0))) := ⟨by rw [← hq_]; exact (blk_ BK236.out)⟩; have n5_ : Aside0 (w36.heap[gb237]? = some (.cells #[.string t247, .string t248, .string t249, .slice Ao32 t250.length co32, .slice Ao34 t253.length co34] 28 (0, 0))) := ⟨by rw [← hq_]; exact (blk_ BK237.out)⟩; have n6_ : Aside0 (Below w.heap.size w w36) := ⟨by rw [← hq_]; exact (bel_ HB.out)⟩; clear HO243 HO246 HO252 HO255 BK236 BK237 HB hq_; have HO243 := n0_; have HO246 := n1_; have HO252 := n2_; have HO255 := n3_; have BK236 := n4_; have BK237 := n5_; have HB := n6_; clear n0_ n1_ n2_ n3_ n4_ n5_ n6_))
    have n0_ := am_ (Kd.R_drew HO243.out)
    have n1_ := am_ (Kd.R_drew HO246.out)
    have n2_ := am_ (Kd.R_drew HO252.out)
    have n3_ := am_ (Kd.R_drew HO255.out)
    have n4_ := am_ (blk_drew BK236.out)
    have n5_ := am_ (blk_drew BK237.out)
    have n6_ := am_ (below_drew1 HB.out)
    clear HO243 HO246 HO252 HO255 BK236 BK237 HB
    have HO243 := n0_
    have HO246 := n1_
    have HO252 := n2_
    have HO255 := n3_
    have BK236 := n4_
    have BK237 := n5_
    have HB := n6_
    clear n0_ n1_ n2_ n3_ n4_ n5_ n6_
    refine start_ (n := 25) (S := fun w' => w'.cell? ⟨gb236, 0, none⟩ = some (.int .i64 t238) ∧ w'.cell? ⟨gb236, 1, none⟩ = some (.string t239) ∧ w'.cell? ⟨gb236, 2, none⟩ = some (.string t240) ∧ w'.cell? ⟨gb236, 3, none⟩ = some (.slice Ao25 t241.length co25) ∧ w'.cell? ⟨gb236, 4, none⟩ = some (.slice Ao27 t244.length co27) ∧ w'.cell? ⟨gb237, 0, none⟩ = some (.string t247) ∧ w'.cell? ⟨gb237, 1, none⟩ = some (.string t248) ∧ w'.cell? ⟨gb237, 2, none⟩ = some (.string t249) ∧ w'.cell? ⟨gb237, 3, none⟩ = some (.slice Ao32 t250.length co32) ∧ w'.cell? ⟨gb237, 4, none⟩ = some (.slice Ao34 t253.length co34)) (ds := []) #[false, false, false, false, false, false, false, false, false, false, false, false, false, false, false, false, false, false, false, false, false, false, false, false, false] kr_ rfl rfl ⟨(blk_cell BK236.out 0).trans rfl, (blk_cell BK236.out 1).trans rfl, (blk_cell BK236.out 2).trans rfl, (blk_cell BK236.out 3).trans rfl, (blk_cell BK236.out 4).trans rfl, (blk_cell BK237.out 0).trans rfl, (blk_cell BK237.out 1).trans rfl, (blk_cell BK237.out 2).trans rfl, (blk_cell BK237.out 3).trans rfl, (blk_cell BK237.out 4).trans rfl⟩ (fun hHeld => ?_); refine with_tabW tolllaw06_RuleHolds.tab2 tolllaw06_RuleHolds.bits2 (fun HT_ HW_ => ?_)
    generalize w36.drew = w37 at HO243 HO246 HO252 HO255 BK236 BK237 HB hHeld ⊢
    refine take_ (i := 0) (N := some 13) (v := ?_) (a' := ?_) #[true, false, false, false, false, false, false, false, false, false, false, false, false, false, false, false, false, false, false, false, false, false, false, false, false] rfl rfl (take_ofW HT_.out HW_.out kr_) (fun _ _ _ h => h) (Or.inl ⟨by rfl, ?_⟩) hHeld ?_ ?_
    rotate_left
    ·rintro w' ⟨s0, s1, s2, s3, s4, s5, s6, s7, s8, s9⟩
     go_simp
     with_reducible rfl
    rotate_left
    ·simp only [Act.put, sx_, s0_, s1_, i64_w, i32_w]
     rfl
    refine take_ (i := 2) (N := some 15) (v := ?_) (a' := ?_) #[true, false, true, false, false, false, false, false, false, false, false, false, false, false, false, false, false, false, false, false, false, false, false, false, false] rfl rfl (take_ofW HT_.out HW_.out kr_) (fun _ _ _ h => h) (Or.inl ⟨by rfl, ?_⟩) hHeld ?_ ?_
    rotate_left
    ·rintro w' ⟨s0, s1, s2, s3, s4, s5, s6, s7, s8, s9⟩
     go_simp
     with_reducible rfl
    rotate_left
    ·simp only [Act.put, sx_, s0_, s1_, i64_w, i32_w]
     rfl
    refine one_ (i := 1) (N := some 14) #[true, true, true, false, false, false, false, false, false, false, false, false, false, false, false, false, false, false, false, false, false, false, false, false, false] rfl rfl (one_of HT_.out kr_) (by decide) (fun K hK => ?_)
    refine goes_ Tryd.func12 kr_ rfl #[.agg #[.int .i64 t238, .string t239, .string t240, .slice Ao25 t241.length co25, .slice Ao27 t244.length co27]] (by rfl) rfl rfl rl_ ?_
    with_reducible refine (rule_May.calls k t238 t239 t240 _ _ t241 _ _ t244 t257 _ ?side1 ?side2 ?side3 ?side4 A7.out).mono ?_
    (case side1 => exact C_ (Kd.R_reads' HO243.out).2.2)
    (case side2 => exact (Kd.R_reads' HO243.out).2.1)
    (case side3 => exact C_ (Kd.R_reads' HO246.out).2.2)
    (case side4 => exact (Kd.R_reads' HO246.out).2.1)
    rintro e w38 ⟨rfl, hb⟩
    refine ⟨_, rfl, ?_⟩
    have n0_ := am_ (Kd.R_below (R_ HO243.out) hb)
    have n1_ := am_ (Kd.R_below (R_ HO246.out) hb)
    have n2_ := am_ (Kd.R_below (R_ HO252.out) hb)
    have n3_ := am_ (Kd.R_below (R_ HO255.out) hb)
    have n4_ := am_ (blk_below (g := gb236) (o := .cells #[.int .i64 t238, .string t239, .string t240, .slice Ao25 t241.length co25, .slice Ao27 t244.length co27] 26 (0, 0)) (blk_ BK236.out) hb)
    have n5_ := am_ (blk_below (g := gb237) (o := .cells #[.string t247, .string t248, .string t249, .slice Ao32 t250.length co32, .slice Ao34 t253.length co34] 28 (0, 0)) (blk_ BK237.out) hb)
    have n6_ := am_ (below_step (bel_ HB.out) hb)
    clear HO243 HO246 HO252 HO255 BK236 BK237 HB
    have HO243 := n0_
    have HO246 := n1_
    have HO252 := n2_
    have HO255 := n3_
    have BK236 := n4_
    have BK237 := n5_
    have HB := n6_
    clear n0_ n1_ n2_ n3_ n4_ n5_ n6_
    (try clear hb)
    (try clear hb2)
    (try clear hk)
    (try clear hi)
    refine hK.out _ _ ⟨(blk_cell BK236.out 0).trans rfl, (blk_cell BK236.out 1).trans rfl, (blk_cell BK236.out 2).trans rfl, (blk_cell BK236.out 3).trans rfl, (blk_cell BK236.out 4).trans rfl, (blk_cell BK237.out 0).trans rfl, (blk_cell BK237.out 1).trans rfl, (blk_cell BK237.out 2).trans rfl, (blk_cell BK237.out 3).trans rfl, (blk_cell BK237.out 4).trans rfl⟩ (fun hHeld => ?_)
    clear hK K
    refine norm_ (a' := ?_) ?_ ?_
    rotate_left
    ·show Act.put _ (some 14) _ = _
     simp only [Act.put, sx_, s0_, s1_, i64_w, i32_w]
     rfl
    refine one_ (i := 3) (N := some 16) #[true, true, true, true, false, false, false, false, false, false, false, false, false, false, false, false, false, false, false, false, false, false, false, false, false] rfl rfl (one_of HT_.out kr_) (by decide) (fun K hK => ?_)
    refine goes_ Tryd.func13 kr_ rfl #[.agg #[.int .i64 t238, .string t239, .string t240, .slice Ao25 t241.length co25, .slice Ao27 t244.length co27]] (by rfl) rfl rfl rl_ ?_
    with_reducible refine (tollref06_May.calls k t238 t239 t240 _ _ t241 _ _ t244 t258 _ ?side1 ?side2 ?side3 ?side4 A8.out).mono ?_
    (case side1 => exact C_ (Kd.R_reads' HO243.out).2.2)
    (case side2 => exact (Kd.R_reads' HO243.out).2.1)
    (case side3 => exact C_ (Kd.R_reads' HO246.out).2.2)
    (case side4 => exact (Kd.R_reads' HO246.out).2.1)
    rintro e w39 ⟨rfl, hb⟩
    refine ⟨_, rfl, ?_⟩
    have n0_ := am_ (Kd.R_below (R_ HO243.out) hb)
    have n1_ := am_ (Kd.R_below (R_ HO246.out) hb)
    have n2_ := am_ (Kd.R_below (R_ HO252.out) hb)
    have n3_ := am_ (Kd.R_below (R_ HO255.out) hb)
    have n4_ := am_ (blk_below (g := gb236) (o := .cells #[.int .i64 t238, .string t239, .string t240, .slice Ao25 t241.length co25, .slice Ao27 t244.length co27] 26 (0, 0)) (blk_ BK236.out) hb)
    have n5_ := am_ (blk_below (g := gb237) (o := .cells #[.string t247, .string t248, .string t249, .slice Ao32 t250.length co32, .slice Ao34 t253.length co34] 28 (0, 0)) (blk_ BK237.out) hb)
    have n6_ := am_ (below_step (bel_ HB.out) hb)
    clear HO243 HO246 HO252 HO255 BK236 BK237 HB
    have HO243 := n0_
    have HO246 := n1_
    have HO252 := n2_
    have HO255 := n3_
    have BK236 := n4_
    have BK237 := n5_
    have HB := n6_
    clear n0_ n1_ n2_ n3_ n4_ n5_ n6_
    (try clear hb)
    (try clear hb2)
    (try clear hk)
    (try clear hi)
    refine hK.out _ _ ⟨(blk_cell BK236.out 0).trans rfl, (blk_cell BK236.out 1).trans rfl, (blk_cell BK236.out 2).trans rfl, (blk_cell BK236.out 3).trans rfl, (blk_cell BK236.out 4).trans rfl, (blk_cell BK237.out 0).trans rfl, (blk_cell BK237.out 1).trans rfl, (blk_cell BK237.out 2).trans rfl, (blk_cell BK237.out 3).trans rfl, (blk_cell BK237.out 4).trans rfl⟩ (fun hHeld => ?_)
    clear hK K
    refine norm_ (a' := ?_) ?_ ?_
    rotate_left
    ·show Act.put _ (some 16) _ = _
     simp only [Act.put, sx_, s0_, s1_, i64_w, i32_w]
     rfl
    refine pure_ (i := 4) (N := some 17) (v := ?_) (a' := ?_) #[true, true, true, true, true, false, false, false, false, false, false, false, false, false, false, false, false, false, false, false, false, false, false, false, false] rfl rfl (any_of HT_.out kr_) (fun _ _ _ h => h) (Or.inl ⟨by rfl, ?_⟩) ?_ ?_
    rotate_left
    ·intro w'
     go_simp
     with_reducible rfl
    rotate_left
    ·simp only [Act.put, sx_, s0_, s1_, i64_w, i32_w]
     rfl
    refine pure_ (i := 5) (N := some 18) (v := ?_) (a' := ?_) #[true, true, true, true, true, true, false, false, false, false, false, false, false, false, false, false, false, false, false, false, false, false, false, false, false] rfl rfl (any_of HT_.out kr_) (fun _ _ _ h => h) (Or.inl ⟨by rfl, ?_⟩) ?_ ?_
    rotate_left
    ·intro w'
     go_simp
     with_reducible rfl
    rotate_left
    ·simp only [Act.put, sx_, s0_, s1_, i64_w, i32_w]
     rfl
    refine take_ (i := 6) (N := some 19) (v := ?_) (a' := ?_) #[true, true, true, true, true, true, true, false, false, false, false, false, false, false, false, false, false, false, false, false, false, false, false, false, false] rfl rfl (take_ofW HT_.out HW_.out kr_) (fun _ _ _ h => h) (Or.inl ⟨by rfl, ?_⟩) hHeld ?_ ?_
    rotate_left
    ·rintro w' ⟨s0, s1, s2, s3, s4, s5, s6, s7, s8, s9⟩
     go_simp
     with_reducible rfl
    rotate_left
    ·simp only [Act.put, sx_, s0_, s1_, i64_w, i32_w]
     rfl
    refine take_ (i := 7) (N := some 20) (v := ?_) (a' := ?_) #[true, true, true, true, true, true, true, true, false, false, false, false, false, false, false, false, false, false, false, false, false, false, false, false, false] rfl rfl (take_ofW HT_.out HW_.out kr_) (fun _ _ _ h => h) (Or.inl ⟨by rfl, ?_⟩) hHeld ?_ ?_
    rotate_left
    ·rintro w' ⟨s0, s1, s2, s3, s4, s5, s6, s7, s8, s9⟩
     go_simp
     with_reducible rfl
    rotate_left
    ·simp only [Act.put, sx_, s0_, s1_, i64_w, i32_w]
     rfl
    refine take_ (i := 9) (N := some 22) (v := ?_) (a' := ?_) #[true, true, true, true, true, true, true, true, false, true, false, false, false, false, false, false, false, false, false, false, false, false, false, false, false] rfl rfl (take_ofW HT_.out HW_.out kr_) (fun _ _ _ h => h) (Or.inl ⟨by rfl, ?_⟩) hHeld ?_ ?_
    rotate_left
    ·rintro w' ⟨s0, s1, s2, s3, s4, s5, s6, s7, s8, s9⟩
     go_simp
     with_reducible rfl
    rotate_left
    ·simp only [Act.put, sx_, s0_, s1_, i64_w, i32_w]
     rfl
    refine take_ (i := 10) (N := some 23) (v := ?_) (a' := ?_) #[true, true, true, true, true, true, true, true, false, true, true, false, false, false, false, false, false, false, false, false, false, false, false, false, false] rfl rfl (take_ofW HT_.out HW_.out kr_) (fun _ _ _ h => h) (Or.inl ⟨by rfl, ?_⟩) hHeld ?_ ?_
    rotate_left
    ·rintro w' ⟨s0, s1, s2, s3, s4, s5, s6, s7, s8, s9⟩
     go_simp
     with_reducible rfl
    rotate_left
    ·simp only [Act.put, sx_, s0_, s1_, i64_w, i32_w]
     rfl
    refine one_ (i := 8) (N := some 21) #[true, true, true, true, true, true, true, true, true, true, true, false, false, false, false, false, false, false, false, false, false, false, false, false, false] rfl rfl (one_of HT_.out kr_) (by decide) (fun K hK => ?_)
    refine goes_ Tryd.func14 kr_ rfl #[.agg #[.int .i64 t238, .string t239, .string t240, .slice Ao25 t241.length co25, .slice Ao27 t244.length co27], .agg #[.string t247, .string t248, .string t249, .slice Ao32 t250.length co32, .slice Ao34 t253.length co34]] (by rfl) rfl rfl rl_ ?_
    with_reducible refine (rule_Holds.calls k t238 t239 t240 _ _ t241 _ _ t244 t247 t248 t249 _ _ t250 _ _ t253 t259 _ ?side1 ?side2 ?side3 ?side4 ?side5 ?side6 ?side7 ?side8 A10.out).mono ?_
    (case side1 => exact C_ (Kd.R_reads' HO243.out).2.2)
    (case side2 => exact (Kd.R_reads' HO243.out).2.1)
    (case side3 => exact C_ (Kd.R_reads' HO246.out).2.2)
    (case side4 => exact (Kd.R_reads' HO246.out).2.1)
    (case side5 => exact C_ (Kd.R_reads' HO252.out).2.2)
    (case side6 => exact (Kd.R_reads' HO252.out).2.1)
    (case side7 => exact C_ (Kd.R_reads' HO255.out).2.2)
    (case side8 => exact (Kd.R_reads' HO255.out).2.1)
    rintro e w40 ⟨rfl, hb⟩
    refine ⟨_, rfl, ?_⟩
    have n0_ := am_ (Kd.R_below (R_ HO243.out) hb)
    have n1_ := am_ (Kd.R_below (R_ HO246.out) hb)
    have n2_ := am_ (Kd.R_below (R_ HO252.out) hb)
    have n3_ := am_ (Kd.R_below (R_ HO255.out) hb)
    have n4_ := am_ (blk_below (g := gb236) (o := .cells #[.int .i64 t238, .string t239, .string t240, .slice Ao25 t241.length co25, .slice Ao27 t244.length co27] 26 (0, 0)) (blk_ BK236.out) hb)
    have n5_ := am_ (blk_below (g := gb237) (o := .cells #[.string t247, .string t248, .string t249, .slice Ao32 t250.length co32, .slice Ao34 t253.length co34] 28 (0, 0)) (blk_ BK237.out) hb)
    have n6_ := am_ (below_step (bel_ HB.out) hb)
    clear HO243 HO246 HO252 HO255 BK236 BK237 HB
    have HO243 := n0_
    have HO246 := n1_
    have HO252 := n2_
    have HO255 := n3_
    have BK236 := n4_
    have BK237 := n5_
    have HB := n6_
    clear n0_ n1_ n2_ n3_ n4_ n5_ n6_
    (try clear hb)
    (try clear hb2)
    (try clear hk)
    (try clear hi)
    refine hK.out _ _ ⟨(blk_cell BK236.out 0).trans rfl, (blk_cell BK236.out 1).trans rfl, (blk_cell BK236.out 2).trans rfl, (blk_cell BK236.out 3).trans rfl, (blk_cell BK236.out 4).trans rfl, (blk_cell BK237.out 0).trans rfl, (blk_cell BK237.out 1).trans rfl, (blk_cell BK237.out 2).trans rfl, (blk_cell BK237.out 3).trans rfl, (blk_cell BK237.out 4).trans rfl⟩ (fun hHeld => ?_)
    clear hK K
    refine norm_ (a' := ?_) ?_ ?_
    rotate_left
    ·show Act.put _ (some 21) _ = _
     simp only [Act.put, sx_, s0_, s1_, i64_w, i32_w]
     rfl
    refine one_ (i := 11) (N := some 24) #[true, true, true, true, true, true, true, true, true, true, true, true, false, false, false, false, false, false, false, false, false, false, false, false, false] rfl rfl (one_of HT_.out kr_) (by decide) (fun K hK => ?_)
    refine goes_ Tryd.func15 kr_ rfl #[.agg #[.int .i64 t238, .string t239, .string t240, .slice Ao25 t241.length co25, .slice Ao27 t244.length co27], .agg #[.string t247, .string t248, .string t249, .slice Ao32 t250.length co32, .slice Ao34 t253.length co34]] (by rfl) rfl rfl rl_ ?_
    with_reducible refine (tollref06_Holds.calls k t238 t239 t240 _ _ t241 _ _ t244 t247 t248 t249 _ _ t250 _ _ t253 t260 _ ?side1 ?side2 ?side3 ?side4 ?side5 ?side6 ?side7 ?side8 A11.out).mono ?_
    (case side1 => exact C_ (Kd.R_reads' HO243.out).2.2)
    (case side2 => exact (Kd.R_reads' HO243.out).2.1)
    (case side3 => exact C_ (Kd.R_reads' HO246.out).2.2)
    (case side4 => exact (Kd.R_reads' HO246.out).2.1)
    (case side5 => exact C_ (Kd.R_reads' HO252.out).2.2)
    (case side6 => exact (Kd.R_reads' HO252.out).2.1)
    (case side7 => exact C_ (Kd.R_reads' HO255.out).2.2)
    (case side8 => exact (Kd.R_reads' HO255.out).2.1)
    rintro e w41 ⟨rfl, hb⟩
    refine ⟨_, rfl, ?_⟩
    have n0_ := am_ (Kd.R_below (R_ HO243.out) hb)
    have n1_ := am_ (Kd.R_below (R_ HO246.out) hb)
    have n2_ := am_ (Kd.R_below (R_ HO252.out) hb)
    have n3_ := am_ (Kd.R_below (R_ HO255.out) hb)
    have n4_ := am_ (blk_below (g := gb236) (o := .cells #[.int .i64 t238, .string t239, .string t240, .slice Ao25 t241.length co25, .slice Ao27 t244.length co27] 26 (0, 0)) (blk_ BK236.out) hb)
    have n5_ := am_ (blk_below (g := gb237) (o := .cells #[.string t247, .string t248, .string t249, .slice Ao32 t250.length co32, .slice Ao34 t253.length co34] 28 (0, 0)) (blk_ BK237.out) hb)
    have n6_ := am_ (below_step (bel_ HB.out) hb)
    clear HO243 HO246 HO252 HO255 BK236 BK237 HB
    have HO243 := n0_
    have HO246 := n1_
    have HO252 := n2_
    have HO255 := n3_
    have BK236 := n4_
    have BK237 := n5_
    have HB := n6_
    clear n0_ n1_ n2_ n3_ n4_ n5_ n6_
    (try clear hb)
    (try clear hb2)
    (try clear hk)
    (try clear hi)
    refine hK.out _ _ ⟨(blk_cell BK236.out 0).trans rfl, (blk_cell BK236.out 1).trans rfl, (blk_cell BK236.out 2).trans rfl, (blk_cell BK236.out 3).trans rfl, (blk_cell BK236.out 4).trans rfl, (blk_cell BK237.out 0).trans rfl, (blk_cell BK237.out 1).trans rfl, (blk_cell BK237.out 2).trans rfl, (blk_cell BK237.out 3).trans rfl, (blk_cell BK237.out 4).trans rfl⟩ (fun hHeld => ?_)
    clear hK K
    refine norm_ (a' := ?_) ?_ ?_
    rotate_left
    ·show Act.put _ (some 24) _ = _
     simp only [Act.put, sx_, s0_, s1_, i64_w, i32_w]
     rfl
    refine pure_ (i := 12) (N := some 25) (v := ?_) (a' := ?_) #[true, true, true, true, true, true, true, true, true, true, true, true, true, false, false, false, false, false, false, false, false, false, false, false, false] rfl rfl (any_of HT_.out kr_) (fun _ _ _ h => h) (Or.inl ⟨by rfl, ?_⟩) ?_ ?_
    rotate_left
    ·intro w'
     go_simp
     with_reducible rfl
    rotate_left
    ·simp only [Act.put, sx_, s0_, s1_, i64_w, i32_w]
     rfl
    refine pure_ (i := 13) (N := some 26) (v := ?_) (a' := ?_) #[true, true, true, true, true, true, true, true, true, true, true, true, true, true, false, false, false, false, false, false, false, false, false, false, false] rfl rfl (any_of HT_.out kr_) (fun _ _ _ h => h) (Or.inl ⟨by rfl, ?_⟩) ?_ ?_
    rotate_left
    ·intro w'
     go_simp
     with_reducible rfl
    rotate_left
    ·simp only [Act.put, sx_, s0_, s1_, i64_w, i32_w]
     rfl
    refine pure_ (i := 14) (N := some 27) (v := ?_) (a' := ?_) #[true, true, true, true, true, true, true, true, true, true, true, true, true, true, true, false, false, false, false, false, false, false, false, false, false] rfl rfl (any_of HT_.out kr_) (fun _ _ _ h => h) (Or.inl ⟨by rfl, ?_⟩) ?_ ?_
    rotate_left
    ·intro w'
     go_simp
     with_reducible rfl
    rotate_left
    ·simp only [Act.put, sx_, s0_, s1_, i64_w, i32_w]
     rfl
    refine pure_ (i := 15) (N := some 28) (v := ?_) (a' := ?_) #[true, true, true, true, true, true, true, true, true, true, true, true, true, true, true, true, false, false, false, false, false, false, false, false, false] rfl rfl (any_of HT_.out kr_) (fun _ _ _ h => h) (Or.inl ⟨by rfl, ?_⟩) ?_ ?_
    rotate_left
    ·intro w'
     go_simp
     with_reducible rfl
    rotate_left
    ·simp only [Act.put, sx_, s0_, s1_, i64_w, i32_w]
     rfl
    refine pure_ (i := 17) (N := some 30) (v := ?_) (a' := ?_) #[true, true, true, true, true, true, true, true, true, true, true, true, true, true, true, true, false, true, false, false, false, false, false, false, false] rfl rfl (any_of HT_.out kr_) (fun _ _ _ h => h) (Or.inl ⟨by rfl, ?_⟩) ?_ ?_
    rotate_left
    ·intro w'
     go_simp
     with_reducible rfl
    rotate_left
    ·simp only [Act.put, sx_, s0_, s1_, i64_w, i32_w]
     rfl
    refine one_ (i := 16) (N := some 29) #[true, true, true, true, true, true, true, true, true, true, true, true, true, true, true, true, true, true, false, false, false, false, false, false, false] rfl rfl (one_of HT_.out kr_) (by decide) (fun K hK => ?_)
    refine goes_ Tryd.func16 kr_ rfl #[.string t256] (by rfl) rfl rfl rl_ ?_
    with_reducible refine (rule_Method.calls t256 t261 _ A13.out).mono ?_
    rintro e w42 ⟨rfl, hb⟩
    refine ⟨_, rfl, ?_⟩
    have n0_ := am_ (Kd.R_below (R_ HO243.out) hb)
    have n1_ := am_ (Kd.R_below (R_ HO246.out) hb)
    have n2_ := am_ (Kd.R_below (R_ HO252.out) hb)
    have n3_ := am_ (Kd.R_below (R_ HO255.out) hb)
    have n4_ := am_ (blk_below (g := gb236) (o := .cells #[.int .i64 t238, .string t239, .string t240, .slice Ao25 t241.length co25, .slice Ao27 t244.length co27] 26 (0, 0)) (blk_ BK236.out) hb)
    have n5_ := am_ (blk_below (g := gb237) (o := .cells #[.string t247, .string t248, .string t249, .slice Ao32 t250.length co32, .slice Ao34 t253.length co34] 28 (0, 0)) (blk_ BK237.out) hb)
    have n6_ := am_ (below_step (bel_ HB.out) hb)
    clear HO243 HO246 HO252 HO255 BK236 BK237 HB
    have HO243 := n0_
    have HO246 := n1_
    have HO252 := n2_
    have HO255 := n3_
    have BK236 := n4_
    have BK237 := n5_
    have HB := n6_
    clear n0_ n1_ n2_ n3_ n4_ n5_ n6_
    (try clear hb)
    (try clear hb2)
    (try clear hk)
    (try clear hi)
    refine hK.out _ _ ⟨(blk_cell BK236.out 0).trans rfl, (blk_cell BK236.out 1).trans rfl, (blk_cell BK236.out 2).trans rfl, (blk_cell BK236.out 3).trans rfl, (blk_cell BK236.out 4).trans rfl, (blk_cell BK237.out 0).trans rfl, (blk_cell BK237.out 1).trans rfl, (blk_cell BK237.out 2).trans rfl, (blk_cell BK237.out 3).trans rfl, (blk_cell BK237.out 4).trans rfl⟩ (fun hHeld => ?_)
    clear hK K
    refine norm_ (a' := ?_) ?_ ?_
    rotate_left
    ·show Act.put _ (some 29) _ = _
     simp only [Act.put, sx_, s0_, s1_, i64_w, i32_w]
     rfl
    refine one_ (i := 18) (N := some 31) #[true, true, true, true, true, true, true, true, true, true, true, true, true, true, true, true, true, true, true, false, false, false, false, false, false] rfl rfl (one_of HT_.out kr_) (by decide) (fun K hK => ?_)
    refine goes_ Tryd.func17 kr_ rfl #[.string t256] (by rfl) rfl rfl rl_ ?_
    with_reducible refine (tollref06_Method.calls k t256 t262 _ A14.out).mono ?_
    rintro e w' ⟨rfl, ⟨nd, rfl⟩⟩
    refine ⟨_, rfl, ?_⟩
    refine hK.out _ _ ⟨(blk_cell BK236.out 0).trans rfl, (blk_cell BK236.out 1).trans rfl, (blk_cell BK236.out 2).trans rfl, (blk_cell BK236.out 3).trans rfl, (blk_cell BK236.out 4).trans rfl, (blk_cell BK237.out 0).trans rfl, (blk_cell BK237.out 1).trans rfl, (blk_cell BK237.out 2).trans rfl, (blk_cell BK237.out 3).trans rfl, (blk_cell BK237.out 4).trans rfl⟩ (fun hHeld => ?_)
    clear hK K
    refine norm_ (a' := ?_) ?_ ?_
    rotate_left
    ·show Act.put _ (some 31) _ = _
     simp only [Act.put, sx_, s0_, s1_, i64_w, i32_w]
     rfl
    refine pure_ (i := 19) (N := some 32) (v := ?_) (a' := ?_) #[true, true, true, true, true, true, true, true, true, true, true, true, true, true, true, true, true, true, true, true, false, false, false, false, false] rfl rfl (any_of HT_.out kr_) (fun _ _ _ h => h) (Or.inl ⟨by rfl, ?_⟩) ?_ ?_
    rotate_left
    ·intro w'
     go_simp
     with_reducible rfl
    rotate_left
    ·simp only [Act.put, sx_, s0_, s1_, i64_w, i32_w]
     rfl
    refine pure_ (i := 20) (N := some 33) (v := ?_) (a' := ?_) #[true, true, true, true, true, true, true, true, true, true, true, true, true, true, true, true, true, true, true, true, true, false, false, false, false] rfl rfl (any_of HT_.out kr_) (fun _ _ _ h => h) (Or.inl ⟨by rfl, ?_⟩) ?_ ?_
    rotate_left
    ·intro w'
     go_simp
     with_reducible rfl
    rotate_left
    ·simp only [Act.put, sx_, s0_, s1_, i64_w, i32_w]
     rfl
    refine pure_ (i := 21) (N := some 34) (v := ?_) (a' := ?_) #[true, true, true, true, true, true, true, true, true, true, true, true, true, true, true, true, true, true, true, true, true, true, false, false, false] rfl rfl (any_of HT_.out kr_) (fun _ _ _ h => h) (Or.inl ⟨by rfl, ?_⟩) ?_ ?_
    rotate_left
    ·intro w'
     go_simp
     with_reducible rfl
    rotate_left
    ·simp only [Act.put, sx_, s0_, s1_, i64_w, i32_w]
     rfl
    refine one_ (i := 22) (N := some 35) #[true, true, true, true, true, true, true, true, true, true, true, true, true, true, true, true, true, true, true, true, true, true, true, false, false] rfl rfl (one_of HT_.out kr_) (by decide) (fun K hK => ?_)
    refine goes_ Tryd.func18 kr_ rfl #[] (by rfl) rfl rfl rl_ ?_
    with_reducible refine (tolllaw06_awake.calls  t263 _ A16.out).mono ?_
    rintro e w43 ⟨rfl, hb⟩
    refine ⟨_, rfl, ?_⟩
    have n0_ := am_ (Kd.R_below (R_ HO243.out) hb)
    have n1_ := am_ (Kd.R_below (R_ HO246.out) hb)
    have n2_ := am_ (Kd.R_below (R_ HO252.out) hb)
    have n3_ := am_ (Kd.R_below (R_ HO255.out) hb)
    have n4_ := am_ (blk_below (g := gb236) (o := .cells #[.int .i64 t238, .string t239, .string t240, .slice Ao25 t241.length co25, .slice Ao27 t244.length co27] 26 (0, 0)) (blk_ BK236.out) hb)
    have n5_ := am_ (blk_below (g := gb237) (o := .cells #[.string t247, .string t248, .string t249, .slice Ao32 t250.length co32, .slice Ao34 t253.length co34] 28 (0, 0)) (blk_ BK237.out) hb)
    have n6_ := am_ (below_step (bel_ HB.out) hb)
    clear HO243 HO246 HO252 HO255 BK236 BK237 HB
    have HO243 := n0_
    have HO246 := n1_
    have HO252 := n2_
    have HO255 := n3_
    have BK236 := n4_
    have BK237 := n5_
    have HB := n6_
    clear n0_ n1_ n2_ n3_ n4_ n5_ n6_
    (try clear hb)
    (try clear hb2)
    (try clear hk)
    (try clear hi)
    refine hK.out _ _ ⟨(blk_cell BK236.out 0).trans rfl, (blk_cell BK236.out 1).trans rfl, (blk_cell BK236.out 2).trans rfl, (blk_cell BK236.out 3).trans rfl, (blk_cell BK236.out 4).trans rfl, (blk_cell BK237.out 0).trans rfl, (blk_cell BK237.out 1).trans rfl, (blk_cell BK237.out 2).trans rfl, (blk_cell BK237.out 3).trans rfl, (blk_cell BK237.out 4).trans rfl⟩ (fun hHeld => ?_)
    clear hK K
    refine norm_ (a' := ?_) ?_ ?_
    rotate_left
    ·show Act.put _ (some 35) _ = _
     simp only [Act.put, sx_, s0_, s1_, i64_w, i32_w]
     rfl
    refine pure_ (i := 23) (N := some 36) (v := ?_) (a' := ?_) #[true, true, true, true, true, true, true, true, true, true, true, true, true, true, true, true, true, true, true, true, true, true, true, true, false] rfl rfl (any_of HT_.out kr_) (fun _ _ _ h => h) (Or.inl ⟨by rfl, ?_⟩) ?_ ?_
    rotate_left
    ·intro w'
     go_simp
     with_reducible rfl
    rotate_left
    ·simp only [Act.put, sx_, s0_, s1_, i64_w, i32_w]
     rfl
    refine pure_ (i := 24) (N := some 6) (v := ?_) (a' := ?_) #[true, true, true, true, true, true, true, true, true, true, true, true, true, true, true, true, true, true, true, true, true, true, true, true, true] rfl rfl (any_of HT_.out kr_) (fun _ _ _ h => h) (Or.inl ⟨by rfl, ?_⟩) ?_ ?_
    rotate_left
    ·intro w'
     go_simp
     with_reducible rfl
    rotate_left
    ·simp only [Act.put, sx_, s0_, s1_, i64_w, i32_w]
     rfl
    refine done_ (done_of HT_.out kr_) ?_
    try go_wp2
    go_ret
    exact ⟨fi_, bel_ HB.out⟩
   ·rw [if_neg c15] at H
    exact absurd H (by simp)
  ·rw [if_neg c12] at H
   exact absurd H (by simp)
 ·rw [if_neg c9] at H
  exact absurd H (by simp)

/-- THE ONE PURE STATEMENT of tolllaw06_RuleHolds. -/
noncomputable def tolllaw06_RuleHolds.Pure : Prop := ∀ (a0_0 : Int) (a0_1 : ByteArray) (a0_2 : ByteArray) (l0_3 : List (S49)) (l0_4 : List (S49)) (a1_0 : ByteArray) (a1_1 : ByteArray) (a1_2 : ByteArray) (l1_3 : List (S49)) (l1_4 : List (S49)) (a2 : ByteArray), ((((Lit.int .i64 a0_0).wf = true) ∧ (a0_1.size ≤ 140737488351232)) ∧ (a0_2.size ≤ 140737488351232) ∧ (l0_3.length ≤ maxLen ∧ l0_3.length * 32 ≤ 140737488351232 ∧ ∀ y ∈ l0_3, (y.f0.size ≤ 140737488351232) ∧ (y.f1.size ≤ 140737488351232)) ∧ (l0_4.length ≤ maxLen ∧ l0_4.length * 32 ≤ 140737488351232 ∧ ∀ y ∈ l0_4, (y.f0.size ≤ 140737488351232) ∧ (y.f1.size ≤ 140737488351232))) → ((a1_0.size ≤ 140737488351232) ∧ (a1_1.size ≤ 140737488351232) ∧ (a1_2.size ≤ 140737488351232) ∧ (l1_3.length ≤ maxLen ∧ l1_3.length * 32 ≤ 140737488351232 ∧ ∀ y ∈ l1_3, (y.f0.size ≤ 140737488351232) ∧ (y.f1.size ≤ 140737488351232)) ∧ (l1_4.length ≤ maxLen ∧ l1_4.length * 32 ≤ 140737488351232 ∧ ∀ y ∈ l1_4, (y.f0.size ≤ 140737488351232) ∧ (y.f1.size ≤ 140737488351232))) → (a2.size ≤ 140737488351232) → ∃ k, tolllaw06_RuleHolds.f k a0_0 a0_1 a0_2 l0_3 l0_4 a1_0 a1_1 a1_2 l1_3 l1_4 a2 = some true

end Go.Proofs.YtompldnifiieaaaDoor.P
