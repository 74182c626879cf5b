-- written by wip/tool/hprint.py of this repo: the kit's print, with contracts by hand joined; Lean checks it.
import Derived.Test.YtfdopmjgiakcdaaDoorPx0
import Derived.Test.YtfdopmjgiakcdaaDoorPx1
import Derived.Test.YtfdopmjgiakcdaaDoorPx4
import Derived.Test.YtfdopmjgiakcdaaDoorPx5
namespace Go.Proofs.YtfdopmjgiakcdaaDoor.P
open Go.RowKit Go.Proofs.YtfdopmjgiakcdaaDoorW.PrintWords Go.Proofs.YtfdopmjgiakcdaaDoorW.PrintLast Go.Proofs.YtfdopmjgiakcdaaDoorW.PrintMore
attribute [local go_sem] max2_int min2_int max_two min_two max_three min_three max_four min_four   -- for this text's walks alone
set_option linter.unusedVariables false
set_option linter.unusedSimpArgs false

attribute [local go_sem high] eqA27
/-! ### filter_May: function 7 -/
def filter_May.j0 : Nat → Int → Bool → Int → ByteArray → ByteArray → ByteArray → Int → ByteArray → Bool → Int → Option (Bool)
 | 0, _, _, _, _, _, _, _, _, _, _ => none
 | k + 1, x4, x5, x135000, x135001, x135002, x135003, x135004, x135005, x135006, x135007 => if x5 = true then (if (x135003.toList == ([] : List UInt8) && (x135004 == 0 && (x135005.toList == ([] : List UInt8) && (!x135006 && (x135007 == 0))))) = true then ((pairs_Token.f k x135001).bind fun t135 => (if t135 = true then ((pairs_Value.f k x135002).bind fun t136 => (some t136)) else (some false))) else (some false)) else (if x4 = 3 then (if (x135002.toList == ([] : List UInt8) && (x135003.toList == ([] : List UInt8) && (x135004 == 0 && (x135005.toList == ([] : List UInt8) && (!x135006 && (x135007 == 0)))))) = true then ((pairs_Token.f k x135001).bind fun t137 => (some t137)) else (some false)) else (if x4 = 4 then (if x135001.toList = ([] : List UInt8) then (if x135002.toList = ([] : List UInt8) then ((filter_turns.f k x135000 x135001 x135002 x135003 x135004 x135005 x135006 x135007).bind fun t138 => (if t138 = true then (if x135004 ≥ 0 then (if x135004 ≤ 65535 then (if x135007 = 301 then (some true) else (some (x135007 == 302))) else (some false)) else (some false)) else (some false))) else (some false)) else (some false)) else (if x4 = 5 then (if (x135001.toList == ([] : List UInt8) && (x135002.toList == ([] : List UInt8) && (x135004 == 0 && (x135007 == 0)))) = true then ((filter_turns.f k x135000 x135001 x135002 x135003 x135004 x135005 x135006 x135007).bind fun t139 => (if t139 = true then (if x135003.toList = ([] : List UInt8) then (some (x135005.toList != ([] : List UInt8))) else (some true)) else (some false))) else (some false)) else (some false))))
def filter_May.f (k : Nat) (a0_0 : Int) (a0_1 : ByteArray) (a0_2 : ByteArray) (a0_3 : ByteArray) (a0_4 : Int) (a0_5 : ByteArray) (a0_6 : Bool) (a0_7 : Int) : Option (Bool) := if a0_0 = 1 then (filter_May.j0 k a0_0 (a0_0 == 1) a0_0 a0_1 a0_2 a0_3 a0_4 a0_5 a0_6 a0_7) else (filter_May.j0 k a0_0 (a0_0 == 2) a0_0 a0_1 a0_2 a0_3 a0_4 a0_5 a0_6 a0_7)
theorem filter_May.mono_l : ∀ k, (∀ y0 y1 y2 y3 y4 y5 y6 y7 y8 y9, LeO (filter_May.j0 k y0 y1 y2 y3 y4 y5 y6 y7 y8 y9) (filter_May.j0 (k + 1) y0 y1 y2 y3 y4 y5 y6 y7 y8 y9))
 | 0 => fun _ _ _ _ _ _ _ _ _ _ r h => by simp [filter_May.j0] at h
 | k + 1 => by
  have ih0 := filter_May.mono_l k
  ·intro y0 y1 y2 y3 y4 y5 y6 y7 y8 y9
   unfold filter_May.j0
   repeat' first
   | (with_reducible exact ih0 _ _ _ _ _ _ _ _ _ _)
   | (with_reducible exact filter_turns.mono _ _ _ _ _ _ _ _ _)
   | (with_reducible exact pairs_Token.mono _ _)
   | (with_reducible exact pairs_Value.mono _ _)
   | (with_reducible exact LeO.refl _)
   | (with_reducible exact LeO.none _)
   | (with_reducible refine LeO.ite ?_ ?_)
   | (with_reducible refine LeO.bind ?_ (fun _ => ?_))
   | exact ih0 _ _ _ _ _ _ _ _ _ _
   | exact filter_turns.mono _ _ _ _ _ _ _ _ _
   | exact pairs_Token.mono _ _
   | exact pairs_Value.mono _ _
   | exact LeO.none _
   | refine LeO.ite ?_ ?_
   | refine LeO.bind ?_ (fun _ => ?_)
theorem filter_May.mono : ∀ a0 a1 a2 a3 a4 a5 a6 a7 k, LeO (filter_May.f k a0 a1 a2 a3 a4 a5 a6 a7) (filter_May.f (k + 1) a0 a1 a2 a3 a4 a5 a6 a7) := by
 intro a0 a1 a2 a3 a4 a5 a6 a7 k
 have ih0 := filter_May.mono_l k
 unfold filter_May.f
 repeat' first
   | (with_reducible exact ih0 _ _ _ _ _ _ _ _ _ _)
   | (with_reducible exact filter_turns.mono _ _ _ _ _ _ _ _ _)
   | (with_reducible exact pairs_Token.mono _ _)
   | (with_reducible exact pairs_Value.mono _ _)
   | (with_reducible exact LeO.refl _)
   | (with_reducible exact LeO.none _)
   | (with_reducible refine LeO.ite ?_ ?_)
   | (with_reducible refine LeO.bind ?_ (fun _ => ?_))
   | exact ih0 _ _ _ _ _ _ _ _ _ _
   | exact filter_turns.mono _ _ _ _ _ _ _ _ _
   | exact pairs_Token.mono _ _
   | exact pairs_Value.mono _ _
   | exact LeO.none _
   | refine LeO.ite ?_ ?_
   | refine LeO.bind ?_ (fun _ => ?_)
set_option maxHeartbeats 8000000 in
set_option maxRecDepth 100000 in
theorem filter_May.calls (k : Nat) (a0_0 : Int) (a0_1 : ByteArray) (a0_2 : ByteArray) (a0_3 : ByteArray) (a0_4 : Int) (a0_5 : ByteArray) (a0_6 : Bool) (a0_7 : Int) (r : Bool) (w : World) (h : filter_May.f k a0_0 a0_1 a0_2 a0_3 a0_4 a0_5 a0_6 a0_7 = some r) :
  Calls Tryd.prog 7 #[.agg #[.int .i64 a0_0, .string a0_1, .string a0_2, .string a0_3, .int .i64 a0_4, .string a0_5, .bool a0_6, .int .i64 a0_7]] w fun e w' => e = .returned (.bool r) ∧ Below w.heap.size w w' := by
 have hu27 := Tryd.underlying27
 have HB := am_ (Below.refl w.heap.size w)
 have H : (if a0_0 = 1 then (filter_May.j0 k a0_0 (a0_0 == 1) a0_0 a0_1 a0_2 a0_3 a0_4 a0_5 a0_6 a0_7) else (filter_May.j0 k a0_0 (a0_0 == 2) a0_0 a0_1 a0_2 a0_3 a0_4 a0_5 a0_6 a0_7)) = some r := h
 clear h
 have HC2 := Aside0.mk H
 clear H
 go_enter Tryd.func7, Tryd.ntmps7
 go_upto_if 5 with (first | ((with_reducible refine gate_dst (N := 1) rfl ?_); refine box_event ?hg (N := 1) ?hd (cs := #[.int .i64 a0_0, .string a0_1, .string a0_2, .string a0_3, .int .i64 a0_4, .string a0_5, .bool a0_6, .int .i64 a0_7]) (t := 27) ?hr ?_; (case hd => rfl); (case hg => rfl); (case hr => first | (go_simp; done) | (go_simp; rfl)); intro gb134 hg w3 hbox hb; have n0_ := am_ (below_step (bel_ HB.out) hb); have n1_ := am_ (hbox); have n2_ := am_ ((by rw [hg]; exact (below_size (bel_ HB.out)) : w.heap.size ≤ gb134)); have n3_ := am_ ((by rw [hg]; exact (below_size (bel_ HB.out)) : w.heap.size ≤ gb134)); clear HB; have HB := n0_; have BK134 := n1_; have GW134 := n2_; have GE134 := n3_; clear n0_ n1_ n2_ n3_ hb hbox hg; obtain ⟨hcz4_0, hcz4_1, hcz4_2, hcz4_3, hcz4_4, hcz4_5, hcz4_6, hcz4_7, hfz4_0, hfz4_1, hfz4_2, hfz4_3, hfz4_4, hfz4_5, hfz4_6, hfz4_7⟩ := blk8 BK134.out))
 (try simp only [Act.put, List.setIfInBounds_toArray, List.set_cons_zero, List.set_cons_succ])
 go_cut [5] (fun v5 wc => ∃ (kq : Nat) (x5_1 : Bool), v5 = .bool x5_1 ∧ Aside0 (filter_May.j0 kq a0_0 x5_1 a0_0 a0_1 a0_2 a0_3 a0_4 a0_5 a0_6 a0_7 = some r) ∧ Aside0 (kq ≤ k) ∧ Aside0 (wc.heap[gb134]? = some (.cells #[.int .i64 a0_0, .string a0_1, .string a0_2, .string a0_3, .int .i64 a0_4, .string a0_5, .bool a0_6, .int .i64 a0_7] 27 (0, 0))) ∧ Aside0 (Below w.heap.size w wc))
 case first =>
  have H := HC2.out
  clear HC2
  by_cases c5 : a0_0 = 1
  ·rw [if_pos c5] at H
   have c5b0 : (a0_0 == 1) = true := beq_iff_eq.mpr c5
   have c5b1 : (a0_0 != 1) = false := bne_eq_false_iff_eq.mpr c5
   clear c5
   (first | rw [c5b0] | rw [c5b1] | rw [c5b2] | (simp only [i64_w, i32_w]; rw [c5b0]) | skip)
   have H' := Aside0.mk H
   clear H
   go_wp2
   go_meet
   case rel => exact ⟨_, ((a0_0 == 1)), sd_, H', ⟨by first | omega | exact Nat.le_refl _⟩, ⟨by (with_reducible repeat (first | refine blk_drewN ?_ _ | refine blk_drew ?_ | refine blk_alloc ?_ _)); exact BK134.out⟩, ⟨bel_ HB.out⟩⟩
  ·rw [if_neg c5] at H
   have c5b0 : (a0_0 == 1) = false := beq_eq_false_iff_ne.mpr c5
   have c5b1 : (a0_0 != 1) = true := bne_iff_ne.mpr c5
   (first | rw [c5b0] | rw [c5b1] | rw [c5b2] | (simp only [i64_w, i32_w]; rw [c5b0]) | skip)
   have H' := Aside0.mk H
   clear H
   go_wp2
   go_meet
   case rel => exact ⟨_, ((a0_0 == 2)), sd_, H', ⟨by first | omega | exact Nat.le_refl _⟩, ⟨by (with_reducible repeat (first | refine blk_drewN ?_ _ | refine blk_drew ?_ | refine blk_alloc ?_ _)); exact BK134.out⟩, ⟨bel_ HB.out⟩⟩
 case rest =>
  clear HC2
  try clear p2
  try clear c5
  try clear c5b0
  try clear c5b1
  try clear c5b2
  try clear hcz4_0
  try clear hcz4_1
  try clear hcz4_2
  try clear hcz4_3
  try clear hcz4_4
  try clear hcz4_5
  try clear hcz4_6
  try clear hcz4_7
  try clear hfz4_0
  try clear hfz4_1
  try clear hfz4_2
  try clear hfz4_3
  try clear hfz4_4
  try clear hfz4_5
  try clear hfz4_6
  try clear hfz4_7
  obtain ⟨kq, x5_1, rfl, HA, HJ1, BK134, HB⟩ := hcut
  cases kq with
  | zero => exact absurd HA.out (by simp [filter_May.j0])
  | succ kj1 =>
   have H := HA.out
   clear HA
   simp only [filter_May.j0] at H
   by_cases c6 : x5_1 = true
   ·subst c6
    have H1 : (if (a0_3.toList == ([] : List UInt8) && (a0_4 == 0 && (a0_5.toList == ([] : List UInt8) && (!a0_6 && (a0_7 == 0))))) = true then ((pairs_Token.f kj1 a0_1).bind fun t135 => (if t135 = true then ((pairs_Value.f kj1 a0_2).bind fun t136 => (some t136)) else (some false))) else (some false)) = some r := by rw [if_pos rfl] at H; exact H
    clear H
    have H := H1
    clear H1
    by_cases c7 : (a0_3.toList == ([] : List UInt8) && (a0_4 == 0 && (a0_5.toList == ([] : List UInt8) && (!a0_6 && (a0_7 == 0))))) = true
    ·rw [if_pos c7] at H
     (try (have c7k := c7; simp only [Bool.and_eq_true, beq_iff_eq, Bool.not_eq_true'] at c7k; have c7l := eq_true c7k; clear c7k)); (try (have c7m := c7; simp only [beq_nil_isEmpty] at c7m))
     have c7b0 : (a0_3.toList == ([] : List UInt8) && (a0_4 == 0 && (a0_5.toList == ([] : List UInt8) && (!a0_6 && (a0_7 == 0))))) = true := c7
     (try (have c7b1 : decide (a0_3.toList = ([] : List UInt8) && (a0_4 == 0 && (a0_5.toList == ([] : List UInt8) && (!a0_6 && (a0_7 == 0))))) = true := by simpa using c7))
     (try (have c7b2 : (a0_3.toList == ([] : List UInt8) && (a0_4 == 0 && (a0_5.toList == ([] : List UInt8) && (!a0_6 && (a0_7 == 0))))) = true := by simpa using c7))
     clear c7
     replace H := Option.bind_eq_some_iff.mp H
     obtain ⟨t135, A80, H⟩ := H
     replace H : (if t135 = true then ((pairs_Value.f kj1 a0_2).bind fun t136 => (some t136)) else (some false)) = some r := H
     have A8 := Aside0.mk A80
     clear A80
     by_cases c9 : t135 = true
     ·subst c9
      have H1 : ((pairs_Value.f kj1 a0_2).bind fun t136 => (some t136)) = some r := by rw [if_pos rfl] at H; exact H
      clear H
      have H := H1
      clear H1
      replace H := Option.bind_eq_some_iff.mp H
      obtain ⟨t136, A100, H⟩ := H
      replace H : (some t136) = some r := H
      have A10 := Aside0.mk A100
      clear A100
      obtain rfl := Option.some.inj H
      obtain ⟨hcz11_0, hcz11_1, hcz11_2, hcz11_3, hcz11_4, hcz11_5, hcz11_6, hcz11_7, hfz11_0, hfz11_1, hfz11_2, hfz11_3, hfz11_4, hfz11_5, hfz11_6, hfz11_7⟩ := blk8 BK134.out
      go_wp2_with (first | (go_at_call 16; (with_reducible refine (pairs_Token.calls kj1 a0_1 true _ A8.out).mono ?_); rintro e w' ⟨rfl, ⟨nd, rfl⟩⟩) | (go_at_call 17; (with_reducible refine (pairs_Value.calls kj1 a0_2 t136 _ A10.out).mono ?_); rintro e w12 ⟨rfl, hb⟩; have n0_ := am_ (blk_below (g := gb134) (o := .cells #[.int .i64 a0_0, .string a0_1, .string a0_2, .string a0_3, .int .i64 a0_4, .string a0_5, .bool a0_6, .int .i64 a0_7] 27 (0, 0)) (blk_ BK134.out) hb); have n1_ := am_ (below_step (bel_ HB.out) hb); clear BK134 HB; have BK134 := n0_; have HB := n1_; clear n0_ n1_; (try clear hb); (try clear hb2); (try clear hk); (try clear hi)))
      go_ret
      exact ⟨fi_, bel_ HB.out⟩
     ·replace c9 := Bool.eq_false_iff.mpr c9
      subst c9
      have H1 : (some false) = some r := by rw [if_neg (show ¬ (false = true) by decide)] at H; exact H
      clear H
      have H := H1
      clear H1
      obtain rfl := Option.some.inj H
      obtain ⟨hcz13_0, hcz13_1, hcz13_2, hcz13_3, hcz13_4, hcz13_5, hcz13_6, hcz13_7, hfz13_0, hfz13_1, hfz13_2, hfz13_3, hfz13_4, hfz13_5, hfz13_6, hfz13_7⟩ := blk8 BK134.out
      go_wp2_with (first | (go_at_call 16; (with_reducible refine (pairs_Token.calls kj1 a0_1 false _ A8.out).mono ?_); rintro e w' ⟨rfl, ⟨nd, rfl⟩⟩))
      go_ret
      exact ⟨fi_, bel_ HB.out⟩
    ·rw [if_neg c7] at H
     (try (have c7k := c7; simp only [Bool.and_eq_true, beq_iff_eq, Bool.not_eq_true'] at c7k; have c7l := eq_false c7k; clear c7k)); (try (have c7m := c7; simp only [beq_nil_isEmpty] at c7m))
     have c7b0 : (a0_3.toList == ([] : List UInt8) && (a0_4 == 0 && (a0_5.toList == ([] : List UInt8) && (!a0_6 && (a0_7 == 0))))) = false := by simpa using c7
     (try (have c7b1 : decide (a0_3.toList = ([] : List UInt8) && (a0_4 == 0 && (a0_5.toList == ([] : List UInt8) && (!a0_6 && (a0_7 == 0))))) = false := by simpa using c7))
     (try (have c7b2 : (a0_3.toList == ([] : List UInt8) && (a0_4 == 0 && (a0_5.toList == ([] : List UInt8) && (!a0_6 && (a0_7 == 0))))) = false := by simpa using c7))
     (try (have c7b3 : ¬ (a0_3.toList = ([] : List UInt8) && (a0_4 == 0 && (a0_5.toList == ([] : List UInt8) && (!a0_6 && (a0_7 == 0))))) := by simpa using c7))
     clear c7
     obtain rfl := Option.some.inj H
     obtain ⟨hcz14_0, hcz14_1, hcz14_2, hcz14_3, hcz14_4, hcz14_5, hcz14_6, hcz14_7, hfz14_0, hfz14_1, hfz14_2, hfz14_3, hfz14_4, hfz14_5, hfz14_6, hfz14_7⟩ := blk8 BK134.out
     go_wp2
     go_ret
     exact ⟨fi_, bel_ HB.out⟩
   ·replace c6 := Bool.eq_false_iff.mpr c6
    subst c6
    have H1 : (if a0_0 = 3 then (if (a0_2.toList == ([] : List UInt8) && (a0_3.toList == ([] : List UInt8) && (a0_4 == 0 && (a0_5.toList == ([] : List UInt8) && (!a0_6 && (a0_7 == 0)))))) = true then ((pairs_Token.f kj1 a0_1).bind fun t137 => (some t137)) else (some false)) else (if a0_0 = 4 then (if a0_1.toList = ([] : List UInt8) then (if a0_2.toList = ([] : List UInt8) then ((filter_turns.f kj1 a0_0 a0_1 a0_2 a0_3 a0_4 a0_5 a0_6 a0_7).bind fun t138 => (if t138 = true then (if a0_4 ≥ 0 then (if a0_4 ≤ 65535 then (if a0_7 = 301 then (some true) else (some (a0_7 == 302))) else (some false)) else (some false)) else (some false))) else (some false)) else (some false)) else (if a0_0 = 5 then (if (a0_1.toList == ([] : List UInt8) && (a0_2.toList == ([] : List UInt8) && (a0_4 == 0 && (a0_7 == 0)))) = true then ((filter_turns.f kj1 a0_0 a0_1 a0_2 a0_3 a0_4 a0_5 a0_6 a0_7).bind fun t139 => (if t139 = true then (if a0_3.toList = ([] : List UInt8) then (some (a0_5.toList != ([] : List UInt8))) else (some true)) else (some false))) else (some false)) else (some false)))) = some r := by rw [if_neg (show ¬ (false = true) by decide)] at H; exact H
    clear H
    have H := H1
    clear H1
    by_cases c15 : a0_0 = 3
    ·rw [if_pos c15] at H
     have c15b0 : (a0_0 == 3) = true := beq_iff_eq.mpr c15
     have c15b1 : (a0_0 != 3) = false := bne_eq_false_iff_eq.mpr c15
     clear c15
     by_cases c16 : (a0_2.toList == ([] : List UInt8) && (a0_3.toList == ([] : List UInt8) && (a0_4 == 0 && (a0_5.toList == ([] : List UInt8) && (!a0_6 && (a0_7 == 0)))))) = true
     ·rw [if_pos c16] at H
      (try (have c16k := c16; simp only [Bool.and_eq_true, beq_iff_eq, Bool.not_eq_true'] at c16k; have c16l := eq_true c16k; clear c16k)); (try (have c16m := c16; simp only [beq_nil_isEmpty] at c16m))
      have c16b0 : (a0_2.toList == ([] : List UInt8) && (a0_3.toList == ([] : List UInt8) && (a0_4 == 0 && (a0_5.toList == ([] : List UInt8) && (!a0_6 && (a0_7 == 0)))))) = true := c16
      (try (have c16b1 : decide (a0_2.toList = ([] : List UInt8) && (a0_3.toList == ([] : List UInt8) && (a0_4 == 0 && (a0_5.toList == ([] : List UInt8) && (!a0_6 && (a0_7 == 0)))))) = true := by simpa using c16))
      (try (have c16b2 : (a0_2.toList == ([] : List UInt8) && (a0_3.toList == ([] : List UInt8) && (a0_4 == 0 && (a0_5.toList == ([] : List UInt8) && (!a0_6 && (a0_7 == 0)))))) = true := by simpa using c16))
      clear c16
      replace H := Option.bind_eq_some_iff.mp H
      obtain ⟨t137, A170, H⟩ := H
      replace H : (some t137) = some r := H
      have A17 := Aside0.mk A170
      clear A170
      obtain rfl := Option.some.inj H
      obtain ⟨hcz18_0, hcz18_1, hcz18_2, hcz18_3, hcz18_4, hcz18_5, hcz18_6, hcz18_7, hfz18_0, hfz18_1, hfz18_2, hfz18_3, hfz18_4, hfz18_5, hfz18_6, hfz18_7⟩ := blk8 BK134.out
      go_wp2_with (first | (go_at_call 16; (with_reducible refine (pairs_Token.calls kj1 a0_1 t137 _ A17.out).mono ?_); rintro e w' ⟨rfl, ⟨nd, rfl⟩⟩))
      go_ret
      exact ⟨fi_, bel_ HB.out⟩
     ·rw [if_neg c16] at H
      (try (have c16k := c16; simp only [Bool.and_eq_true, beq_iff_eq, Bool.not_eq_true'] at c16k; have c16l := eq_false c16k; clear c16k)); (try (have c16m := c16; simp only [beq_nil_isEmpty] at c16m))
      have c16b0 : (a0_2.toList == ([] : List UInt8) && (a0_3.toList == ([] : List UInt8) && (a0_4 == 0 && (a0_5.toList == ([] : List UInt8) && (!a0_6 && (a0_7 == 0)))))) = false := by simpa using c16
      (try (have c16b1 : decide (a0_2.toList = ([] : List UInt8) && (a0_3.toList == ([] : List UInt8) && (a0_4 == 0 && (a0_5.toList == ([] : List UInt8) && (!a0_6 && (a0_7 == 0)))))) = false := by simpa using c16))
      (try (have c16b2 : (a0_2.toList == ([] : List UInt8) && (a0_3.toList == ([] : List UInt8) && (a0_4 == 0 && (a0_5.toList == ([] : List UInt8) && (!a0_6 && (a0_7 == 0)))))) = false := by simpa using c16))
      (try (have c16b3 : ¬ (a0_2.toList = ([] : List UInt8) && (a0_3.toList == ([] : List UInt8) && (a0_4 == 0 && (a0_5.toList == ([] : List UInt8) && (!a0_6 && (a0_7 == 0)))))) := by simpa using c16))
      clear c16
      obtain rfl := Option.some.inj H
      obtain ⟨hcz19_0, hcz19_1, hcz19_2, hcz19_3, hcz19_4, hcz19_5, hcz19_6, hcz19_7, hfz19_0, hfz19_1, hfz19_2, hfz19_3, hfz19_4, hfz19_5, hfz19_6, hfz19_7⟩ := blk8 BK134.out
      go_wp2
      go_ret
      exact ⟨fi_, bel_ HB.out⟩
    ·rw [if_neg c15] at H
     have c15b0 : (a0_0 == 3) = false := beq_eq_false_iff_ne.mpr c15
     have c15b1 : (a0_0 != 3) = true := bne_iff_ne.mpr c15
     by_cases c20 : a0_0 = 4
     ·rw [if_pos c20] at H
      have c20b0 : (a0_0 == 4) = true := beq_iff_eq.mpr c20
      have c20b1 : (a0_0 != 4) = false := bne_eq_false_iff_eq.mpr c20
      clear c20
      by_cases c21 : a0_1.toList = ([] : List UInt8)
      ·rw [if_pos c21] at H
       have c21b0 : (a0_1.toList == ([] : List UInt8)) = true := beq_iff_eq.mpr c21
       have c21b1 : (a0_1.toList != ([] : List UInt8)) = false := bne_eq_false_iff_eq.mpr c21
       clear c21
       by_cases c22 : a0_2.toList = ([] : List UInt8)
       ·rw [if_pos c22] at H
        have c22b0 : (a0_2.toList == ([] : List UInt8)) = true := beq_iff_eq.mpr c22
        have c22b1 : (a0_2.toList != ([] : List UInt8)) = false := bne_eq_false_iff_eq.mpr c22
        clear c22
        replace H := Option.bind_eq_some_iff.mp H
        obtain ⟨t138, A230, H⟩ := H
        replace H : (if t138 = true then (if a0_4 ≥ 0 then (if a0_4 ≤ 65535 then (if a0_7 = 301 then (some true) else (some (a0_7 == 302))) else (some false)) else (some false)) else (some false)) = some r := H
        have A23 := Aside0.mk A230
        clear A230
        by_cases c24 : t138 = true
        ·subst c24
         have H1 : (if a0_4 ≥ 0 then (if a0_4 ≤ 65535 then (if a0_7 = 301 then (some true) else (some (a0_7 == 302))) else (some false)) else (some false)) = some r := by rw [if_pos rfl] at H; exact H
         clear H
         have H := H1
         clear H1
         by_cases c25 : a0_4 ≥ 0
         ·rw [if_pos c25] at H
          have c25b0 : decide (0 ≤ a0_4) = true := decide_eq_true c25
          clear c25
          by_cases c26 : a0_4 ≤ 65535
          ·rw [if_pos c26] at H
           have c26b0 : decide (a0_4 ≤ 65535) = true := decide_eq_true c26
           clear c26
           by_cases c27 : a0_7 = 301
           ·rw [if_pos c27] at H
            have c27b0 : (a0_7 == 301) = true := beq_iff_eq.mpr c27
            have c27b1 : (a0_7 != 301) = false := bne_eq_false_iff_eq.mpr c27
            clear c27
            obtain rfl := Option.some.inj H
            obtain ⟨hcz28_0, hcz28_1, hcz28_2, hcz28_3, hcz28_4, hcz28_5, hcz28_6, hcz28_7, hfz28_0, hfz28_1, hfz28_2, hfz28_3, hfz28_4, hfz28_5, hfz28_6, hfz28_7⟩ := blk8 BK134.out
            go_wp2_with (first | (go_at_call 18; (with_reducible refine (filter_turns.calls kj1 a0_0 a0_1 a0_2 a0_3 a0_4 a0_5 a0_6 a0_7 true _ A23.out).mono ?_); rintro e w29 ⟨rfl, hb⟩; have n0_ := am_ (blk_below (g := gb134) (o := .cells #[.int .i64 a0_0, .string a0_1, .string a0_2, .string a0_3, .int .i64 a0_4, .string a0_5, .bool a0_6, .int .i64 a0_7] 27 (0, 0)) (blk_ BK134.out) hb); have n1_ := am_ (below_step (bel_ HB.out) hb); clear BK134 HB; have BK134 := n0_; have HB := n1_; clear n0_ n1_; (try clear hb); (try clear hb2); (try clear hk); (try clear hi); obtain ⟨hcz30_0, hcz30_1, hcz30_2, hcz30_3, hcz30_4, hcz30_5, hcz30_6, hcz30_7, hfz30_0, hfz30_1, hfz30_2, hfz30_3, hfz30_4, hfz30_5, hfz30_6, hfz30_7⟩ := blk8 BK134.out))
            go_ret
            exact ⟨fi_, bel_ HB.out⟩
           ·rw [if_neg c27] at H
            have c27b0 : (a0_7 == 301) = false := beq_eq_false_iff_ne.mpr c27
            have c27b1 : (a0_7 != 301) = true := bne_iff_ne.mpr c27
            obtain rfl := Option.some.inj H
            obtain ⟨hcz31_0, hcz31_1, hcz31_2, hcz31_3, hcz31_4, hcz31_5, hcz31_6, hcz31_7, hfz31_0, hfz31_1, hfz31_2, hfz31_3, hfz31_4, hfz31_5, hfz31_6, hfz31_7⟩ := blk8 BK134.out
            go_wp2_with (first | (go_at_call 18; (with_reducible refine (filter_turns.calls kj1 a0_0 a0_1 a0_2 a0_3 a0_4 a0_5 a0_6 a0_7 true _ A23.out).mono ?_); rintro e w32 ⟨rfl, hb⟩; have n0_ := am_ (blk_below (g := gb134) (o := .cells #[.int .i64 a0_0, .string a0_1, .string a0_2, .string a0_3, .int .i64 a0_4, .string a0_5, .bool a0_6, .int .i64 a0_7] 27 (0, 0)) (blk_ BK134.out) hb); have n1_ := am_ (below_step (bel_ HB.out) hb); clear BK134 HB; have BK134 := n0_; have HB := n1_; clear n0_ n1_; (try clear hb); (try clear hb2); (try clear hk); (try clear hi); obtain ⟨hcz33_0, hcz33_1, hcz33_2, hcz33_3, hcz33_4, hcz33_5, hcz33_6, hcz33_7, hfz33_0, hfz33_1, hfz33_2, hfz33_3, hfz33_4, hfz33_5, hfz33_6, hfz33_7⟩ := blk8 BK134.out))
            go_ret
            exact ⟨fi_, bel_ HB.out⟩
          ·rw [if_neg c26] at H
           have c26b0 : decide (a0_4 ≤ 65535) = false := decide_eq_false c26
           clear c26
           obtain rfl := Option.some.inj H
           obtain ⟨hcz34_0, hcz34_1, hcz34_2, hcz34_3, hcz34_4, hcz34_5, hcz34_6, hcz34_7, hfz34_0, hfz34_1, hfz34_2, hfz34_3, hfz34_4, hfz34_5, hfz34_6, hfz34_7⟩ := blk8 BK134.out
           go_wp2_with (first | (go_at_call 18; (with_reducible refine (filter_turns.calls kj1 a0_0 a0_1 a0_2 a0_3 a0_4 a0_5 a0_6 a0_7 true _ A23.out).mono ?_); rintro e w35 ⟨rfl, hb⟩; have n0_ := am_ (blk_below (g := gb134) (o := .cells #[.int .i64 a0_0, .string a0_1, .string a0_2, .string a0_3, .int .i64 a0_4, .string a0_5, .bool a0_6, .int .i64 a0_7] 27 (0, 0)) (blk_ BK134.out) hb); have n1_ := am_ (below_step (bel_ HB.out) hb); clear BK134 HB; have BK134 := n0_; have HB := n1_; clear n0_ n1_; (try clear hb); (try clear hb2); (try clear hk); (try clear hi); obtain ⟨hcz36_0, hcz36_1, hcz36_2, hcz36_3, hcz36_4, hcz36_5, hcz36_6, hcz36_7, hfz36_0, hfz36_1, hfz36_2, hfz36_3, hfz36_4, hfz36_5, hfz36_6, hfz36_7⟩ := blk8 BK134.out))
           go_ret
           exact ⟨fi_, bel_ HB.out⟩
         ·rw [if_neg c25] at H
          have c25b0 : decide (0 ≤ a0_4) = false := decide_eq_false c25
          clear c25
          obtain rfl := Option.some.inj H
          obtain ⟨hcz37_0, hcz37_1, hcz37_2, hcz37_3, hcz37_4, hcz37_5, hcz37_6, hcz37_7, hfz37_0, hfz37_1, hfz37_2, hfz37_3, hfz37_4, hfz37_5, hfz37_6, hfz37_7⟩ := blk8 BK134.out
          go_wp2_with (first | (go_at_call 18; (with_reducible refine (filter_turns.calls kj1 a0_0 a0_1 a0_2 a0_3 a0_4 a0_5 a0_6 a0_7 true _ A23.out).mono ?_); rintro e w38 ⟨rfl, hb⟩; have n0_ := am_ (blk_below (g := gb134) (o := .cells #[.int .i64 a0_0, .string a0_1, .string a0_2, .string a0_3, .int .i64 a0_4, .string a0_5, .bool a0_6, .int .i64 a0_7] 27 (0, 0)) (blk_ BK134.out) hb); have n1_ := am_ (below_step (bel_ HB.out) hb); clear BK134 HB; have BK134 := n0_; have HB := n1_; clear n0_ n1_; (try clear hb); (try clear hb2); (try clear hk); (try clear hi); obtain ⟨hcz39_0, hcz39_1, hcz39_2, hcz39_3, hcz39_4, hcz39_5, hcz39_6, hcz39_7, hfz39_0, hfz39_1, hfz39_2, hfz39_3, hfz39_4, hfz39_5, hfz39_6, hfz39_7⟩ := blk8 BK134.out))
          go_ret
          exact ⟨fi_, bel_ HB.out⟩
        ·replace c24 := Bool.eq_false_iff.mpr c24
         subst c24
         have H1 : (some false) = some r := by rw [if_neg (show ¬ (false = true) by decide)] at H; exact H
         clear H
         have H := H1
         clear H1
         obtain rfl := Option.some.inj H
         obtain ⟨hcz40_0, hcz40_1, hcz40_2, hcz40_3, hcz40_4, hcz40_5, hcz40_6, hcz40_7, hfz40_0, hfz40_1, hfz40_2, hfz40_3, hfz40_4, hfz40_5, hfz40_6, hfz40_7⟩ := blk8 BK134.out
         go_wp2_with (first | (go_at_call 18; (with_reducible refine (filter_turns.calls kj1 a0_0 a0_1 a0_2 a0_3 a0_4 a0_5 a0_6 a0_7 false _ A23.out).mono ?_); rintro e w41 ⟨rfl, hb⟩; have n0_ := am_ (blk_below (g := gb134) (o := .cells #[.int .i64 a0_0, .string a0_1, .string a0_2, .string a0_3, .int .i64 a0_4, .string a0_5, .bool a0_6, .int .i64 a0_7] 27 (0, 0)) (blk_ BK134.out) hb); have n1_ := am_ (below_step (bel_ HB.out) hb); clear BK134 HB; have BK134 := n0_; have HB := n1_; clear n0_ n1_; (try clear hb); (try clear hb2); (try clear hk); (try clear hi)))
         go_ret
         exact ⟨fi_, bel_ HB.out⟩
       ·rw [if_neg c22] at H
        have c22b0 : (a0_2.toList == ([] : List UInt8)) = false := beq_eq_false_iff_ne.mpr c22
        have c22b1 : (a0_2.toList != ([] : List UInt8)) = true := bne_iff_ne.mpr c22
        obtain rfl := Option.some.inj H
        obtain ⟨hcz42_0, hcz42_1, hcz42_2, hcz42_3, hcz42_4, hcz42_5, hcz42_6, hcz42_7, hfz42_0, hfz42_1, hfz42_2, hfz42_3, hfz42_4, hfz42_5, hfz42_6, hfz42_7⟩ := blk8 BK134.out
        go_wp2
        go_ret
        exact ⟨fi_, bel_ HB.out⟩
      ·rw [if_neg c21] at H
       have c21b0 : (a0_1.toList == ([] : List UInt8)) = false := beq_eq_false_iff_ne.mpr c21
       have c21b1 : (a0_1.toList != ([] : List UInt8)) = true := bne_iff_ne.mpr c21
       obtain rfl := Option.some.inj H
       obtain ⟨hcz43_0, hcz43_1, hcz43_2, hcz43_3, hcz43_4, hcz43_5, hcz43_6, hcz43_7, hfz43_0, hfz43_1, hfz43_2, hfz43_3, hfz43_4, hfz43_5, hfz43_6, hfz43_7⟩ := blk8 BK134.out
       go_wp2
       go_ret
       exact ⟨fi_, bel_ HB.out⟩
     ·rw [if_neg c20] at H
      have c20b0 : (a0_0 == 4) = false := beq_eq_false_iff_ne.mpr c20
      have c20b1 : (a0_0 != 4) = true := bne_iff_ne.mpr c20
      by_cases c44 : a0_0 = 5
      ·rw [if_pos c44] at H
       have c44b0 : (a0_0 == 5) = true := beq_iff_eq.mpr c44
       have c44b1 : (a0_0 != 5) = false := bne_eq_false_iff_eq.mpr c44
       clear c44
       by_cases c45 : (a0_1.toList == ([] : List UInt8) && (a0_2.toList == ([] : List UInt8) && (a0_4 == 0 && (a0_7 == 0)))) = true
       ·rw [if_pos c45] at H
        (try (have c45k := c45; simp only [Bool.and_eq_true, beq_iff_eq, Bool.not_eq_true'] at c45k; have c45l := eq_true c45k; clear c45k)); (try (have c45m := c45; simp only [beq_nil_isEmpty] at c45m))
        have c45b0 : (a0_1.toList == ([] : List UInt8) && (a0_2.toList == ([] : List UInt8) && (a0_4 == 0 && (a0_7 == 0)))) = true := c45
        (try (have c45b1 : decide (a0_1.toList = ([] : List UInt8) && (a0_2.toList == ([] : List UInt8) && (a0_4 == 0 && (a0_7 == 0)))) = true := by simpa using c45))
        (try (have c45b2 : (a0_1.toList == ([] : List UInt8) && (a0_2.toList == ([] : List UInt8) && (a0_4 == 0 && (a0_7 == 0)))) = true := by simpa using c45))
        clear c45
        replace H := Option.bind_eq_some_iff.mp H
        obtain ⟨t139, A460, H⟩ := H
        replace H : (if t139 = true then (if a0_3.toList = ([] : List UInt8) then (some (a0_5.toList != ([] : List UInt8))) else (some true)) else (some false)) = some r := H
        have A46 := Aside0.mk A460
        clear A460
        by_cases c47 : t139 = true
        ·subst c47
         have H1 : (if a0_3.toList = ([] : List UInt8) then (some (a0_5.toList != ([] : List UInt8))) else (some true)) = some r := by rw [if_pos rfl] at H; exact H
         clear H
         have H := H1
         clear H1
         by_cases c48 : a0_3.toList = ([] : List UInt8)
         ·rw [if_pos c48] at H
          have c48b0 : (a0_3.toList == ([] : List UInt8)) = true := beq_iff_eq.mpr c48
          have c48b1 : (a0_3.toList != ([] : List UInt8)) = false := bne_eq_false_iff_eq.mpr c48
          clear c48
          obtain rfl := Option.some.inj H
          obtain ⟨hcz49_0, hcz49_1, hcz49_2, hcz49_3, hcz49_4, hcz49_5, hcz49_6, hcz49_7, hfz49_0, hfz49_1, hfz49_2, hfz49_3, hfz49_4, hfz49_5, hfz49_6, hfz49_7⟩ := blk8 BK134.out
          go_wp2_with (first | (go_at_call 18; (with_reducible refine (filter_turns.calls kj1 a0_0 a0_1 a0_2 a0_3 a0_4 a0_5 a0_6 a0_7 true _ A46.out).mono ?_); rintro e w50 ⟨rfl, hb⟩; have n0_ := am_ (blk_below (g := gb134) (o := .cells #[.int .i64 a0_0, .string a0_1, .string a0_2, .string a0_3, .int .i64 a0_4, .string a0_5, .bool a0_6, .int .i64 a0_7] 27 (0, 0)) (blk_ BK134.out) hb); have n1_ := am_ (below_step (bel_ HB.out) hb); clear BK134 HB; have BK134 := n0_; have HB := n1_; clear n0_ n1_; (try clear hb); (try clear hb2); (try clear hk); (try clear hi); obtain ⟨hcz51_0, hcz51_1, hcz51_2, hcz51_3, hcz51_4, hcz51_5, hcz51_6, hcz51_7, hfz51_0, hfz51_1, hfz51_2, hfz51_3, hfz51_4, hfz51_5, hfz51_6, hfz51_7⟩ := blk8 BK134.out))
          go_ret
          exact ⟨fi_, bel_ HB.out⟩
         ·rw [if_neg c48] at H
          have c48b0 : (a0_3.toList == ([] : List UInt8)) = false := beq_eq_false_iff_ne.mpr c48
          have c48b1 : (a0_3.toList != ([] : List UInt8)) = true := bne_iff_ne.mpr c48
          obtain rfl := Option.some.inj H
          obtain ⟨hcz52_0, hcz52_1, hcz52_2, hcz52_3, hcz52_4, hcz52_5, hcz52_6, hcz52_7, hfz52_0, hfz52_1, hfz52_2, hfz52_3, hfz52_4, hfz52_5, hfz52_6, hfz52_7⟩ := blk8 BK134.out
          go_wp2_with (first | (go_at_call 18; (with_reducible refine (filter_turns.calls kj1 a0_0 a0_1 a0_2 a0_3 a0_4 a0_5 a0_6 a0_7 true _ A46.out).mono ?_); rintro e w53 ⟨rfl, hb⟩; have n0_ := am_ (blk_below (g := gb134) (o := .cells #[.int .i64 a0_0, .string a0_1, .string a0_2, .string a0_3, .int .i64 a0_4, .string a0_5, .bool a0_6, .int .i64 a0_7] 27 (0, 0)) (blk_ BK134.out) hb); have n1_ := am_ (below_step (bel_ HB.out) hb); clear BK134 HB; have BK134 := n0_; have HB := n1_; clear n0_ n1_; (try clear hb); (try clear hb2); (try clear hk); (try clear hi); obtain ⟨hcz54_0, hcz54_1, hcz54_2, hcz54_3, hcz54_4, hcz54_5, hcz54_6, hcz54_7, hfz54_0, hfz54_1, hfz54_2, hfz54_3, hfz54_4, hfz54_5, hfz54_6, hfz54_7⟩ := blk8 BK134.out))
          go_ret
          exact ⟨fi_, bel_ HB.out⟩
        ·replace c47 := Bool.eq_false_iff.mpr c47
         subst c47
         have H1 : (some false) = some r := by rw [if_neg (show ¬ (false = true) by decide)] at H; exact H
         clear H
         have H := H1
         clear H1
         obtain rfl := Option.some.inj H
         obtain ⟨hcz55_0, hcz55_1, hcz55_2, hcz55_3, hcz55_4, hcz55_5, hcz55_6, hcz55_7, hfz55_0, hfz55_1, hfz55_2, hfz55_3, hfz55_4, hfz55_5, hfz55_6, hfz55_7⟩ := blk8 BK134.out
         go_wp2_with (first | (go_at_call 18; (with_reducible refine (filter_turns.calls kj1 a0_0 a0_1 a0_2 a0_3 a0_4 a0_5 a0_6 a0_7 false _ A46.out).mono ?_); rintro e w56 ⟨rfl, hb⟩; have n0_ := am_ (blk_below (g := gb134) (o := .cells #[.int .i64 a0_0, .string a0_1, .string a0_2, .string a0_3, .int .i64 a0_4, .string a0_5, .bool a0_6, .int .i64 a0_7] 27 (0, 0)) (blk_ BK134.out) hb); have n1_ := am_ (below_step (bel_ HB.out) hb); clear BK134 HB; have BK134 := n0_; have HB := n1_; clear n0_ n1_; (try clear hb); (try clear hb2); (try clear hk); (try clear hi)))
         go_ret
         exact ⟨fi_, bel_ HB.out⟩
       ·rw [if_neg c45] at H
        (try (have c45k := c45; simp only [Bool.and_eq_true, beq_iff_eq, Bool.not_eq_true'] at c45k; have c45l := eq_false c45k; clear c45k)); (try (have c45m := c45; simp only [beq_nil_isEmpty] at c45m))
        have c45b0 : (a0_1.toList == ([] : List UInt8) && (a0_2.toList == ([] : List UInt8) && (a0_4 == 0 && (a0_7 == 0)))) = false := by simpa using c45
        (try (have c45b1 : decide (a0_1.toList = ([] : List UInt8) && (a0_2.toList == ([] : List UInt8) && (a0_4 == 0 && (a0_7 == 0)))) = false := by simpa using c45))
        (try (have c45b2 : (a0_1.toList == ([] : List UInt8) && (a0_2.toList == ([] : List UInt8) && (a0_4 == 0 && (a0_7 == 0)))) = false := by simpa using c45))
        (try (have c45b3 : ¬ (a0_1.toList = ([] : List UInt8) && (a0_2.toList == ([] : List UInt8) && (a0_4 == 0 && (a0_7 == 0)))) := by simpa using c45))
        clear c45
        obtain rfl := Option.some.inj H
        obtain ⟨hcz57_0, hcz57_1, hcz57_2, hcz57_3, hcz57_4, hcz57_5, hcz57_6, hcz57_7, hfz57_0, hfz57_1, hfz57_2, hfz57_3, hfz57_4, hfz57_5, hfz57_6, hfz57_7⟩ := blk8 BK134.out
        go_wp2
        go_ret
        exact ⟨fi_, bel_ HB.out⟩
      ·rw [if_neg c44] at H
       have c44b0 : (a0_0 == 5) = false := beq_eq_false_iff_ne.mpr c44
       have c44b1 : (a0_0 != 5) = true := bne_iff_ne.mpr c44
       obtain rfl := Option.some.inj H
       go_wp2
       go_ret
       exact ⟨fi_, bel_ HB.out⟩

/-! ### filter_turner: function 10 -/
def filter_turner.f (a0_0 : Int) (a0_1 : ByteArray) (a0_2 : ByteArray) (a0_3 : ByteArray) (a0_4 : Int) (a0_5 : ByteArray) (a0_6 : Bool) (a0_7 : Int) : Option (Bool) := if a0_0 = 4 then (some true) else (some (a0_0 == 5))
set_option maxHeartbeats 8000000 in
set_option maxRecDepth 100000 in
theorem filter_turner.calls (a0_0 : Int) (a0_1 : ByteArray) (a0_2 : ByteArray) (a0_3 : ByteArray) (a0_4 : Int) (a0_5 : ByteArray) (a0_6 : Bool) (a0_7 : Int) (r : Bool) (w : World) (h : filter_turner.f a0_0 a0_1 a0_2 a0_3 a0_4 a0_5 a0_6 a0_7 = some r) :
  Calls Tryd.prog 10 #[.agg #[.int .i64 a0_0, .string a0_1, .string a0_2, .string a0_3, .int .i64 a0_4, .string a0_5, .bool a0_6, .int .i64 a0_7]] w fun e w' => e = .returned (.bool r) ∧ Below w.heap.size w w' := by
 have hu27 := Tryd.underlying27
 have HB := am_ (Below.refl w.heap.size w)
 have H : (if a0_0 = 4 then (some true) else (some (a0_0 == 5))) = some r := h
 clear h
 by_cases c2 : a0_0 = 4
 ·rw [if_pos c2] at H
  have c2b0 : (a0_0 == 4) = true := beq_iff_eq.mpr c2
  have c2b1 : (a0_0 != 4) = false := bne_eq_false_iff_eq.mpr c2
  clear c2
  obtain rfl := Option.some.inj H
  go_enter Tryd.func10, Tryd.ntmps10
  go_wp2_with (first | ((with_reducible refine gate_dst (N := 1) rfl ?_); refine box_event ?hg (N := 1) ?hd (cs := #[.int .i64 a0_0, .string a0_1, .string a0_2, .string a0_3, .int .i64 a0_4, .string a0_5, .bool a0_6, .int .i64 a0_7]) (t := 27) ?hr ?_; (case hd => rfl); (case hg => rfl); (case hr => first | (go_simp; done) | (go_simp; rfl)); intro gb140 hg w3 hbox hb; have n0_ := am_ (below_step (bel_ HB.out) hb); have n1_ := am_ (hbox); have n2_ := am_ ((by rw [hg]; exact (below_size (bel_ HB.out)) : w.heap.size ≤ gb140)); have n3_ := am_ ((by rw [hg]; exact (below_size (bel_ HB.out)) : w.heap.size ≤ gb140)); clear HB; have HB := n0_; have BK140 := n1_; have GW140 := n2_; have GE140 := n3_; clear n0_ n1_ n2_ n3_ hb hbox hg; obtain ⟨hcz4_0, hcz4_1, hcz4_2, hcz4_3, hcz4_4, hcz4_5, hcz4_6, hcz4_7, hfz4_0, hfz4_1, hfz4_2, hfz4_3, hfz4_4, hfz4_5, hfz4_6, hfz4_7⟩ := blk8 BK140.out))
  go_ret
  exact ⟨fi_, bel_ HB.out⟩
 ·rw [if_neg c2] at H
  have c2b0 : (a0_0 == 4) = false := beq_eq_false_iff_ne.mpr c2
  have c2b1 : (a0_0 != 4) = true := bne_iff_ne.mpr c2
  obtain rfl := Option.some.inj H
  go_enter Tryd.func10, Tryd.ntmps10
  go_wp2_with (first | ((with_reducible refine gate_dst (N := 1) rfl ?_); refine box_event ?hg (N := 1) ?hd (cs := #[.int .i64 a0_0, .string a0_1, .string a0_2, .string a0_3, .int .i64 a0_4, .string a0_5, .bool a0_6, .int .i64 a0_7]) (t := 27) ?hr ?_; (case hd => rfl); (case hg => rfl); (case hr => first | (go_simp; done) | (go_simp; rfl)); intro gb140 hg w5 hbox hb; have n0_ := am_ (below_step (bel_ HB.out) hb); have n1_ := am_ (hbox); have n2_ := am_ ((by rw [hg]; exact (below_size (bel_ HB.out)) : w.heap.size ≤ gb140)); have n3_ := am_ ((by rw [hg]; exact (below_size (bel_ HB.out)) : w.heap.size ≤ gb140)); clear HB; have HB := n0_; have BK140 := n1_; have GW140 := n2_; have GE140 := n3_; clear n0_ n1_ n2_ n3_ hb hbox hg; obtain ⟨hcz6_0, hcz6_1, hcz6_2, hcz6_3, hcz6_4, hcz6_5, hcz6_6, hcz6_7, hfz6_0, hfz6_1, hfz6_2, hfz6_3, hfz6_4, hfz6_5, hfz6_6, hfz6_7⟩ := blk8 BK140.out))
  go_ret
  exact ⟨fi_, bel_ HB.out⟩

/-! ### dns_Fold: function 19 -/
def dns_Fold.b (c : UInt8) : UInt8 := if 65 ≤ c.toNat ∧ c.toNat ≤ 90 then UInt8.ofNat (c.toNat + 32) else c
def dns_Fold.f (a0 : ByteArray) : Option (ByteArray) := if a0.size ≤ 9223372036854775807 then some ⟨(a0.data.toList.map dns_Fold.b).toArray⟩ else none
/-- The octets as numbers, the first k of them folded. -/
def dns_Fold.at_ (s : ByteArray) (k j : Nat) : Int := if j < k then ((dns_Fold.b (s.data.toList.getD j 0)).toNat : Int) else ((s.data.toList.getD j 0).toNat : Int)
theorem dns_Fold.bits_or (c : Int) (h0 : 65 ≤ c) (h1 : c ≤ 90) : Go.bits .or .u8 c 32 = c + 32 := by
 have h : ∀ n : Fin 26, Go.bits .or .u8 (65 + (n.val : Int)) 32 = 97 + (n.val : Int) := by decide
 have := h ⟨(c - 65).toNat, by omega⟩
 simp only [Int.toNat_of_nonneg (show 0 ≤ c - 65 by omega)] at this
 rw [show (65 : Int) + (c - 65) = c by omega, show (97 : Int) + (c - 65) = c + 32 by omega] at this
 exact this
theorem dns_Fold.in_ (c : UInt8) (h0 : 65 ≤ c.toNat) (h1 : c.toNat ≤ 90) : ((dns_Fold.b c).toNat : Int) = (c.toNat : Int) + 32 := by
 unfold dns_Fold.b
 rw [if_pos ⟨h0, h1⟩, UInt8.toNat_ofNat']
 omega
theorem dns_Fold.out_ (c : UInt8) (h : ¬ (65 ≤ c.toNat ∧ c.toNat ≤ 90)) : dns_Fold.b c = c := by
 unfold dns_Fold.b
 rw [if_neg h]
theorem dns_Fold.frozen_ (w : World) (e : TypeId) (s : ByteArray) (j : Nat) (hj : j < s.size) : (Lib.bytesWorld w e s).frozen? ⟨w.heap.size, j, none⟩ = false := by
 have h := Lib.bytesWorld_at_new w e s
 have hl : s.size ≤ (Lib.bytesCells w e s).size := by
  have hd : s.data.size = s.size := rfl
  simp [Lib.bytesCells] <;> omega
 simp [World.frozen?, h]
 try omega
theorem dns_Fold.below_ (w : World) (e : TypeId) (s : ByteArray) : Below w.heap.size w (Lib.bytesWorld w e s) :=
 ⟨rfl, rfl, rfl, by rw [Lib.bytesWorld_size]; omega, fun i hi => Lib.bytesWorld_at_old w e s i hi⟩
set_option maxHeartbeats 8000000 in
set_option maxRecDepth 100000 in
theorem dns_Fold.calls (a0 : ByteArray) (r : ByteArray) (w : World) (h : dns_Fold.f a0 = some r) :
  Calls Tryd.prog 19 #[.string a0] w fun e w' => e = .returned (.string r) ∧ Below w.heap.size w w' := by
 have hmx : a0.size ≤ 9223372036854775807 := by
  by_cases hx : a0.size ≤ 9223372036854775807
  ·exact hx
  ·rw [dns_Fold.f, if_neg hx] at h; cases h
 rw [dns_Fold.f, if_pos hmx] at h
 have H := Aside0.mk h
 clear h
 have hcv := fun (W : World) => Lib.run_convert_string_bytes (P := Tryd.prog) W 9 63 5 a0 Tryd.underlying9 Tryd.underlying63 Tryd.underlying5
 have hsz : a0.data.toList.length = a0.size := data_length a0
 have HSZ := Aside0.mk hsz
 clear hsz
 go_enter Tryd.func19, Tryd.ntmps19
 go_wp2
 clear hcv
 have hc0 := am_ (fun j (hj : j < a0.size) => Lib.bytesWorld_cell w 5 a0 j hj)
 have hf0 := am_ (fun j (hj : j < a0.size) => dns_Fold.frozen_ w 5 a0 j hj)
 have hb0 := am_ (dns_Fold.below_ w 5 a0)
 generalize Lib.bytesWorld w 5 a0 = W1 at hc0 hf0 hb0 ⊢
 generalize grownCap w a0.size 0 5 = cp
 go_loopw [10] (fun i wr => ∃ k : Nat, k ≤ a0.size ∧ i = .int .i64 k ∧ Aside0 (Below w.heap.size w wr) ∧ Aside0 (∀ j, j < a0.size → wr.cell? ⟨w.heap.size, j, none⟩ = some (.int .u8 (dns_Fold.at_ a0 k j))) ∧ Aside0 (∀ j, j < a0.size → wr.frozen? ⟨w.heap.size, j, none⟩ = false)) (fun i _ => a0.size - (intOf i).toNat)
 case atStart => exact ⟨0, Nat.zero_le _, rfl, hb0, ⟨fun j hj => by rw [hc0.out j hj]; unfold dns_Fold.at_; rw [if_neg (by omega)]⟩, hf0⟩
 case round =>
  clear hb0 hc0 hf0
  obtain ⟨k, hk, rfl, hb, hc, hf⟩ := hrel
  by_cases hlt : k < a0.size
  ·have hck := hc.out k hlt
   have hfk := hf.out k hlt
   have hwb := hb.out.size
   have hat : dns_Fold.at_ a0 k k = ((a0.data.toList.getD k 0).toNat : Int) := by unfold dns_Fold.at_; rw [if_neg (by omega)]
   rw [hat] at hck
   clear hat
   have hn := (a0.data.toList.getD k 0).toNat_lt
   have hst : ∀ j, j ≠ k → dns_Fold.at_ a0 (k + 1) j = dns_Fold.at_ a0 k j := by
    intro j hj
    unfold dns_Fold.at_
    by_cases h1 : j < k
    ·rw [if_pos h1, if_pos (by omega)]
    ·rw [if_neg h1, if_neg (by omega)]
   have HST := Aside0.mk hst
   have hsk : dns_Fold.at_ a0 (k + 1) k = ((dns_Fold.b (a0.data.toList.getD k 0)).toNat : Int) := by unfold dns_Fold.at_; rw [if_pos (by omega)]
   have HSK := Aside0.mk hsk
   clear hst hsk
   have hltz : (k : Int) < (a0.size : Int) := by omega
   have HIN := am_ (dns_Fold.in_ (a0.data.toList.getD k 0))
   have HOUT := am_ (dns_Fold.out_ (a0.data.toList.getD k 0))
   generalize a0.data.toList.getD k 0 = c at hck hn HSK HIN HOUT
   by_cases h1 : 65 ≤ c.toNat
   ·have b1 : decide (65 ≤ (c.toNat : Int)) = true := decide_eq_true (by omega)
    by_cases h2 : c.toNat ≤ 90
    ·have b2 : decide ((c.toNat : Int) ≤ 90) = true := decide_eq_true (by omega)
     have hor := dns_Fold.bits_or (c.toNat : Int) (by omega) (by omega)
     rw [HIN.out h1 h2] at HSK
     clear HIN HOUT h1 h2
     go_wp2
     go_roundw
     case rel =>
      refine ⟨k + 1, by omega, by go_num, ⟨hb.out.setCell (p := ⟨w.heap.size, k, none⟩) (Nat.le_refl _) _⟩, ⟨fun j hj => ?_⟩, ⟨fun j hj => by rw [World.frozen?_setCell]; exact hf.out j hj⟩⟩
      by_cases hjk : j = k
      ·subst hjk
       rw [HSK.out]
       exact World.cell?_setCell_same _ _ _ (hc.out j hj)
      ·rw [HST.out j hjk, World.cell?_setCell_other _ _ _ _ (by intro h; injection h with _ h _; exact hjk h.symm)]
       exact hc.out j hj
     case measure => simp [intOf]; omega
    ·have b2 : decide ((c.toNat : Int) ≤ 90) = false := decide_eq_false (by omega)
     rw [HOUT.out (by omega)] at HSK
     clear HIN HOUT h1 h2
     go_wp2
     go_roundw
     case rel =>
      refine ⟨k + 1, by omega, by go_num, hb, ⟨fun j hj => ?_⟩, hf⟩
      by_cases hjk : j = k
      ·subst hjk
       rw [HSK.out]
       exact hck
      ·rw [HST.out j hjk]; exact hc.out j hj
     case measure => simp [intOf]; omega
   ·have b1 : decide (65 ≤ (c.toNat : Int)) = false := decide_eq_false (by omega)
    rw [HOUT.out (by omega)] at HSK
    clear HIN HOUT h1
    go_wp2
    go_roundw
    case rel =>
     refine ⟨k + 1, by omega, by go_num, hb, ⟨fun j hj => ?_⟩, hf⟩
     by_cases hjk : j = k
     ·subst hjk
      rw [HSK.out]
      exact hck
     ·rw [HST.out j hjk]; exact hc.out j hj
    case measure => simp [intOf]; omega
  ·have hge : decide ((k : Int) < (a0.size : Int)) = false := decide_eq_false (by omega)
   obtain rfl : k = a0.size := by omega
   have hcv := fun dst hd => run_convert_bytes_arg (P := Tryd.prog) wr 63 5 Tryd.underlying63 Tryd.underlying5 w.heap.size 0 a0.size cp (a0.data.toList.map fun b => ((dns_Fold.b b).toNat : Int)) (by rw [List.length_map]; exact HSZ.out) (fun i hi => by
    rw [Nat.zero_add, hc.out i hi]
    unfold dns_Fold.at_
    rw [if_pos hi]
    have hl : i < a0.data.toList.length := by rw [HSZ.out]; exact hi
    simp [List.getD, List.getElem?_eq_getElem hl]) dst hd
   have hcv2 := hcv 9 Tryd.underlying9
   clear hcv
   have hr : r = strOfNums (a0.data.toList.map fun b => ((dns_Fold.b b).toNat : Int)) := by
    have h := Option.some.inj H.out
    rw [← h]
    unfold strOfNums
    congr 2
    rw [List.map_map]
    refine List.map_congr_left fun b _ => ?_
    simp
   have HR := Aside0.mk hr
   clear hr H
   generalize strOfNums (a0.data.toList.map fun b => ((dns_Fold.b b).toNat : Int)) = rr at hcv2 HR
   obtain rfl := HR.out
   clear HR
   go_wp2
   go_ret
   exact ⟨rfl, hb.out⟩

/-! ### pairs_Same: function 11 -/
def pairs_Same.f (a0 : ByteArray) (a1 : ByteArray) : Option (Bool) := (dns_Fold.f a0).bind fun t141 => ((dns_Fold.f a1).bind fun t142 => (some (t141.toList == t142.toList)))
set_option maxHeartbeats 8000000 in
set_option maxRecDepth 100000 in
theorem pairs_Same.calls (a0 : ByteArray) (a1 : ByteArray) (r : Bool) (w : World) (h : pairs_Same.f a0 a1 = some r) :
  Calls Tryd.prog 11 #[.string a0, .string a1] w fun e w' => e = .returned (.bool r) ∧ Below w.heap.size w w' := by
 have HB := am_ (Below.refl w.heap.size w)
 have H : ((dns_Fold.f a0).bind fun t141 => ((dns_Fold.f a1).bind fun t142 => (some (t141.toList == t142.toList)))) = some r := h
 clear h
 replace H := Option.bind_eq_some_iff.mp H
 obtain ⟨t141, A30, H⟩ := H
 replace H : ((dns_Fold.f a1).bind fun t142 => (some (t141.toList == t142.toList))) = some r := H
 have A3 := Aside0.mk A30
 clear A30
 replace H := Option.bind_eq_some_iff.mp H
 obtain ⟨t142, A40, H⟩ := H
 replace H : (some (t141.toList == t142.toList)) = some r := H
 have A4 := Aside0.mk A40
 clear A40
 obtain rfl := Option.some.inj H
 go_enter Tryd.func11, Tryd.ntmps11
 go_wp2_with (first | ((with_reducible refine gate_callee (f := 19) rfl ?_); refine goesL_ (some 6) rfl rfl Tryd.func19 kr_ rfl #[.string a0] rfl rl_ ?_; (with_reducible refine (dns_Fold.calls a0 t141 _ A3.out).mono ?_); rintro e w5 ⟨rfl, hb⟩; refine ⟨_, rfl, ?_⟩; have n0_ := am_ (below_step (bel_ HB.out) hb); clear HB; have HB := n0_; clear n0_; (try clear hb); (try clear hb2); (try clear hk); (try clear hi)) | ((with_reducible refine gate_callee (f := 19) rfl ?_); refine goesL_ (some 8) rfl rfl Tryd.func19 kr_ rfl #[.string a1] rfl rl_ ?_; (with_reducible refine (dns_Fold.calls a1 t142 _ A4.out).mono ?_); rintro e w6 ⟨rfl, hb⟩; refine ⟨_, rfl, ?_⟩; have n0_ := am_ (below_step (bel_ HB.out) hb); clear HB; have HB := n0_; clear n0_; (try clear hb); (try clear hb2); (try clear hk); (try clear hi)))
 go_ret
 exact ⟨fi_, bel_ HB.out⟩

/-! ### api_Filter_20: function 20 -/
set_option maxHeartbeats 8000000 in
set_option maxRecDepth 100000 in
theorem api_Filter_20.calls (A0 : Option Addr) (c0 : Nat) (l0 : List (S27)) (w : World) (hr0 : Kd.C k27 w A0 l0.length l0) (p : S27 → Bool) (g : Nat) (lb : Array Value)
  (eg : ∀ args W, (callFunc g args).run Tryd.prog W = .ok (.enter g args) W) (hp : PredK Tryd.prog g lb k27 l0 p w) :
  Calls Tryd.prog 20 #[.slice A0 l0.length c0, .func (.func g) #[] lb] w fun e w' => e = .returned (.int .i64 (idxI p l0)) ∧ Below w.heap.size w w' := by
 have HR := Aside0.mk hr0
 have HP := Aside0.mk hp
 have hmx := hr0.2.1
 clear hr0 hp
 go_enter Tryd.func20, Tryd.ntmps20
 go_wp2
 go_loopg [5, 8] l0.length (fun gg _ s8 wr => ∃ kk : Nat, kk ≤ l0.length ∧ l0.length - kk ≤ gg ∧ s8 = .int .i64 kk ∧ Aside0 (Below w.heap.size w wr) ∧ Aside0 (∀ j : Nat, j < kk → p (rd_T27 l0 j) = false))
 case atStart => exact ⟨0, Nat.zero_le _, by omega, rfl, ⟨Below.refl _ w⟩, ⟨fun j hj => absurd hj (Nat.not_lt_zero _)⟩⟩
 case round =>
  obtain ⟨kk, hkk, hg, rfl, BW, AL⟩ := hrel
  by_cases hlt : kk < l0.length
  ·have p1 : (0 : Int) ≤ (kk : Int) := by omega
   have q1 : (kk : Int) < (l0.length : Int) := by omega
   obtain ⟨ad, ea, hx_0, hx_1, hx_2, hx_3, hx_4, hx_5, hx_6, hx_7⟩ := at_T27 HR.out (kk : Int) p1 q1
   cases ea
   replace hx_0 := (BW.out.cell (World.block_lt_of_cell? w _ hx_0)).trans hx_0
   replace hx_1 := (BW.out.cell (World.block_lt_of_cell? w _ hx_1)).trans hx_1
   replace hx_2 := (BW.out.cell (World.block_lt_of_cell? w _ hx_2)).trans hx_2
   replace hx_3 := (BW.out.cell (World.block_lt_of_cell? w _ hx_3)).trans hx_3
   replace hx_4 := (BW.out.cell (World.block_lt_of_cell? w _ hx_4)).trans hx_4
   replace hx_5 := (BW.out.cell (World.block_lt_of_cell? w _ hx_5)).trans hx_5
   replace hx_6 := (BW.out.cell (World.block_lt_of_cell? w _ hx_6)).trans hx_6
   replace hx_7 := (BW.out.cell (World.block_lt_of_cell? w _ hx_7)).trans hx_7
   have hmem : rd_T27 l0 (kk : Int) ∈ l0 := by
    unfold rd_T27
    rw [Int.toNat_natCast, getD_at _ _ hlt]
    exact List.getElem_mem hlt
   have hcall := HP.out wr (rd_T27 l0 (kk : Int)) [.int .i64 (rd_T27 l0 (kk : Int)).f0, .string (rd_T27 l0 (kk : Int)).f1, .string (rd_T27 l0 (kk : Int)).f2, .string (rd_T27 l0 (kk : Int)).f3, .int .i64 (rd_T27 l0 (kk : Int)).f4, .string (rd_T27 l0 (kk : Int)).f5, .bool (rd_T27 l0 (kk : Int)).f6, .int .i64 (rd_T27 l0 (kk : Int)).f7] hmem BW.out (k27_mk _ _)
   clear hmem
   simp only [Int.toNat_natCast] at hx_0 hx_1 hx_2 hx_3 hx_4 hx_5 hx_6 hx_7
   generalize hy : rd_T27 l0 (kk : Int) = y at *
   have HY := Aside0.mk hy
   clear hy
   replace p1 := eq_true p1
   replace q1 := eq_true q1
   cases hq : p y with
   | true =>
    rw [hq] at hcall
    have HQ := Aside0.mk hq
    clear hq
    have HC := Aside0.mk hcall
    clear hcall
    go_wp2_with (go_at_fn g; refine HC.out.mono ?_; rintro e w' ⟨rfl, hb'⟩; have HB' := Aside0.mk hb'; clear hb')
    go_ret
    refine ⟨?_, HB'.out⟩
    rw [idxI_hit p l0 kk hlt (fun j hj => by have := AL.out j hj; unfold rd_T27 at this; rwa [Int.toNat_natCast, getD_at _ _ (by omega)] at this) (by have := HY.out; unfold rd_T27 at this; rw [Int.toNat_natCast, getD_at _ _ hlt] at this; rw [this]; exact HQ.out)]
    rfl
   | false =>
    rw [hq] at hcall
    have HQ := Aside0.mk hq
    clear hq
    have HC := Aside0.mk hcall
    clear hcall
    go_wp2_with (go_at_fn g; refine HC.out.mono ?_; rintro e w' ⟨rfl, hb'⟩; have HB' := Aside0.mk hb'; clear hb')
    go_roundg (l0.length - (kk + 1))
    case measure => omega
    case rel =>
     refine ⟨kk + 1, by omega, by omega, by go_num, HB', ⟨fun j hj => ?_⟩⟩
     by_cases e : j = kk
     ·subst e
      rw [HY.out]; exact HQ.out
     ·exact AL.out j (by omega)
  ·have q1 : ¬ (kk : Int) < (l0.length : Int) := by omega
   obtain rfl : kk = l0.length := by omega
   go_wp2
   go_ret
   refine ⟨?_, BW.out⟩
   rw [idxI_miss p l0 (fun j hj => by have := AL.out j hj; unfold rd_T27 at this; rwa [Int.toNat_natCast, getD_at _ _ hj] at this)]
   rfl

/-! ### filters_ContainsFunc: function 12 -/
theorem idxI_any {α : Type} (p : α → Bool) (l : List α) : decide (idxI p l ≥ 0) = l.any p := by
 unfold idxI
 by_cases h : l.any p = true
 ·rw [if_pos h, h]; exact decide_eq_true (by omega)
 ·rw [if_neg h]
  have : l.any p = false := by simpa using h
  rw [this]; rfl
set_option maxHeartbeats 4000000 in
theorem filters_ContainsFunc_at (A0 : Option Addr) (c0 : Nat) (l0 : List (S27)) (w : World) (hr0 : Kd.C k27 w A0 l0.length l0) (p : S27 → Bool) (g : Nat) (lb : Array Value)
  (eg : ∀ args W, (callFunc g args).run Tryd.prog W = .ok (.enter g args) W) (hp : PredK Tryd.prog g lb k27 l0 p w) :
  Calls Tryd.prog 12 #[.slice A0 l0.length c0, .func (.func g) #[] lb] w fun e w' => e = .returned (.bool (l0.any p)) ∧ Below w.heap.size w w' := by
 have HI := am_ (api_Filter_20.calls A0 c0 l0 w hr0 p g lb eg hp)
 have HA := am_ (idxI_any p l0)
 clear hr0 hp eg
 generalize idxI p l0 = x at HI HA
 go_enter Tryd.func12, Tryd.ntmps12
 go_wp2_with (go_at_call 20; refine HI.out.mono ?_; rintro e w' ⟨rfl, hb'⟩; have HB' := Aside0.mk hb'; clear hb')
 go_ret
 refine ⟨?_, HB'.out⟩
 rw [← HA.out]
 rfl
/-! ### filter_All: function 5 -/
def likeF (y x : S27) : Option Bool :=
 (filter_turner.f x.f0 x.f1 x.f2 x.f3 x.f4 x.f5 x.f6 x.f7).bind fun a => (filter_turner.f y.f0 y.f1 y.f2 y.f3 y.f4 y.f5 y.f6 y.f7).bind fun b =>
  if (a && b) = true then some true else if x.f0 = y.f0 then pairs_Same.f x.f1 y.f1 else some false
def likeAny (y : S27) (l : List (S27)) : Option Bool := if (l.all fun x => (likeF y x).isSome) = true then some (l.any fun x => likeF y x == some true) else none
def filter_All.go (k : Nat) (pre : List (S27)) : List (S27) → Option Bool
 | [] => some (decide ((pre.length : Int) ≤ 8))
 | y :: r => (filter_May.f k y.f0 y.f1 y.f2 y.f3 y.f4 y.f5 y.f6 y.f7).bind fun a => if a = true then (likeAny y pre).bind fun b => if b = true then some false else filter_All.go k (pre ++ [y]) r else some false
def filter_All.f (k : Nat) (l0 : List (S27)) : Option Bool := filter_All.go k [] l0
theorem filter_All.go_mono : ∀ r pre k, LeO (filter_All.go k pre r) (filter_All.go (k + 1) pre r) := by
 intro r
 induction r with
 | nil => exact fun _ _ => LeO.refl _
 | cons y r ih =>
  intro pre k
  unfold filter_All.go
  exact LeO.bind (filter_May.mono _ _ _ _ _ _ _ _ _) (fun _ => LeO.ite (LeO.bind (LeO.refl _) (fun _ => LeO.ite (LeO.refl _) (ih _ k))) (LeO.refl _))
theorem filter_All.mono : ∀ a0 k, LeO (filter_All.f k a0) (filter_All.f (k + 1) a0) := fun a0 k => filter_All.go_mono a0 [] k
set_option maxHeartbeats 8000000 in
set_option maxRecDepth 100000 in
theorem like_pred (pb : Nat) (y : S27) (w : World) (l : List (S27)) (hn : w.heap[pb]? = some (.cells #[.int .i64 y.f0, .string y.f1, .string y.f2, .string y.f3, .int .i64 y.f4, .string y.f5, .bool y.f6, .int .i64 y.f7] 27 (0, 0))) (hq : ∀ x ∈ l, (likeF y x).isSome = true) :
  PredK Tryd.prog 9 #[.pointer (some ⟨pb, 0, none⟩)] k27 l (fun x => likeF y x == some true) w := by
 have hu27 := Tryd.underlying27
 intro W x cs hx hb hk
 obtain rfl := k27_open hk
 obtain ⟨b, hqx⟩ := Option.isSome_iff_exists.1 (hq x hx)
 simp only [hqx]
 rw [show (some b == some true) = b by cases b <;> rfl]
 rw [likeF] at hqx
 obtain ⟨a, ha, hqx⟩ := Option.bind_eq_some_iff.1 hqx
 obtain ⟨a2, ha2, hqx⟩ := Option.bind_eq_some_iff.1 hqx
 have BP := am_ (blk_below hn hb)
 have HB := am_ hb
 have HL := am_ hqx
 have HA := am_ ha
 have HA2 := am_ ha2
 clear hn hq hx hk hb hqx ha ha2
 show Calls Tryd.prog 9 #[.agg #[.int .i64 x.f0, .string x.f1, .string x.f2, .string x.f3, .int .i64 x.f4, .string x.f5, .bool x.f6, .int .i64 x.f7], .pointer (some ⟨pb, 0, none⟩)] W fun e w' => e = .returned (.bool b) ∧ Below w.heap.size w w'
 go_enter Tryd.func9, Tryd.ntmps9
 go_upto_region 1 with (first | ((with_reducible refine gate_dst (N := 2) rfl ?_); refine box_event ?hg (N := 2) ?hd (cs := #[.int .i64 x.f0, .string x.f1, .string x.f2, .string x.f3, .int .i64 x.f4, .string x.f5, .bool x.f6, .int .i64 x.f7]) (t := 27) ?hr ?_; (case hd => rfl); (case hg => rfl); (case hr => first | (go_simp; done) | (go_simp; rfl)); intro gb hg w3 hbox hb3; have HB3 := am_ (below_step HB.out hb3); have BX := am_ hbox; have BP3 := am_ (blk_below BP.out hb3); clear HB BP hb3 hbox hg))
 have hca_0 : w3.cell? ⟨gb, 0, none⟩ = some (.int .i64 x.f0) := (blk_cell BX.out 0).trans rfl
 have hca_1 : w3.cell? ⟨gb, 1, none⟩ = some (.string x.f1) := (blk_cell BX.out 1).trans rfl
 have hca_2 : w3.cell? ⟨gb, 2, none⟩ = some (.string x.f2) := (blk_cell BX.out 2).trans rfl
 have hca_3 : w3.cell? ⟨gb, 3, none⟩ = some (.string x.f3) := (blk_cell BX.out 3).trans rfl
 have hca_4 : w3.cell? ⟨gb, 4, none⟩ = some (.int .i64 x.f4) := (blk_cell BX.out 4).trans rfl
 have hca_5 : w3.cell? ⟨gb, 5, none⟩ = some (.string x.f5) := (blk_cell BX.out 5).trans rfl
 have hca_6 : w3.cell? ⟨gb, 6, none⟩ = some (.bool x.f6) := (blk_cell BX.out 6).trans rfl
 have hca_7 : w3.cell? ⟨gb, 7, none⟩ = some (.int .i64 x.f7) := (blk_cell BX.out 7).trans rfl
 have hfa_0 := blk_frozen BX.out 0
 have hfa_1 := blk_frozen BX.out 1
 have hfa_2 := blk_frozen BX.out 2
 have hfa_3 := blk_frozen BX.out 3
 have hfa_4 := blk_frozen BX.out 4
 have hfa_5 := blk_frozen BX.out 5
 have hfa_6 := blk_frozen BX.out 6
 have hfa_7 := blk_frozen BX.out 7
 have hcb_0 : w3.cell? ⟨pb, 0, none⟩ = some (.int .i64 y.f0) := (blk_cell BP3.out 0).trans rfl
 have hcb_1 : w3.cell? ⟨pb, 1, none⟩ = some (.string y.f1) := (blk_cell BP3.out 1).trans rfl
 have hcb_2 : w3.cell? ⟨pb, 2, none⟩ = some (.string y.f2) := (blk_cell BP3.out 2).trans rfl
 have hcb_3 : w3.cell? ⟨pb, 3, none⟩ = some (.string y.f3) := (blk_cell BP3.out 3).trans rfl
 have hcb_4 : w3.cell? ⟨pb, 4, none⟩ = some (.int .i64 y.f4) := (blk_cell BP3.out 4).trans rfl
 have hcb_5 : w3.cell? ⟨pb, 5, none⟩ = some (.string y.f5) := (blk_cell BP3.out 5).trans rfl
 have hcb_6 : w3.cell? ⟨pb, 6, none⟩ = some (.bool y.f6) := (blk_cell BP3.out 6).trans rfl
 have hcb_7 : w3.cell? ⟨pb, 7, none⟩ = some (.int .i64 y.f7) := (blk_cell BP3.out 7).trans rfl
 have hfb_0 := blk_frozen BP3.out 0
 have hfb_1 := blk_frozen BP3.out 1
 have hfb_2 := blk_frozen BP3.out 2
 have hfb_3 := blk_frozen BP3.out 3
 have hfb_4 := blk_frozen BP3.out 4
 have hfb_5 := blk_frozen BP3.out 5
 have hfb_6 := blk_frozen BP3.out 6
 have hfb_7 := blk_frozen BP3.out 7
 go_wp2_with fail
 refine (filter_turner.calls x.f0 x.f1 x.f2 x.f3 x.f4 x.f5 x.f6 x.f7 a _ HA.out).mono ?_
 rintro e w4 ⟨rfl, hb4⟩
 have HB4 := am_ (below_step HB3.out hb4)
 have BX4 := am_ (blk_below BX.out hb4)
 have BP4 := am_ (blk_below BP3.out hb4)
 clear hca_0 hfa_0 hca_1 hfa_1 hca_2 hfa_2 hca_3 hfa_3 hca_4 hfa_4 hca_5 hfa_5 hca_6 hfa_6 hca_7 hfa_7 hcb_0 hfb_0 hcb_1 hfb_1 hcb_2 hfb_2 hcb_3 hfb_3 hcb_4 hfb_4 hcb_5 hfb_5 hcb_6 hfb_6 hcb_7 hfb_7 HB3 BX BP3 hb4
 have hcc_0 : w4.cell? ⟨gb, 0, none⟩ = some (.int .i64 x.f0) := (blk_cell BX4.out 0).trans rfl
 have hcc_1 : w4.cell? ⟨gb, 1, none⟩ = some (.string x.f1) := (blk_cell BX4.out 1).trans rfl
 have hcc_2 : w4.cell? ⟨gb, 2, none⟩ = some (.string x.f2) := (blk_cell BX4.out 2).trans rfl
 have hcc_3 : w4.cell? ⟨gb, 3, none⟩ = some (.string x.f3) := (blk_cell BX4.out 3).trans rfl
 have hcc_4 : w4.cell? ⟨gb, 4, none⟩ = some (.int .i64 x.f4) := (blk_cell BX4.out 4).trans rfl
 have hcc_5 : w4.cell? ⟨gb, 5, none⟩ = some (.string x.f5) := (blk_cell BX4.out 5).trans rfl
 have hcc_6 : w4.cell? ⟨gb, 6, none⟩ = some (.bool x.f6) := (blk_cell BX4.out 6).trans rfl
 have hcc_7 : w4.cell? ⟨gb, 7, none⟩ = some (.int .i64 x.f7) := (blk_cell BX4.out 7).trans rfl
 have hfc_0 := blk_frozen BX4.out 0
 have hfc_1 := blk_frozen BX4.out 1
 have hfc_2 := blk_frozen BX4.out 2
 have hfc_3 := blk_frozen BX4.out 3
 have hfc_4 := blk_frozen BX4.out 4
 have hfc_5 := blk_frozen BX4.out 5
 have hfc_6 := blk_frozen BX4.out 6
 have hfc_7 := blk_frozen BX4.out 7
 have hcd_0 : w4.cell? ⟨pb, 0, none⟩ = some (.int .i64 y.f0) := (blk_cell BP4.out 0).trans rfl
 have hcd_1 : w4.cell? ⟨pb, 1, none⟩ = some (.string y.f1) := (blk_cell BP4.out 1).trans rfl
 have hcd_2 : w4.cell? ⟨pb, 2, none⟩ = some (.string y.f2) := (blk_cell BP4.out 2).trans rfl
 have hcd_3 : w4.cell? ⟨pb, 3, none⟩ = some (.string y.f3) := (blk_cell BP4.out 3).trans rfl
 have hcd_4 : w4.cell? ⟨pb, 4, none⟩ = some (.int .i64 y.f4) := (blk_cell BP4.out 4).trans rfl
 have hcd_5 : w4.cell? ⟨pb, 5, none⟩ = some (.string y.f5) := (blk_cell BP4.out 5).trans rfl
 have hcd_6 : w4.cell? ⟨pb, 6, none⟩ = some (.bool y.f6) := (blk_cell BP4.out 6).trans rfl
 have hcd_7 : w4.cell? ⟨pb, 7, none⟩ = some (.int .i64 y.f7) := (blk_cell BP4.out 7).trans rfl
 have hfd_0 := blk_frozen BP4.out 0
 have hfd_1 := blk_frozen BP4.out 1
 have hfd_2 := blk_frozen BP4.out 2
 have hfd_3 := blk_frozen BP4.out 3
 have hfd_4 := blk_frozen BP4.out 4
 have hfd_5 := blk_frozen BP4.out 5
 have hfd_6 := blk_frozen BP4.out 6
 have hfd_7 := blk_frozen BP4.out 7
 cases a with
 | true =>
  go_wp2_with fail
  refine (filter_turner.calls y.f0 y.f1 y.f2 y.f3 y.f4 y.f5 y.f6 y.f7 a2 _ HA2.out).mono ?_
  rintro e w5 ⟨rfl, hb5⟩
  have HB5 := am_ (below_step HB4.out hb5)
  have BX5 := am_ (blk_below BX4.out hb5)
  have BP5 := am_ (blk_below BP4.out hb5)
  clear hcc_0 hfc_0 hcc_1 hfc_1 hcc_2 hfc_2 hcc_3 hfc_3 hcc_4 hfc_4 hcc_5 hfc_5 hcc_6 hfc_6 hcc_7 hfc_7 hcd_0 hfd_0 hcd_1 hfd_1 hcd_2 hfd_2 hcd_3 hfd_3 hcd_4 hfd_4 hcd_5 hfd_5 hcd_6 hfd_6 hcd_7 hfd_7 HB4 BX4 BP4 hb5
  have hce_0 : w5.cell? ⟨gb, 0, none⟩ = some (.int .i64 x.f0) := (blk_cell BX5.out 0).trans rfl
  have hce_1 : w5.cell? ⟨gb, 1, none⟩ = some (.string x.f1) := (blk_cell BX5.out 1).trans rfl
  have hce_2 : w5.cell? ⟨gb, 2, none⟩ = some (.string x.f2) := (blk_cell BX5.out 2).trans rfl
  have hce_3 : w5.cell? ⟨gb, 3, none⟩ = some (.string x.f3) := (blk_cell BX5.out 3).trans rfl
  have hce_4 : w5.cell? ⟨gb, 4, none⟩ = some (.int .i64 x.f4) := (blk_cell BX5.out 4).trans rfl
  have hce_5 : w5.cell? ⟨gb, 5, none⟩ = some (.string x.f5) := (blk_cell BX5.out 5).trans rfl
  have hce_6 : w5.cell? ⟨gb, 6, none⟩ = some (.bool x.f6) := (blk_cell BX5.out 6).trans rfl
  have hce_7 : w5.cell? ⟨gb, 7, none⟩ = some (.int .i64 x.f7) := (blk_cell BX5.out 7).trans rfl
  have hfe_0 := blk_frozen BX5.out 0
  have hfe_1 := blk_frozen BX5.out 1
  have hfe_2 := blk_frozen BX5.out 2
  have hfe_3 := blk_frozen BX5.out 3
  have hfe_4 := blk_frozen BX5.out 4
  have hfe_5 := blk_frozen BX5.out 5
  have hfe_6 := blk_frozen BX5.out 6
  have hfe_7 := blk_frozen BX5.out 7
  have hcf_0 : w5.cell? ⟨pb, 0, none⟩ = some (.int .i64 y.f0) := (blk_cell BP5.out 0).trans rfl
  have hcf_1 : w5.cell? ⟨pb, 1, none⟩ = some (.string y.f1) := (blk_cell BP5.out 1).trans rfl
  have hcf_2 : w5.cell? ⟨pb, 2, none⟩ = some (.string y.f2) := (blk_cell BP5.out 2).trans rfl
  have hcf_3 : w5.cell? ⟨pb, 3, none⟩ = some (.string y.f3) := (blk_cell BP5.out 3).trans rfl
  have hcf_4 : w5.cell? ⟨pb, 4, none⟩ = some (.int .i64 y.f4) := (blk_cell BP5.out 4).trans rfl
  have hcf_5 : w5.cell? ⟨pb, 5, none⟩ = some (.string y.f5) := (blk_cell BP5.out 5).trans rfl
  have hcf_6 : w5.cell? ⟨pb, 6, none⟩ = some (.bool y.f6) := (blk_cell BP5.out 6).trans rfl
  have hcf_7 : w5.cell? ⟨pb, 7, none⟩ = some (.int .i64 y.f7) := (blk_cell BP5.out 7).trans rfl
  have hff_0 := blk_frozen BP5.out 0
  have hff_1 := blk_frozen BP5.out 1
  have hff_2 := blk_frozen BP5.out 2
  have hff_3 := blk_frozen BP5.out 3
  have hff_4 := blk_frozen BP5.out 4
  have hff_5 := blk_frozen BP5.out 5
  have hff_6 := blk_frozen BP5.out 6
  have hff_7 := blk_frozen BP5.out 7
  cases a2 with
  | true =>
   have hL := HL.out
   rw [if_pos (show (true && true) = true from rfl)] at hL
   obtain rfl := Option.some.inj hL
   go_wp2
   go_ret
   exact ⟨fi_, HB5.out⟩
  | false =>
   have hL := HL.out
   rw [if_neg (show ¬ (true && false) = true by decide)] at hL
   by_cases hk : x.f0 = y.f0
   ·rw [if_pos hk] at hL
    have c0 : (x.f0 == y.f0) = true := beq_iff_eq.mpr hk
    have HL2 := am_ hL
    clear hL hk
    go_wp2_with fail
    refine (pairs_Same.calls x.f1 y.f1 b _ HL2.out).mono ?_
    rintro e w6 ⟨rfl, hb6⟩
    have HB6 := am_ (below_step HB5.out hb6)
    clear hb6
    go_wp2
    go_ret
    exact ⟨fi_, HB6.out⟩
   ·rw [if_neg hk] at hL
    obtain rfl := Option.some.inj hL
    have c0 : (x.f0 == y.f0) = false := beq_eq_false_iff_ne.mpr hk
    clear hL
    go_wp2
    go_ret
    exact ⟨fi_, HB5.out⟩
 | false =>
  have hL := HL.out
  rw [if_neg (show ¬ (false && a2) = true by simp)] at hL
  by_cases hk : x.f0 = y.f0
  ·rw [if_pos hk] at hL
   have c0 : (x.f0 == y.f0) = true := beq_iff_eq.mpr hk
   have HL2 := am_ hL
   clear hL hk
   go_wp2_with fail
   refine (pairs_Same.calls x.f1 y.f1 b _ HL2.out).mono ?_
   rintro e w6 ⟨rfl, hb6⟩
   have HB6 := am_ (below_step HB4.out hb6)
   clear hb6
   go_wp2
   go_ret
   exact ⟨fi_, HB6.out⟩
  ·rw [if_neg hk] at hL
   obtain rfl := Option.some.inj hL
   have c0 : (x.f0 == y.f0) = false := beq_eq_false_iff_ne.mpr hk
   clear hL
   go_wp2
   go_ret
   exact ⟨fi_, HB4.out⟩
theorem C_takeF {α : Type} {d : Kd α} {w : World} {A : Option Addr} {l : List α} (h : Kd.C d w A l.length l) (i : Nat) : Kd.C d w A (l.take i).length (l.take i) := by
 obtain ⟨h1, h2, h3⟩ := h
 refine ⟨rfl, by rw [List.length_take]; omega, fun h0 => ?_⟩
 obtain ⟨ad, e, h4⟩ := h3 (by rw [List.length_take] at h0; omega)
 refine ⟨ad, e, fun j p hj => h4 j p ?_⟩
 rw [List.getElem?_take] at hj
 split at hj
 ·exact hj
 ·cases hj
set_option maxHeartbeats 8000000 in
set_option maxRecDepth 100000 in
theorem filter_All.calls (k : Nat) (A0 : Option Addr) (c0 : Nat) (l0 : List (S27)) (r : Bool) (w : World) (hr0 : Kd.C k27 w A0 l0.length l0) (hc0 : l0.length ≤ c0) (h : filter_All.f k l0 = some r) :
 Calls Tryd.prog 5 #[.slice A0 l0.length c0] w fun e w' => e = .returned (.bool r) ∧ Below w.heap.size w w' := by
 have EG1 : Aside0 (∀ args W, (callFunc 9 args).run Tryd.prog W = .ok (.enter 9 args) W) := am_ (enters_of Tryd.func9 kr_ rfl)
 have HR := am_ hr0
 have H0 := am_ (show filter_All.go k [] l0 = some r from h)
 have hmx := hr0.2.1
 have hu27 := Tryd.underlying27
 clear hr0 h
 go_enter Tryd.func5, Tryd.ntmps5
 go_wp2
 go_loopg [8] l0.length (fun gg s8 wr => ∃ kk : Nat, kk ≤ l0.length ∧ l0.length - kk ≤ gg ∧ s8 = .int .i64 kk ∧ Aside0 (Below w.heap.size w wr) ∧ Aside0 (filter_All.go k (l0.take kk) (l0.drop kk) = some r))
 case atStart => exact ⟨0, Nat.zero_le _, by omega, rfl, ⟨Below.refl _ w⟩, ⟨by rw [List.take_zero, List.drop_zero]; exact H0.out⟩⟩
 case round =>
  obtain ⟨kk, hkk, hg, rfl, BW, HK⟩ := hrel
  clear H0
  by_cases hlt : kk < l0.length
  ·have p1 : (0 : Int) ≤ (kk : Int) := by omega
   have q1 : (kk : Int) < (l0.length : Int) := by omega
   have q2 : (kk : Int) ≤ (l0.length : Int) := by omega
   have q3 : (kk : Int) ≤ (c0 : Int) := by omega
   obtain ⟨ad, ea, hx_0, hx_1, hx_2, hx_3, hx_4, hx_5, hx_6, hx_7⟩ := at_T27 HR.out (kk : Int) p1 q1
   cases ea
   replace hx_0 := (BW.out.cell (World.block_lt_of_cell? w _ hx_0)).trans hx_0
   replace hx_1 := (BW.out.cell (World.block_lt_of_cell? w _ hx_1)).trans hx_1
   replace hx_2 := (BW.out.cell (World.block_lt_of_cell? w _ hx_2)).trans hx_2
   replace hx_3 := (BW.out.cell (World.block_lt_of_cell? w _ hx_3)).trans hx_3
   replace hx_4 := (BW.out.cell (World.block_lt_of_cell? w _ hx_4)).trans hx_4
   replace hx_5 := (BW.out.cell (World.block_lt_of_cell? w _ hx_5)).trans hx_5
   replace hx_6 := (BW.out.cell (World.block_lt_of_cell? w _ hx_6)).trans hx_6
   replace hx_7 := (BW.out.cell (World.block_lt_of_cell? w _ hx_7)).trans hx_7
   simp only [Int.toNat_natCast] at hx_0 hx_1 hx_2 hx_3 hx_4 hx_5 hx_6 hx_7
   have hy0 : rd_T27 l0 (kk : Int) = l0[kk]'hlt := by
    unfold rd_T27
    rw [Int.toNat_natCast, getD_at _ _ hlt]
   have hdk : l0.drop kk = rd_T27 l0 (kk : Int) :: l0.drop (kk + 1) := by rw [hy0]; exact List.drop_eq_getElem_cons hlt
   have htk : l0.take (kk + 1) = l0.take kk ++ [rd_T27 l0 (kk : Int)] := by rw [hy0]; exact List.take_succ_eq_append_getElem hlt
   have hk1 := HK.out
   rw [hdk] at hk1
   have htl : (l0.take kk).length = kk := by rw [List.length_take]; omega
   have HTK := am_ htk
   have HTL := am_ htl
   clear hy0 hdk HK htk htl
   generalize rd_T27 l0 (kk : Int) = y at *
   rw [filter_All.go] at hk1
   obtain ⟨a, ha, hk2⟩ := Option.bind_eq_some_iff.1 hk1
   have HA := am_ ha
   have HK2 := am_ hk2
   clear hk1 ha hk2
   replace p1 := eq_true p1
   replace q1 := eq_true q1
   replace q2 := eq_true q2
   replace q3 := eq_true q3
   go_upto_region 4 with (first | ((with_reducible refine gate_dst (N := 4) rfl ?_); refine box_event ?hg (N := 4) ?hd (cs := #[.int .i64 0, .string ⟨#[]⟩, .string ⟨#[]⟩, .string ⟨#[]⟩, .int .i64 0, .string ⟨#[]⟩, .bool false, .int .i64 0]) (t := 27) ?hr ?_; (case hd => rfl); (case hg => rfl); (case hr => first | (go_simp; done) | (go_simp; rfl)); intro gb hg3 w3 hbox hb3; have hgw := am_ (show wr.heap.size ≤ gb from hg3 ▸ Nat.le_refl _); have BX := am_ hbox; have HB3 := am_ hb3; clear hb3 hbox hg3; replace hx_0 := (HB3.out.cell (World.block_lt_of_cell? _ _ hx_0)).trans hx_0; replace hx_1 := (HB3.out.cell (World.block_lt_of_cell? _ _ hx_1)).trans hx_1; replace hx_2 := (HB3.out.cell (World.block_lt_of_cell? _ _ hx_2)).trans hx_2; replace hx_3 := (HB3.out.cell (World.block_lt_of_cell? _ _ hx_3)).trans hx_3; replace hx_4 := (HB3.out.cell (World.block_lt_of_cell? _ _ hx_4)).trans hx_4; replace hx_5 := (HB3.out.cell (World.block_lt_of_cell? _ _ hx_5)).trans hx_5; replace hx_6 := (HB3.out.cell (World.block_lt_of_cell? _ _ hx_6)).trans hx_6; replace hx_7 := (HB3.out.cell (World.block_lt_of_cell? _ _ hx_7)).trans hx_7; have hcz_0 : w3.cell? ⟨gb, 0, none⟩ = some (.int .i64 0) := (blk_cell BX.out 0).trans rfl; have hfz_0 := blk_frozen BX.out 0; have hcz_1 : w3.cell? ⟨gb, 1, none⟩ = some (.string ⟨#[]⟩) := (blk_cell BX.out 1).trans rfl; have hfz_1 := blk_frozen BX.out 1; have hcz_2 : w3.cell? ⟨gb, 2, none⟩ = some (.string ⟨#[]⟩) := (blk_cell BX.out 2).trans rfl; have hfz_2 := blk_frozen BX.out 2; have hcz_3 : w3.cell? ⟨gb, 3, none⟩ = some (.string ⟨#[]⟩) := (blk_cell BX.out 3).trans rfl; have hfz_3 := blk_frozen BX.out 3; have hcz_4 : w3.cell? ⟨gb, 4, none⟩ = some (.int .i64 0) := (blk_cell BX.out 4).trans rfl; have hfz_4 := blk_frozen BX.out 4; have hcz_5 : w3.cell? ⟨gb, 5, none⟩ = some (.string ⟨#[]⟩) := (blk_cell BX.out 5).trans rfl; have hfz_5 := blk_frozen BX.out 5; have hcz_6 : w3.cell? ⟨gb, 6, none⟩ = some (.bool false) := (blk_cell BX.out 6).trans rfl; have hfz_6 := blk_frozen BX.out 6; have hcz_7 : w3.cell? ⟨gb, 7, none⟩ = some (.int .i64 0) := (blk_cell BX.out 7).trans rfl; have hfz_7 := blk_frozen BX.out 7))
   have BX4 := am_ (blk_put (cs' := #[.int .i64 y.f0, .string y.f1, .string y.f2, .string y.f3, .int .i64 y.f4, .string y.f5, .bool y.f6, .int .i64 y.f7]) (blk_put (cs' := #[.int .i64 y.f0, .string y.f1, .string y.f2, .string y.f3, .int .i64 y.f4, .string y.f5, .bool y.f6, .int .i64 0]) (blk_put (cs' := #[.int .i64 y.f0, .string y.f1, .string y.f2, .string y.f3, .int .i64 y.f4, .string y.f5, .bool false, .int .i64 0]) (blk_put (cs' := #[.int .i64 y.f0, .string y.f1, .string y.f2, .string y.f3, .int .i64 y.f4, .string ⟨#[]⟩, .bool false, .int .i64 0]) (blk_put (cs' := #[.int .i64 y.f0, .string y.f1, .string y.f2, .string y.f3, .int .i64 0, .string ⟨#[]⟩, .bool false, .int .i64 0]) (blk_put (cs' := #[.int .i64 y.f0, .string y.f1, .string y.f2, .string ⟨#[]⟩, .int .i64 0, .string ⟨#[]⟩, .bool false, .int .i64 0]) (blk_put (cs' := #[.int .i64 y.f0, .string y.f1, .string ⟨#[]⟩, .string ⟨#[]⟩, .int .i64 0, .string ⟨#[]⟩, .bool false, .int .i64 0]) (blk_put (cs' := #[.int .i64 y.f0, .string ⟨#[]⟩, .string ⟨#[]⟩, .string ⟨#[]⟩, .int .i64 0, .string ⟨#[]⟩, .bool false, .int .i64 0]) BX.out 0 (.int .i64 y.f0) rfl) 1 (.string y.f1) rfl) 2 (.string y.f2) rfl) 3 (.string y.f3) rfl) 4 (.int .i64 y.f4) rfl) 5 (.string y.f5) rfl) 6 (.bool y.f6) rfl) 7 (.int .i64 y.f7) rfl)
   have HB4 := am_ ((((((((HB3.out.setCell (p := ⟨gb, 0, none⟩) hgw.out (.int .i64 y.f0)).setCell (p := ⟨gb, 1, none⟩) hgw.out (.string y.f1)).setCell (p := ⟨gb, 2, none⟩) hgw.out (.string y.f2)).setCell (p := ⟨gb, 3, none⟩) hgw.out (.string y.f3)).setCell (p := ⟨gb, 4, none⟩) hgw.out (.int .i64 y.f4)).setCell (p := ⟨gb, 5, none⟩) hgw.out (.string y.f5)).setCell (p := ⟨gb, 6, none⟩) hgw.out (.bool y.f6)).setCell (p := ⟨gb, 7, none⟩) hgw.out (.int .i64 y.f7))
   generalize ((((((((w3.setCell ⟨gb, 0, none⟩ (.int .i64 y.f0)).setCell ⟨gb, 1, none⟩ (.string y.f1)).setCell ⟨gb, 2, none⟩ (.string y.f2)).setCell ⟨gb, 3, none⟩ (.string y.f3)).setCell ⟨gb, 4, none⟩ (.int .i64 y.f4)).setCell ⟨gb, 5, none⟩ (.string y.f5)).setCell ⟨gb, 6, none⟩ (.bool y.f6)).setCell ⟨gb, 7, none⟩ (.int .i64 y.f7)) = W4 at BX4 HB4 ⊢
   clear hcz_0 hfz_0 hcz_1 hfz_1 hcz_2 hfz_2 hcz_3 hfz_3 hcz_4 hfz_4 hcz_5 hfz_5 hcz_6 hfz_6 hcz_7 hfz_7
   have HBW := am_ (below_step BW.out HB4.out)
   have hca_0 : W4.cell? ⟨gb, 0, none⟩ = some (.int .i64 y.f0) := (blk_cell BX4.out 0).trans rfl
   have hca_1 : W4.cell? ⟨gb, 1, none⟩ = some (.string y.f1) := (blk_cell BX4.out 1).trans rfl
   have hca_2 : W4.cell? ⟨gb, 2, none⟩ = some (.string y.f2) := (blk_cell BX4.out 2).trans rfl
   have hca_3 : W4.cell? ⟨gb, 3, none⟩ = some (.string y.f3) := (blk_cell BX4.out 3).trans rfl
   have hca_4 : W4.cell? ⟨gb, 4, none⟩ = some (.int .i64 y.f4) := (blk_cell BX4.out 4).trans rfl
   have hca_5 : W4.cell? ⟨gb, 5, none⟩ = some (.string y.f5) := (blk_cell BX4.out 5).trans rfl
   have hca_6 : W4.cell? ⟨gb, 6, none⟩ = some (.bool y.f6) := (blk_cell BX4.out 6).trans rfl
   have hca_7 : W4.cell? ⟨gb, 7, none⟩ = some (.int .i64 y.f7) := (blk_cell BX4.out 7).trans rfl
   have hfa_0 := blk_frozen BX4.out 0
   have hfa_1 := blk_frozen BX4.out 1
   have hfa_2 := blk_frozen BX4.out 2
   have hfa_3 := blk_frozen BX4.out 3
   have hfa_4 := blk_frozen BX4.out 4
   have hfa_5 := blk_frozen BX4.out 5
   have hfa_6 := blk_frozen BX4.out 6
   have hfa_7 := blk_frozen BX4.out 7
   clear hx_0 hx_1 hx_2 hx_3 hx_4 hx_5 hx_6 hx_7
   go_wp2_with fail
   refine (filter_May.calls k y.f0 y.f1 y.f2 y.f3 y.f4 y.f5 y.f6 y.f7 a _ HA.out).mono ?_
   rintro e w5 ⟨rfl, hb5⟩
   have HBW5 := am_ (below_step HBW.out hb5)
   have HB5 := am_ (below_step HB4.out hb5)
   have BX5 := am_ (blk_below BX4.out hb5)
   clear hca_0 hfa_0 hca_1 hfa_1 hca_2 hfa_2 hca_3 hfa_3 hca_4 hfa_4 hca_5 hfa_5 hca_6 hfa_6 hca_7 hfa_7 HBW HB4 BX4 hb5
   cases a with
   | false =>
    have hk2 := HK2.out
    rw [if_neg (by decide)] at hk2
    obtain rfl := Option.some.inj hk2
    clear hk2
    go_wp2
    go_ret
    exact ⟨fi_, HBW5.out⟩
   | true =>
    have hk2 := HK2.out
    rw [if_pos rfl] at hk2
    obtain ⟨b, hb', hk3⟩ := Option.bind_eq_some_iff.1 hk2
    rw [likeAny] at hb'
    by_cases hall : ((l0.take kk).all fun x => (likeF y x).isSome) = true
    ·rw [if_pos hall] at hb'
     have hany := Option.some.inj hb'
     have hcall : ∀ W, Below w5.heap.size w5 W → Calls Tryd.prog 12 #[.slice (some ad) kk c0, .func (.func 9) #[] #[.pointer (some ⟨gb, 0, none⟩)]] W fun e w' => e = .returned (.bool b) ∧ Below W.heap.size W w' := fun W hW => by
      have hCW : Kd.C k27 W (some ad) (l0.take kk).length (l0.take kk) := C_takeF (Kd.C_below (Kd.C_below HR.out HBW5.out) hW) kk
      have := filters_ContainsFunc_at (some ad) c0 (l0.take kk) W hCW (fun x => likeF y x == some true) 9 _ EG1.out (like_pred gb y W (l0.take kk) (blk_below BX5.out hW) (List.all_eq_true.1 hall))
      rw [HTL.out, hany] at this
      exact this
     have HC := am_ hcall
     have HK3 := am_ hk3
     clear hcall hk3 hk2 hb' hany hall HK2 HA HB3 BX HB5 hgw
     cases b with
     | true =>
      have hk3 := HK3.out
      rw [if_pos rfl] at hk3
      obtain rfl := Option.some.inj hk3
      clear hk3
      go_wp2_with (go_at_call 12; refine (HC.out _ (bel_ (Below.refl _ w5))).mono ?_; rintro e w6 ⟨rfl, hb6⟩; have HBW6 := am_ (below_step HBW5.out hb6); clear hb6)
      go_ret
      exact ⟨fi_, HBW6.out⟩
     | false =>
      have hk3 := HK3.out
      rw [if_neg (by decide), ← HTK.out] at hk3
      have HK4 := am_ hk3
      clear hk3 HK3
      go_wp2_with (go_at_call 12; refine (HC.out _ (bel_ (Below.refl _ w5))).mono ?_; rintro e w6 ⟨rfl, hb6⟩; have HBW6 := am_ (below_step HBW5.out hb6); clear hb6)
      go_roundg (l0.length - (kk + 1))
      case measure => omega
      case rel => exact ⟨kk + 1, by omega, by omega, by go_num, HBW6, HK4⟩
    ·rw [if_neg hall] at hb'; cases hb'
  ·have q1 : ¬ (kk : Int) < (l0.length : Int) := by omega
   obtain rfl : kk = l0.length := by omega
   have hk1 := HK.out
   rw [List.take_length, List.drop_length, filter_All.go] at hk1
   obtain rfl := Option.some.inj hk1
   clear hk1 HK
   go_wp2
   go_ret
   exact ⟨fi_, BW.out⟩

/-! ### path_Holds: function 21 -/
def path_Holds.j0 : Nat → ByteArray → Bool → Int → ByteArray → Option (Bool)
 | 0, _, _, _, _ => none
 | k + 1, x1, x5, x144000, x144001 => if x5 = true then (some false) else (if x144001.toList = x1.toList then (some true) else (if x144000 = 2 then (if x144001.toList = ([47] : List UInt8) then (some true) else (if x144001.size + 1 ≤ 9223372036854775807 then ((strings_HasPrefix.f x1 (x144001 ++ (⟨#[47]⟩ : ByteArray))).bind fun t146 => (some t146)) else (none))) else (some false)))
def path_Holds.f (k : Nat) (a0_0 : Int) (a0_1 : ByteArray) (a1 : ByteArray) : Option (Bool) := (path_May.f a0_0 a0_1).bind fun t144 => (if t144 = true then ((path_Is.f a1).bind fun t145 => (path_Holds.j0 k a1 (!t145) a0_0 a0_1)) else (path_Holds.j0 k a1 true a0_0 a0_1))
theorem path_Holds.mono_l : ∀ k, (∀ y0 y1 y2 y3, LeO (path_Holds.j0 k y0 y1 y2 y3) (path_Holds.j0 (k + 1) y0 y1 y2 y3))
 | 0 => fun _ _ _ _ r h => by simp [path_Holds.j0] at h
 | k + 1 => by
  have ih0 := path_Holds.mono_l k
  ·intro y0 y1 y2 y3
   unfold path_Holds.j0
   repeat' first
   | (with_reducible exact ih0 _ _ _ _)
   | (with_reducible exact LeO.refl _)
   | (with_reducible exact LeO.none _)
   | (with_reducible refine LeO.ite ?_ ?_)
   | (with_reducible refine LeO.bind ?_ (fun _ => ?_))
   | exact ih0 _ _ _ _
   | exact LeO.none _
   | refine LeO.ite ?_ ?_
   | refine LeO.bind ?_ (fun _ => ?_)
theorem path_Holds.mono : ∀ a0 a1 a2 k, LeO (path_Holds.f k a0 a1 a2) (path_Holds.f (k + 1) a0 a1 a2) := by
 intro a0 a1 a2 k
 have ih0 := path_Holds.mono_l k
 unfold path_Holds.f
 repeat' first
   | (with_reducible exact ih0 _ _ _ _)
   | (with_reducible exact LeO.refl _)
   | (with_reducible exact LeO.none _)
   | (with_reducible refine LeO.ite ?_ ?_)
   | (with_reducible refine LeO.bind ?_ (fun _ => ?_))
   | exact ih0 _ _ _ _
   | exact LeO.none _
   | refine LeO.ite ?_ ?_
   | refine LeO.bind ?_ (fun _ => ?_)
set_option maxHeartbeats 8000000 in
set_option maxRecDepth 100000 in
theorem path_Holds.calls (k : Nat) (a0_0 : Int) (a0_1 : ByteArray) (a1 : ByteArray) (r : Bool) (w : World) (h : path_Holds.f k a0_0 a0_1 a1 = some r) :
  Calls Tryd.prog 21 #[.agg #[.int .i64 a0_0, .string a0_1], .string a1] w fun e w' => e = .returned (.bool r) ∧ Below w.heap.size w w' := by
 have hu34 := Tryd.underlying34
 have HB := am_ (Below.refl w.heap.size w)
 have H : ((path_May.f a0_0 a0_1).bind fun t144 => (if t144 = true then ((path_Is.f a1).bind fun t145 => (path_Holds.j0 k a1 (!t145) a0_0 a0_1)) else (path_Holds.j0 k a1 true a0_0 a0_1))) = some r := h
 clear h
 have HC3 := Aside0.mk H
 clear H
 go_enter Tryd.func21, Tryd.ntmps21
 go_upto_region 1 with (first | ((with_reducible refine gate_dst (N := 2) rfl ?_); refine box_event ?hg (N := 2) ?hd (cs := #[.int .i64 a0_0, .string a0_1]) (t := 34) ?hr ?_; (case hd => rfl); (case hg => rfl); (case hr => first | (go_simp; done) | (go_simp; rfl)); intro gb143 hg w4 hbox hb; have n0_ := am_ (below_step (bel_ HB.out) hb); have n1_ := am_ (hbox); have n2_ := am_ ((by rw [hg]; exact (below_size (bel_ HB.out)) : w.heap.size ≤ gb143)); have n3_ := am_ ((by rw [hg]; exact (below_size (bel_ HB.out)) : w.heap.size ≤ gb143)); clear HB; have HB := n0_; have BK143 := n1_; have GW143 := n2_; have GE143 := n3_; clear n0_ n1_ n2_ n3_ hb hbox hg))
 (try simp only [Act.put, List.setIfInBounds_toArray, List.set_cons_zero, List.set_cons_succ])
 go_cut [5] (fun v5 wc => ∃ (kq : Nat) (x5_2 : Bool), v5 = .bool x5_2 ∧ Aside0 (path_Holds.j0 kq a1 x5_2 a0_0 a0_1 = some r) ∧ Aside0 (kq ≤ k) ∧ Aside0 (wc.heap[gb143]? = some (.cells #[.int .i64 a0_0, .string a0_1] 34 (0, 0))) ∧ Aside0 (Below w.heap.size w wc))
 case first =>
  have H := HC3.out
  clear HC3
  replace H := Option.bind_eq_some_iff.mp H
  obtain ⟨t144, A50, H⟩ := H
  replace H : (if t144 = true then ((path_Is.f a1).bind fun t145 => (path_Holds.j0 k a1 (!t145) a0_0 a0_1)) else (path_Holds.j0 k a1 true a0_0 a0_1)) = some r := H
  have A5 := Aside0.mk A50
  clear A50
  by_cases c6 : t144 = true
  ·subst c6
   have H1 : ((path_Is.f a1).bind fun t145 => (path_Holds.j0 k a1 (!t145) a0_0 a0_1)) = some r := by rw [if_pos rfl] at H; exact H
   clear H
   have H := H1
   clear H1
   replace H := Option.bind_eq_some_iff.mp H
   obtain ⟨t145, A70, H⟩ := H
   replace H : (path_Holds.j0 k a1 (!t145) a0_0 a0_1) = some r := H
   have A7 := Aside0.mk A70
   clear A70
   have H' := Aside0.mk H
   clear H
   obtain ⟨hcz8_0, hcz8_1, hfz8_0, hfz8_1⟩ := blk2 BK143.out
   go_wp2_with (first | ((with_reducible refine gate_callee (f := 30) rfl ?_); refine goesL_ (some 7) rfl rfl Tryd.func30 kr_ rfl #[.agg #[.int .i64 a0_0, .string a0_1]] rfl rl_ ?_; (with_reducible refine (path_May.calls a0_0 a0_1 true _ A5.out).mono ?_); rintro e w9 ⟨rfl, hb⟩; refine ⟨_, rfl, ?_⟩; have n0_ := am_ (blk_below (g := gb143) (o := .cells #[.int .i64 a0_0, .string a0_1] 34 (0, 0)) (blk_ BK143.out) hb); have n1_ := am_ (below_step (bel_ HB.out) hb); clear BK143 HB; have BK143 := n0_; have HB := n1_; clear n0_ n1_; (try clear hb); (try clear hb2); (try clear hk); (try clear hi)) | (go_at_call 29; (with_reducible refine (path_Is.calls a1 t145 _ A7.out).mono ?_); rintro e w10 ⟨rfl, hb⟩; have n0_ := am_ (blk_below (g := gb143) (o := .cells #[.int .i64 a0_0, .string a0_1] 34 (0, 0)) (blk_ BK143.out) hb); have n1_ := am_ (below_step (bel_ HB.out) hb); clear BK143 HB; have BK143 := n0_; have HB := n1_; clear n0_ n1_; (try clear hb); (try clear hb2); (try clear hk); (try clear hi)))
   go_meet
   case rel => exact ⟨_, (!t145), sd_, H', ⟨by first | omega | exact Nat.le_refl _⟩, ⟨by (with_reducible repeat (first | refine blk_drewN ?_ _ | refine blk_drew ?_ | refine blk_alloc ?_ _)); exact BK143.out⟩, ⟨bel_ HB.out⟩⟩
  ·replace c6 := Bool.eq_false_iff.mpr c6
   subst c6
   have H1 : (path_Holds.j0 k a1 true a0_0 a0_1) = some r := by rw [if_neg (show ¬ (false = true) by decide)] at H; exact H
   clear H
   have H := H1
   clear H1
   have H' := Aside0.mk H
   clear H
   obtain ⟨hcz11_0, hcz11_1, hfz11_0, hfz11_1⟩ := blk2 BK143.out
   go_wp2_with (first | ((with_reducible refine gate_callee (f := 30) rfl ?_); refine goesL_ (some 7) rfl rfl Tryd.func30 kr_ rfl #[.agg #[.int .i64 a0_0, .string a0_1]] rfl rl_ ?_; (with_reducible refine (path_May.calls a0_0 a0_1 false _ A5.out).mono ?_); rintro e w12 ⟨rfl, hb⟩; refine ⟨_, rfl, ?_⟩; have n0_ := am_ (blk_below (g := gb143) (o := .cells #[.int .i64 a0_0, .string a0_1] 34 (0, 0)) (blk_ BK143.out) hb); have n1_ := am_ (below_step (bel_ HB.out) hb); clear BK143 HB; have BK143 := n0_; have HB := n1_; clear n0_ n1_; (try clear hb); (try clear hb2); (try clear hk); (try clear hi)))
   go_meet
   case rel => exact ⟨_, (true), sd_, H', ⟨by first | omega | exact Nat.le_refl _⟩, ⟨by (with_reducible repeat (first | refine blk_drewN ?_ _ | refine blk_drew ?_ | refine blk_alloc ?_ _)); exact BK143.out⟩, ⟨bel_ HB.out⟩⟩
 case rest =>
  clear HC3
  try clear c2
  try clear p2
  try clear c3
  try clear c6
  try clear hcz11_0
  try clear hcz11_1
  try clear hcz8_0
  try clear hcz8_1
  try clear hfz11_0
  try clear hfz11_1
  try clear hfz8_0
  try clear hfz8_1
  obtain ⟨kq, x5_2, rfl, HA, HJ2, BK143, HB⟩ := hcut
  cases kq with
  | zero => exact absurd HA.out (by simp [path_Holds.j0])
  | succ kj2 =>
   have H := HA.out
   clear HA
   simp only [path_Holds.j0] at H
   by_cases c13 : x5_2 = true
   ·subst c13
    have H1 : (some false) = some r := by rw [if_pos rfl] at H; exact H
    clear H
    have H := H1
    clear H1
    obtain rfl := Option.some.inj H
    go_wp2
    go_ret
    exact ⟨fi_, bel_ HB.out⟩
   ·replace c13 := Bool.eq_false_iff.mpr c13
    subst c13
    have H1 : (if a0_1.toList = a1.toList then (some true) else (if a0_0 = 2 then (if a0_1.toList = ([47] : List UInt8) then (some true) else (if a0_1.size + 1 ≤ 9223372036854775807 then ((strings_HasPrefix.f a1 (a0_1 ++ (⟨#[47]⟩ : ByteArray))).bind fun t146 => (some t146)) else (none))) else (some false))) = some r := by rw [if_neg (show ¬ (false = true) by decide)] at H; exact H
    clear H
    have H := H1
    clear H1
    by_cases c14 : a0_1.toList = a1.toList
    ·rw [if_pos c14] at H
     have c14b0 : (a0_1.toList == a1.toList) = true := beq_iff_eq.mpr c14
     have c14b1 : (a0_1.toList != a1.toList) = false := bne_eq_false_iff_eq.mpr c14
     clear c14
     obtain rfl := Option.some.inj H
     obtain ⟨hcz15_0, hcz15_1, hfz15_0, hfz15_1⟩ := blk2 BK143.out
     go_wp2
     go_ret
     exact ⟨fi_, bel_ HB.out⟩
    ·rw [if_neg c14] at H
     have c14b0 : (a0_1.toList == a1.toList) = false := beq_eq_false_iff_ne.mpr c14
     have c14b1 : (a0_1.toList != a1.toList) = true := bne_iff_ne.mpr c14
     by_cases c16 : a0_0 = 2
     ·rw [if_pos c16] at H
      (try (have c16k := c16; simp only [Bool.and_eq_true, beq_iff_eq, Bool.not_eq_true'] at c16k; have c16l := eq_true c16k; clear c16k)); (try (have c16m := c16; simp only [beq_nil_isEmpty] at c16m))
      have c16b0 : (a0_0 == 2) = true := beq_iff_eq.mpr c16
      have c16b1 : (a0_0 != 2) = false := bne_eq_false_iff_eq.mpr c16
      clear c16
      by_cases c17 : a0_1.toList = ([47] : List UInt8)
      ·rw [if_pos c17] at H
       have c17b0 : (a0_1.toList == ([47] : List UInt8)) = true := beq_iff_eq.mpr c17
       have c17b1 : (a0_1.toList != ([47] : List UInt8)) = false := bne_eq_false_iff_eq.mpr c17
       clear c17
       obtain rfl := Option.some.inj H
       obtain ⟨hcz18_0, hcz18_1, hfz18_0, hfz18_1⟩ := blk2 BK143.out
       go_wp2
       go_ret
       exact ⟨fi_, bel_ HB.out⟩
      ·rw [if_neg c17] at H
       have c17b0 : (a0_1.toList == ([47] : List UInt8)) = false := beq_eq_false_iff_ne.mpr c17
       have c17b1 : (a0_1.toList != ([47] : List UInt8)) = true := bne_iff_ne.mpr c17
       by_cases c19 : a0_1.size + 1 ≤ 9223372036854775807
       ·rw [if_pos c19] at H
        have c19b0 := eq_true c19
        have c19b1 : decide (a0_1.size + 1 ≤ 9223372036854775807) = true := decide_eq_true c19
        try have c19b2 : (9223372036854775807 < a0_1.size + 1) = False := eq_false (Nat.not_lt.2 c19)
        replace H := Option.bind_eq_some_iff.mp H
        obtain ⟨t146, A200, H⟩ := H
        replace H : (some t146) = some r := H
        have A20 := Aside0.mk A200
        clear A200
        obtain rfl := Option.some.inj H
        obtain ⟨hcz21_0, hcz21_1, hfz21_0, hfz21_1⟩ := blk2 BK143.out
        go_wp2_with (first | (go_at_call 31; (with_reducible refine (strings_HasPrefix.calls a1 (a0_1 ++ (⟨#[47]⟩ : ByteArray)) t146 _ A20.out).mono ?_); rintro e w' ⟨rfl, ⟨nd, rfl⟩⟩))
        go_ret
        exact ⟨fi_, bel_ HB.out⟩
       ·rw [if_neg c19] at H
        exact absurd H (by simp)
     ·rw [if_neg c16] at H
      (try (have c16k := c16; simp only [Bool.and_eq_true, beq_iff_eq, Bool.not_eq_true'] at c16k; have c16l := eq_false c16k; clear c16k)); (try (have c16m := c16; simp only [beq_nil_isEmpty] at c16m))
      have c16b0 : (a0_0 == 2) = false := beq_eq_false_iff_ne.mpr c16
      have c16b1 : (a0_0 != 2) = true := bne_iff_ne.mpr c16
      obtain rfl := Option.some.inj H
      obtain ⟨hcz22_0, hcz22_1, hfz22_0, hfz22_1⟩ := blk2 BK143.out
      go_wp2
      go_ret
      exact ⟨fi_, bel_ HB.out⟩

/-! ### api_Pair_68: function 68 -/
def api_Pair_68.f (l0 : List (S47)) : Option (List (S47)) := if l0.length * 32 ≤ 140737488355328 then some l0 else none
set_option maxHeartbeats 8000000 in
set_option maxRecDepth 100000 in
theorem api_Pair_68.calls (A0 : Option Addr) (c0 : Nat) (l0 : List (S47)) (r : List (S47)) (w : World) (hr0 : Kd.C k47 w A0 l0.length l0) (hc0 : l0.length ≤ c0) (h : api_Pair_68.f l0 = some r) :
  Calls Tryd.prog 68 #[.slice A0 l0.length c0] w fun e w' => ∃ v0_ : Value, e = .returned (v0_) ∧ Kd.R k47 47 w' w.heap.size (fun _ => True) v0_ r ∧ Below w.heap.size w w' := by
 have hlim : l0.length * 32 ≤ 140737488355328 := by
  by_cases hx : l0.length * 32 ≤ 140737488355328
  ·exact hx
  ·rw [api_Pair_68.f, if_neg hx] at h; cases h
 rw [api_Pair_68.f, if_pos hlim] at h
 obtain rfl := Option.some.inj h
 clear h
 have HR := Aside0.mk hr0
 have LM := Aside0.mk hlim
 clear hlim hc0
 have hq := fun (W : World) (a : Option Addr) (n c n' c' : Nat) => Lib.run_eql_slice_nil (P := Tryd.prog) W 35 47 a n c n' c' Tryd.underlying35
 cases A0 with
 | none =>
  have h0 : l0 = [] := by
   rcases Nat.eq_zero_or_pos l0.length with h0 | h0
   ·exact List.eq_nil_of_length_eq_zero h0
   ·obtain ⟨ad, he, _⟩ := hr0.2.2 h0
    cases he
  subst h0
  clear hr0 HR
  go_enter Tryd.func68, Tryd.ntmps68
  go_wp2
  go_ret
  exact ⟨_, rfl, Kd.R_nil _ _ _ _ _, Below.refl _ _⟩
 | some ad =>
  clear hr0
  go_enter Tryd.func68, Tryd.ntmps68
  go_wp2_with (at_builtin; refine Kd.R_append_rows k47 (w0 := w) w.heap.size rfl (.tmp 5) (.tmp 6) 35 47 (.agg #[(.string ⟨#[]⟩), (.string ⟨#[]⟩)]) 32 rfl Tryd.underlying35 info47 rfl (by decide) (by decide) (.slice (some ⟨w.heap.size, 0, none⟩) 0 0) [] l0 (some ad) l0.length c0 (fun _ => True) (fun _ => False) rfl rfl ?aO ?aR (fun _ _ h => h) (fun _ h => h.elim) (fun _ _ => trivial) ?aB ?aS ?aL ?_; (case aO => exact ⟨fun _ _ => trivial, [], World.ownsRow_made w #[] 0 (Nat.le_refl _) (Nat.zero_le _) (by simp), Reps.none _ _⟩); (case aR => exact Kd.C_alloc HR.out _); (case aB => exact (Below.refl _ w).alloc (Nat.le_refl _) _); (case aS => simp); (case aL => have := LM.out; simp; omega); intro v1 w1 ho hb hg hat; rw [List.nil_append] at ho; have n0_ := Aside0.mk ho; have n1_ := Aside0.mk hb; clear ho hb hg hat)
  go_ret
  exact ⟨_, rfl, n0_.out, n1_.out⟩

/-! ### pairs_Add: function 52 -/
def pairs_Add.f (l0 : List (S47)) (a1 : ByteArray) (a2 : ByteArray) : Option ((List (S47))) := (api_Pair_68.f l0).bind fun t147 => (if t147.length < 4398046511104 then (some (t147 ++ [(⟨a1, a2⟩ : S47)])) else (none))
set_option maxHeartbeats 8000000 in
set_option maxRecDepth 100000 in
theorem pairs_Add.calls (A0 : Option Addr) (c0 : Nat) (l0 : List (S47)) (a1 : ByteArray) (a2 : ByteArray) (r : List (S47)) (w : World) (hr0 : Kd.C k47 w A0 l0.length l0) (hc0 : l0.length ≤ c0) (h : pairs_Add.f l0 a1 a2 = some r) :
  Calls Tryd.prog 52 #[.slice A0 l0.length c0, .string a1, .string a2] w fun e w' => ∃ v0_ : Value, e = .returned (v0_) ∧ Kd.R k47 47 w' w.heap.size (fun _ => True) v0_ r ∧ Below w.heap.size w w' := by
 have hu47 := Tryd.underlying47
 have HR0 := Aside0.mk hr0
 have HC0 := Aside0.mk hc0
 clear hr0 hc0
 have HB := am_ (Below.refl w.heap.size w)
 have H : ((api_Pair_68.f l0).bind fun t147 => (if t147.length < 4398046511104 then (some (t147 ++ [(⟨a1, a2⟩ : S47)])) else (none))) = some r := h
 clear h
 replace H := Option.bind_eq_some_iff.mp H
 obtain ⟨t147, A40, H⟩ := H
 replace H : (if t147.length < 4398046511104 then (some (t147 ++ [(⟨a1, a2⟩ : S47)])) else (none)) = some r := H
 have A4 := Aside0.mk A40
 clear A40
 by_cases c5 : t147.length < 4398046511104
 ·rw [if_pos c5] at H
  have LMc5 := Aside0.mk c5
  clear c5
  obtain ⟨y150, hy150⟩ : ∃ y_ : List (S47), y_ = (t147 ++ [(⟨a1, a2⟩ : S47)]) := ⟨_, rfl⟩
  replace H : (some y150) = some r := by first | (rw [hy150]; with_reducible exact H) | (have H2_ := (Option.bind_some _ _).symm.trans H; rw [hy150]; with_reducible exact H2_) | (have H2_ := (Option.bind_some _ _).symm.trans H; with_reducible exact H2_) | with_reducible exact H | (rw [hy150]; exact H) | exact H
  have Ny150 := Aside0.mk hy150
  clear hy150
  obtain rfl := Option.some.inj H
  go_enter Tryd.func52, Tryd.ntmps52
  go_wp2_with (first | ((with_reducible refine gate_callee (f := 68) rfl ?_); refine goesL_ (some 8) rfl rfl Tryd.func68 kr_ rfl #[.slice A0 l0.length c0] rfl rl_ ?_; (with_reducible refine (api_Pair_68.calls _ _ l0 t147 _ ?side1 ?side2 A4.out).mono ?_); (case side1 => exact C_ HR0.out); (case side2 => exact HC0.out); rintro e w6 ⟨v148, rfl, ho0, hb⟩; refine ⟨_, rfl, ?_⟩; have n0_ := am_ (Kd.R_lower ho0 (below_size (bel_ HB.out))); have n1_ := am_ (below_step (bel_ HB.out) hb); clear HB; have HO149 := n0_; have HB := n1_; clear n0_ n1_; (try clear hb); (try clear hb2); (try clear hk); (try clear hi); (try clear ho0)) | ((with_reducible refine gate_builtin (b := .append) (xs := #[.tmp 8, .tmp 12]) rfl ?_); at_builtin; refine Kd.R_append k47 (w0 := w) w.heap.size rfl (.tmp 8) (.tmp 12) 35 47 (.agg #[(.string ⟨#[]⟩), (.string ⟨#[]⟩)]) 32 rfl Tryd.underlying35 info47 rfl (by decide) (by omega) v148 t147 (⟨a1, a2⟩ : S47) [.string a1, .string a2] (fun _ => True) (fun _ => False) rfl rfl ?aP (fun _ hk => hk.elim) ?aF ?aO ?aB ?aS ?aL ?_; (case aP => exact k47_mkM _ _ _ (⟨a1, a2⟩ : S47)); (case aB => exact (bel_ HB.out)); (case aF => exact (fun _ _ => trivial)); (case aO => exact (R_ HO149.out)); (case aS => exact (below_size (bel_ HB.out))); (case aL => have := LMc5.out; omega); intro v151 w7 ho hb hg hat; rw [← Ny150.out] at ho; have n0_ := am_ (hb); have n1_ := am_ (ho); clear HB HO149; have HB := n0_; have HO152 := n1_; clear n0_ n1_ ho hb hg hat))
  go_ret
  exact ⟨_, by first | rfl | (simp [errW_none, errW_some] <;> rfl) | (simp [*, errW_none, errW_some] <;> rfl), by (with_reducible repeat (first | apply Kd.R_alloc | apply Kd.R_drewN | apply Kd.R_drew)); exact HO152.out, bel_ HB.out⟩
 ·rw [if_neg c5] at H
  exact absurd H (by simp)

end Go.Proofs.YtfdopmjgiakcdaaDoor.P
