-- written by wip/tool/hprint.py of this repo: the kit's print, with contracts by hand joined; Lean checks it.
import Derived.Test.YtpmllmfamjpinaaGreatDoorPx0
import Derived.Test.YtpmllmfamjpinaaGreatDoorPx3
import Derived.Test.YtpmllmfamjpinaaGreatDoorPx4
import Derived.Test.YtpmllmfamjpinaaGreatDoorPx9
import Derived.Test.YtpmllmfamjpinaaGreatDoorPx10
namespace Go.Proofs.YtpmllmfamjpinaaGreatDoor.P
open Go.RowKit Go.Proofs.YtpmllmfamjpinaaGreatDoorW.PrintWords Go.Proofs.YtpmllmfamjpinaaGreatDoorW.PrintLast Go.Proofs.YtpmllmfamjpinaaGreatDoorW.PrintMore
attribute [local go_sem] max2_int min2_int max_two min_two max_three min_three max_four min_four   -- for this text's walks alone
set_option linter.unusedVariables false
set_option linter.unusedSimpArgs false

/-! ### head_first: function 47 -/
def head_first.j0 : Nat → ByteArray → ByteArray → Bool → ByteArray → ByteArray → ByteArray → Option (ByteArray × ByteArray × ByteArray × (List (S51)) × (List (S51)) × Bool)
 | 0, _, _, _, _, _, _ => none
 | k + 1, x4, x7, x33, x262000, x262001, x262002 => if x33 = true then (some (x262000, x262001, x262002, ([] : List (S51)), ([] : List (S51)), false)) else ((strings_Cut.f k x7 (⟨#[63]⟩ : ByteArray)).bind fun bt269 => ((query_Parse.f k bt269.2.1).bind fun bt272 => (if bt272.2 = 0 then ((path_Is.f bt269.1).bind fun t276 => (if t276 = true then (if bt269.2.2 = true then (if bt269.2.1.toList = ([] : List UInt8) then (some (x262000, x262001, x262002, ([] : List (S51)), ([] : List (S51)), false)) else (some (x4, (⟨#[]⟩ : ByteArray), bt269.1, bt272.1, ([] : List (S51)), true))) else (some (x4, (⟨#[]⟩ : ByteArray), bt269.1, bt272.1, ([] : List (S51)), true))) else (some (x262000, x262001, x262002, ([] : List (S51)), ([] : List (S51)), false)))) else (some (x262000, x262001, x262002, ([] : List (S51)), ([] : List (S51)), false)))))
def head_first.f (k : Nat) (a0 : ByteArray) : Option (ByteArray × ByteArray × ByteArray × (List (S51)) × (List (S51)) × Bool) := (strings_Cut.f k a0 (⟨#[32]⟩ : ByteArray)).bind fun bt262 => ((strings_Cut.f k bt262.2.1 (⟨#[32]⟩ : ByteArray)).bind fun bt265 => (if bt265.2.1.toList = ([72, 84, 84, 80, 47, 49, 46, 49] : List UInt8) then ((rule_Method.f bt262.1).bind fun t268 => (head_first.j0 k bt262.1 bt265.1 (!t268) (⟨#[]⟩ : ByteArray) (⟨#[]⟩ : ByteArray) (⟨#[]⟩ : ByteArray))) else (head_first.j0 k bt262.1 bt265.1 true (⟨#[]⟩ : ByteArray) (⟨#[]⟩ : ByteArray) (⟨#[]⟩ : ByteArray))))
theorem head_first.mono_l : ∀ k, (∀ y0 y1 y2 y3 y4 y5, LeO (head_first.j0 k y0 y1 y2 y3 y4 y5) (head_first.j0 (k + 1) y0 y1 y2 y3 y4 y5))
 | 0 => fun _ _ _ _ _ _ r h => by simp [head_first.j0] at h
 | k + 1 => by
  have ih0 := head_first.mono_l k
  ·intro y0 y1 y2 y3 y4 y5
   unfold head_first.j0
   repeat' first
   | (with_reducible exact ih0 _ _ _ _ _ _)
   | (with_reducible exact query_Parse.mono _ _)
   | (with_reducible exact strings_Cut.mono _ _ _)
   | (with_reducible exact LeO.refl _)
   | (with_reducible exact LeO.none _)
   | (with_reducible refine LeO.ite ?_ ?_)
   | (with_reducible refine LeO.bind ?_ (fun _ => ?_))
   | exact ih0 _ _ _ _ _ _
   | exact query_Parse.mono _ _
   | exact strings_Cut.mono _ _ _
   | exact LeO.none _
   | refine LeO.ite ?_ ?_
   | refine LeO.bind ?_ (fun _ => ?_)
theorem head_first.mono : ∀ a0 k, LeO (head_first.f k a0) (head_first.f (k + 1) a0) := by
 intro a0 k
 have ih0 := head_first.mono_l k
 unfold head_first.f
 repeat' first
   | (with_reducible exact ih0 _ _ _ _ _ _)
   | (with_reducible exact query_Parse.mono _ _)
   | (with_reducible exact strings_Cut.mono _ _ _)
   | (with_reducible exact LeO.refl _)
   | (with_reducible exact LeO.none _)
   | (with_reducible refine LeO.ite ?_ ?_)
   | (with_reducible refine LeO.bind ?_ (fun _ => ?_))
   | exact ih0 _ _ _ _ _ _
   | exact query_Parse.mono _ _
   | exact strings_Cut.mono _ _ _
   | exact LeO.none _
   | refine LeO.ite ?_ ?_
   | refine LeO.bind ?_ (fun _ => ?_)
set_option maxHeartbeats 8000000 in
set_option maxRecDepth 100000 in
theorem head_first.calls (k : Nat) (a0 : ByteArray) (r1 : ByteArray) (r2 : ByteArray) (r3 : ByteArray) (r4 : List (S51)) (r5 : List (S51)) (r6 : Bool) (w : World) (h : head_first.f k a0 = some (r1, r2, r3, r4, r5, r6)) :
  Calls Tryz.prog 47 #[.string a0] w fun e w' => ∃ v3_ v4_ : Value, e = .returned (.tuple #[.agg #[.string r1, .string r2, .string r3, v3_, v4_], .bool r6]) ∧ Kd.R k51 51 w' w.heap.size (fun k_ => some k_ ≠ (v4_ : Value).ownBlock) v3_ r4 ∧ Kd.R k51 51 w' w.heap.size (fun k_ => some k_ ≠ (v3_ : Value).ownBlock) v4_ r5 ∧ Below w.heap.size w w' := by
 have hu24 := Tryz.underlying24
 have HB := am_ (Below.refl w.heap.size w)
 have H : ((strings_Cut.f k a0 (⟨#[32]⟩ : ByteArray)).bind fun bt262 => ((strings_Cut.f k bt262.2.1 (⟨#[32]⟩ : ByteArray)).bind fun bt265 => (if bt265.2.1.toList = ([72, 84, 84, 80, 47, 49, 46, 49] : List UInt8) then ((rule_Method.f bt262.1).bind fun t268 => (head_first.j0 k bt262.1 bt265.1 (!t268) (⟨#[]⟩ : ByteArray) (⟨#[]⟩ : ByteArray) (⟨#[]⟩ : ByteArray))) else (head_first.j0 k bt262.1 bt265.1 true (⟨#[]⟩ : ByteArray) (⟨#[]⟩ : ByteArray) (⟨#[]⟩ : ByteArray))))) = some (r1, r2, r3, r4, r5, r6) := h
 clear h
 replace H := Option.bind_eq_some_iff.mp H
 obtain ⟨⟨t262, t263, t264⟩, A20, H⟩ := H
 replace H : ((strings_Cut.f k t263 (⟨#[32]⟩ : ByteArray)).bind fun bt265 => (if bt265.2.1.toList = ([72, 84, 84, 80, 47, 49, 46, 49] : List UInt8) then ((rule_Method.f t262).bind fun t268 => (head_first.j0 k t262 bt265.1 (!t268) (⟨#[]⟩ : ByteArray) (⟨#[]⟩ : ByteArray) (⟨#[]⟩ : ByteArray))) else (head_first.j0 k t262 bt265.1 true (⟨#[]⟩ : ByteArray) (⟨#[]⟩ : ByteArray) (⟨#[]⟩ : ByteArray)))) = some (r1, r2, r3, r4, r5, r6) := H
 have A2 := Aside0.mk A20
 clear A20
 replace H := Option.bind_eq_some_iff.mp H
 obtain ⟨⟨t265, t266, t267⟩, A30, H⟩ := H
 replace H : (if t266.toList = ([72, 84, 84, 80, 47, 49, 46, 49] : List UInt8) then ((rule_Method.f t262).bind fun t268 => (head_first.j0 k t262 t265 (!t268) (⟨#[]⟩ : ByteArray) (⟨#[]⟩ : ByteArray) (⟨#[]⟩ : ByteArray))) else (head_first.j0 k t262 t265 true (⟨#[]⟩ : ByteArray) (⟨#[]⟩ : ByteArray) (⟨#[]⟩ : ByteArray))) = some (r1, r2, r3, r4, r5, r6) := H
 have A3 := Aside0.mk A30
 clear A30
 have HC4 := Aside0.mk H
 clear H
 go_enter Tryz.func47, Tryz.ntmps47
 go_upto_region 3 with (first | ((with_reducible refine gate_dst (N := 2) rfl ?_); refine box_event ?hg (N := 2) ?hd (cs := #[.string (⟨#[]⟩ : ByteArray), .string (⟨#[]⟩ : ByteArray), .string (⟨#[]⟩ : ByteArray), .slice none 0 0, .slice none 0 0]) (t := 24) ?hr ?_; (case hd => rfl); (case hg => rfl); (case hr => first | (go_simp; done) | (go_simp; rfl)); intro gb261 hg w5 hbox hb; have n0_ := am_ (below_step (bel_ HB.out) hb); have n1_ := am_ (hbox); have n2_ := am_ ((by rw [hg]; exact (below_size (bel_ HB.out)) : w.heap.size ≤ gb261)); have n3_ := am_ ((by rw [hg]; exact (below_size (bel_ HB.out)) : w.heap.size ≤ gb261)); clear HB; have HB := n0_; have BK261 := n1_; have GW261 := n2_; have GE261 := n3_; clear n0_ n1_ n2_ n3_ hb hbox hg) | ((with_reducible refine gate_callee (f := 78) rfl ?_); refine goesL_ (some 17) rfl rfl Tryz.func78 kr_ rfl #[.string a0, .string (⟨#[32]⟩ : ByteArray)] rfl rl_ ?_; (with_reducible refine (strings_Cut.calls k a0 (⟨#[32]⟩ : ByteArray) t262 t263 t264 _ A2.out).mono ?_); rintro e w' ⟨rfl, ⟨nd, rfl⟩⟩; refine ⟨_, rfl, ?_⟩) | ((with_reducible refine gate_callee (f := 78) rfl ?_); refine goesL_ (some 23) rfl rfl Tryz.func78 kr_ rfl #[.string t263, .string (⟨#[32]⟩ : ByteArray)] rfl rl_ ?_; (with_reducible refine (strings_Cut.calls k t263 (⟨#[32]⟩ : ByteArray) t265 t266 t267 _ A3.out).mono ?_); rintro e w' ⟨rfl, ⟨nd, rfl⟩⟩; refine ⟨_, rfl, ?_⟩))
 (try simp only [Act.put, List.setIfInBounds_toArray, List.set_cons_zero, List.set_cons_succ])
 go_cut [33] (fun v33 wc => ∃ (kq : Nat) (x33_3 : Bool), v33 = .bool x33_3 ∧ Aside0 (head_first.j0 kq t262 t265 x33_3 (⟨#[]⟩ : ByteArray) (⟨#[]⟩ : ByteArray) (⟨#[]⟩ : ByteArray) = some (r1, r2, r3, r4, r5, r6)) ∧ Aside0 (kq ≤ k) ∧ Aside0 (wc.heap[gb261]? = some (.cells #[.string (⟨#[]⟩ : ByteArray), .string (⟨#[]⟩ : ByteArray), .string (⟨#[]⟩ : ByteArray), (.slice none 0 0), (.slice none 0 0)] 24 (0, 0))) ∧ Aside0 (Below w.heap.size w wc))
 case first =>
  have H := HC4.out
  clear HC4
  by_cases c6 : t266.toList = ([72, 84, 84, 80, 47, 49, 46, 49] : List UInt8)
  ·rw [if_pos c6] at H
   have c6b0 : (t266.toList == ([72, 84, 84, 80, 47, 49, 46, 49] : List UInt8)) = true := beq_iff_eq.mpr c6
   have c6b1 : (t266.toList != ([72, 84, 84, 80, 47, 49, 46, 49] : List UInt8)) = false := bne_eq_false_iff_eq.mpr c6
   clear c6
   (first | rw [c6b0] | rw [c6b1] | rw [c6b2] | (simp only [i64_w, i32_w]; rw [c6b0]) | skip)
   replace H := Option.bind_eq_some_iff.mp H
   obtain ⟨t268, A70, H⟩ := H
   replace H : (head_first.j0 k t262 t265 (!t268) (⟨#[]⟩ : ByteArray) (⟨#[]⟩ : ByteArray) (⟨#[]⟩ : ByteArray)) = some (r1, r2, r3, r4, r5, r6) := H
   have A7 := Aside0.mk A70
   clear A70
   have H' := Aside0.mk H
   clear H
   go_wp2_with (first | (go_at_call 15; (with_reducible refine (rule_Method.calls t262 t268 _ A7.out).mono ?_); rintro e w8 ⟨rfl, hb⟩; have n0_ := am_ (blk_below (g := gb261) (o := .cells #[.string (⟨#[]⟩ : ByteArray), .string (⟨#[]⟩ : ByteArray), .string (⟨#[]⟩ : ByteArray), .slice none 0 0, .slice none 0 0] 24 (0, 0)) (blk_ BK261.out) hb); have n1_ := am_ (below_step (bel_ HB.out) hb); clear BK261 HB; have BK261 := n0_; have HB := n1_; clear n0_ n1_; (try clear hb); (try clear hb2); (try clear hk); (try clear hi)))
   go_meet
   case rel => exact ⟨_, (!t268), sd_, H', ⟨by first | omega | exact Nat.le_refl _⟩, ⟨by (with_reducible repeat (first | refine blk_drewN ?_ _ | refine blk_drew ?_ | refine blk_alloc ?_ _)); exact BK261.out⟩, ⟨bel_ HB.out⟩⟩
  ·rw [if_neg c6] at H
   have c6b0 : (t266.toList == ([72, 84, 84, 80, 47, 49, 46, 49] : List UInt8)) = false := beq_eq_false_iff_ne.mpr c6
   have c6b1 : (t266.toList != ([72, 84, 84, 80, 47, 49, 46, 49] : List UInt8)) = true := bne_iff_ne.mpr c6
   (first | rw [c6b0] | rw [c6b1] | rw [c6b2] | (simp only [i64_w, i32_w]; rw [c6b0]) | skip)
   have H' := Aside0.mk H
   clear H
   go_wp2
   go_meet
   case rel => exact ⟨_, (true), sd_, H', ⟨by first | omega | exact Nat.le_refl _⟩, ⟨by (with_reducible repeat (first | refine blk_drewN ?_ _ | refine blk_drew ?_ | refine blk_alloc ?_ _)); exact BK261.out⟩, ⟨bel_ HB.out⟩⟩
 case rest =>
  clear HC4
  try clear p2
  try clear c4
  try clear c6
  try clear c6b0
  try clear c6b1
  try clear c6b2
  try clear c7
  obtain ⟨kq, x33_3, rfl, HA, HJ3, BK261, HB⟩ := hcut
  cases kq with
  | zero => exact absurd HA.out (by simp [head_first.j0])
  | succ kj3 =>
   have H := HA.out
   clear HA
   simp only [head_first.j0] at H
   by_cases c9 : x33_3 = true
   ·subst c9
    have H1 : (some ((⟨#[]⟩ : ByteArray), (⟨#[]⟩ : ByteArray), (⟨#[]⟩ : ByteArray), ([] : List (S51)), ([] : List (S51)), false)) = some (r1, r2, r3, r4, r5, r6) := by rw [if_pos rfl] at H; exact H
    clear H
    have H := H1
    clear H1
    simp only [Option.some.injEq, Prod.mk.injEq] at H
    obtain ⟨rfl, rfl, rfl, rfl, rfl, rfl⟩ := H
    obtain ⟨hcz10_0, hcz10_1, hcz10_2, hcz10_3, hcz10_4, hfz10_0, hfz10_1, hfz10_2, hfz10_3, hfz10_4⟩ := blk5 BK261.out
    go_wp2
    refine bodyPost_ret (results_ct rfl _ _ gb261 24 #[.string (⟨#[]⟩ : ByteArray), .string (⟨#[]⟩ : ByteArray), .string (⟨#[]⟩ : ByteArray), .slice none 0 0, .slice none 0 0] (0, 0) _ rfl (by (with_reducible repeat (first | refine blk_drewN ?_ _ | refine blk_drew ?_ | refine blk_alloc ?_ _)); refine blk_put (cs := #[.string (⟨#[]⟩ : ByteArray), .string (⟨#[]⟩ : ByteArray), .string (⟨#[]⟩ : ByteArray), .slice none 0 0, .slice none 0 0]) ?_ 4 _ rfl; (with_reducible repeat (first | refine blk_drewN ?_ _ | refine blk_drew ?_ | refine blk_alloc ?_ _)); refine blk_put (cs := #[.string (⟨#[]⟩ : ByteArray), .string (⟨#[]⟩ : ByteArray), .string (⟨#[]⟩ : ByteArray), .slice none 0 0, .slice none 0 0]) ?_ 3 _ rfl; (with_reducible repeat (first | refine blk_drewN ?_ _ | refine blk_drew ?_ | refine blk_alloc ?_ _)); refine blk_put (cs := #[.string (⟨#[]⟩ : ByteArray), .string (⟨#[]⟩ : ByteArray), .string (⟨#[]⟩ : ByteArray), .slice none 0 0, .slice none 0 0]) ?_ 2 _ rfl; (with_reducible repeat (first | refine blk_drewN ?_ _ | refine blk_drew ?_ | refine blk_alloc ?_ _)); refine blk_put (cs := #[.string (⟨#[]⟩ : ByteArray), .string (⟨#[]⟩ : ByteArray), .string (⟨#[]⟩ : ByteArray), .slice none 0 0, .slice none 0 0]) ?_ 1 _ rfl; (with_reducible repeat (first | refine blk_drewN ?_ _ | refine blk_drew ?_ | refine blk_alloc ?_ _)); refine blk_put (cs := #[.string (⟨#[]⟩ : ByteArray), .string (⟨#[]⟩ : ByteArray), .string (⟨#[]⟩ : ByteArray), .slice none 0 0, .slice none 0 0]) ?_ 0 _ rfl; (with_reducible repeat (first | refine blk_drewN ?_ _ | refine blk_drew ?_ | refine blk_alloc ?_ _)); exact BK261.out) Tryz.underlying24 rfl kr_) rfl ?_
    exact ⟨_, _, by first | rfl | (simp [errW_none, errW_some] <;> rfl) | (simp [*, errW_none, errW_some] <;> rfl), by first | exact Kd.R_nil _ _ _ _ _ | exact Kd.N_nil _ _ _ _ _ | exact Kd.V_nil _ _ _ _ _ | exact Kd.Q_nil _ _ _ _ _ | exact Kd.S_nil _ _ _ _ _, by first | exact Kd.R_nil _ _ _ _ _ | exact Kd.N_nil _ _ _ _ _ | exact Kd.V_nil _ _ _ _ _ | exact Kd.Q_nil _ _ _ _ _ | exact Kd.S_nil _ _ _ _ _, bel_ HB.out⟩
   ·replace c9 := Bool.eq_false_iff.mpr c9
    subst c9
    have H1 : ((strings_Cut.f kj3 t265 (⟨#[63]⟩ : ByteArray)).bind fun bt269 => ((query_Parse.f kj3 bt269.2.1).bind fun bt272 => (if bt272.2 = 0 then ((path_Is.f bt269.1).bind fun t276 => (if t276 = true then (if bt269.2.2 = true then (if bt269.2.1.toList = ([] : List UInt8) then (some ((⟨#[]⟩ : ByteArray), (⟨#[]⟩ : ByteArray), (⟨#[]⟩ : ByteArray), ([] : List (S51)), ([] : List (S51)), false)) else (some (t262, (⟨#[]⟩ : ByteArray), bt269.1, bt272.1, ([] : List (S51)), true))) else (some (t262, (⟨#[]⟩ : ByteArray), bt269.1, bt272.1, ([] : List (S51)), true))) else (some ((⟨#[]⟩ : ByteArray), (⟨#[]⟩ : ByteArray), (⟨#[]⟩ : ByteArray), ([] : List (S51)), ([] : List (S51)), false)))) else (some ((⟨#[]⟩ : ByteArray), (⟨#[]⟩ : ByteArray), (⟨#[]⟩ : ByteArray), ([] : List (S51)), ([] : List (S51)), false))))) = some (r1, r2, r3, r4, r5, r6) := by rw [if_neg (show ¬ (false = true) by decide)] at H; exact H
    clear H
    have H := H1
    clear H1
    replace H := Option.bind_eq_some_iff.mp H
    obtain ⟨⟨t269, t270, t271⟩, A110, H⟩ := H
    replace H : ((query_Parse.f kj3 t270).bind fun bt272 => (if bt272.2 = 0 then ((path_Is.f t269).bind fun t276 => (if t276 = true then (if t271 = true then (if t270.toList = ([] : List UInt8) then (some ((⟨#[]⟩ : ByteArray), (⟨#[]⟩ : ByteArray), (⟨#[]⟩ : ByteArray), ([] : List (S51)), ([] : List (S51)), false)) else (some (t262, (⟨#[]⟩ : ByteArray), t269, bt272.1, ([] : List (S51)), true))) else (some (t262, (⟨#[]⟩ : ByteArray), t269, bt272.1, ([] : List (S51)), true))) else (some ((⟨#[]⟩ : ByteArray), (⟨#[]⟩ : ByteArray), (⟨#[]⟩ : ByteArray), ([] : List (S51)), ([] : List (S51)), false)))) else (some ((⟨#[]⟩ : ByteArray), (⟨#[]⟩ : ByteArray), (⟨#[]⟩ : ByteArray), ([] : List (S51)), ([] : List (S51)), false)))) = some (r1, r2, r3, r4, r5, r6) := H
    have A11 := Aside0.mk A110
    clear A110
    replace H := Option.bind_eq_some_iff.mp H
    obtain ⟨⟨t272, t273⟩, A120, H⟩ := H
    replace H : (if t273 = 0 then ((path_Is.f t269).bind fun t276 => (if t276 = true then (if t271 = true then (if t270.toList = ([] : List UInt8) then (some ((⟨#[]⟩ : ByteArray), (⟨#[]⟩ : ByteArray), (⟨#[]⟩ : ByteArray), ([] : List (S51)), ([] : List (S51)), false)) else (some (t262, (⟨#[]⟩ : ByteArray), t269, t272, ([] : List (S51)), true))) else (some (t262, (⟨#[]⟩ : ByteArray), t269, t272, ([] : List (S51)), true))) else (some ((⟨#[]⟩ : ByteArray), (⟨#[]⟩ : ByteArray), (⟨#[]⟩ : ByteArray), ([] : List (S51)), ([] : List (S51)), false)))) else (some ((⟨#[]⟩ : ByteArray), (⟨#[]⟩ : ByteArray), (⟨#[]⟩ : ByteArray), ([] : List (S51)), ([] : List (S51)), false))) = some (r1, r2, r3, r4, r5, r6) := H
    have A12 := Aside0.mk A120
    clear A120
    by_cases c13 : t273 = 0
    ·rw [if_pos c13] at H
     have c13b0 : (t273 == 0) = true := beq_iff_eq.mpr c13
     have c13b1 : (t273 != 0) = false := bne_eq_false_iff_eq.mpr c13
     clear c13
     replace H := Option.bind_eq_some_iff.mp H
     obtain ⟨t276, A140, H⟩ := H
     replace H : (if t276 = true then (if t271 = true then (if t270.toList = ([] : List UInt8) then (some ((⟨#[]⟩ : ByteArray), (⟨#[]⟩ : ByteArray), (⟨#[]⟩ : ByteArray), ([] : List (S51)), ([] : List (S51)), false)) else (some (t262, (⟨#[]⟩ : ByteArray), t269, t272, ([] : List (S51)), true))) else (some (t262, (⟨#[]⟩ : ByteArray), t269, t272, ([] : List (S51)), true))) else (some ((⟨#[]⟩ : ByteArray), (⟨#[]⟩ : ByteArray), (⟨#[]⟩ : ByteArray), ([] : List (S51)), ([] : List (S51)), false))) = some (r1, r2, r3, r4, r5, r6) := H
     have A14 := Aside0.mk A140
     clear A140
     by_cases c15 : t276 = true
     ·subst c15
      have H1 : (if t271 = true then (if t270.toList = ([] : List UInt8) then (some ((⟨#[]⟩ : ByteArray), (⟨#[]⟩ : ByteArray), (⟨#[]⟩ : ByteArray), ([] : List (S51)), ([] : List (S51)), false)) else (some (t262, (⟨#[]⟩ : ByteArray), t269, t272, ([] : List (S51)), true))) else (some (t262, (⟨#[]⟩ : ByteArray), t269, t272, ([] : List (S51)), true))) = some (r1, r2, r3, r4, r5, r6) := by rw [if_pos rfl] at H; exact H
      clear H
      have H := H1
      clear H1
      by_cases c16 : t271 = true
      ·subst c16
       have H1 : (if t270.toList = ([] : List UInt8) then (some ((⟨#[]⟩ : ByteArray), (⟨#[]⟩ : ByteArray), (⟨#[]⟩ : ByteArray), ([] : List (S51)), ([] : List (S51)), false)) else (some (t262, (⟨#[]⟩ : ByteArray), t269, t272, ([] : List (S51)), true))) = some (r1, r2, r3, r4, r5, r6) := by rw [if_pos rfl] at H; exact H
       clear H
       have H := H1
       clear H1
       by_cases c17 : t270.toList = ([] : List UInt8)
       ·rw [if_pos c17] at H
        have c17b0 : (t270.toList == ([] : List UInt8)) = true := beq_iff_eq.mpr c17
        have c17b1 : (t270.toList != ([] : List UInt8)) = false := bne_eq_false_iff_eq.mpr c17
        clear c17
        simp only [Option.some.injEq, Prod.mk.injEq] at H
        obtain ⟨rfl, rfl, rfl, rfl, rfl, rfl⟩ := H
        go_wp2_with (first | ((with_reducible refine gate_callee (f := 78) rfl ?_); refine goesL_ (some 37) rfl rfl Tryz.func78 kr_ rfl #[.string t265, .string (⟨#[63]⟩ : ByteArray)] rfl rl_ ?_; (with_reducible refine (strings_Cut.calls kj3 t265 (⟨#[63]⟩ : ByteArray) t269 t270 true _ A11.out).mono ?_); rintro e w' ⟨rfl, ⟨nd, rfl⟩⟩; refine ⟨_, rfl, ?_⟩; (try (rw [drewN_self wc]; generalize hq_ : World.drewN wc _ = wc; have n0_ : Aside0 (wc.heap[gb261]? = some (.cells #[.string (⟨#[]⟩ : ByteArray), .string (⟨#[]⟩ : ByteArray), .string (⟨#[]⟩ : ByteArray), .slice none 0 0, .slice none 0 0] 24 (0, 0))) := ⟨by rw [← hq_]; exact (blk_ BK261.out)⟩; have n1_ : Aside0 (Below w.heap.size w wc) := ⟨by rw [← hq_]; exact (bel_ HB.out)⟩; clear BK261 HB hq_; have BK261 := n0_; have HB := n1_; clear n0_ n1_))) | ((with_reducible refine gate_callee (f := 79) rfl ?_); refine goesL_ (some 43) rfl rfl Tryz.func79 kr_ rfl #[.string t270] rfl rl_ ?_; (with_reducible refine (query_Parse.calls kj3 t270 t272 t273 _ A12.out).mono ?_); rintro e w18 ⟨v274, rfl, ho0, hb⟩; refine ⟨_, rfl, ?_⟩; have n0_ := am_ (Kd.R_lower ho0 (below_size (bel_ HB.out))); have n1_ := am_ (blk_below (g := gb261) (o := .cells #[.string (⟨#[]⟩ : ByteArray), .string (⟨#[]⟩ : ByteArray), .string (⟨#[]⟩ : ByteArray), .slice none 0 0, .slice none 0 0] 24 (0, 0)) (blk_ BK261.out) hb); have n2_ := am_ (below_step (bel_ HB.out) hb); clear BK261 HB; have HO275 := n0_; have BK261 := n1_; have HB := n2_; clear n0_ n1_ n2_; (try clear hb); (try clear hb2); (try clear hk); (try clear hi); (try clear ho0)) | (go_at_call 16; (with_reducible refine (path_Is.calls t269 true _ A14.out).mono ?_); rintro e w19 ⟨rfl, hb⟩; have n0_ := am_ (Kd.R_below (R_ HO275.out) hb); have n1_ := am_ (blk_below (g := gb261) (o := .cells #[.string (⟨#[]⟩ : ByteArray), .string (⟨#[]⟩ : ByteArray), .string (⟨#[]⟩ : ByteArray), .slice none 0 0, .slice none 0 0] 24 (0, 0)) (blk_ BK261.out) hb); have n2_ := am_ (below_step (bel_ HB.out) hb); clear HO275 BK261 HB; have HO275 := n0_; have BK261 := n1_; have HB := n2_; clear n0_ n1_ n2_; (try clear hb); (try clear hb2); (try clear hk); (try clear hi); obtain ⟨hcz20_0, hcz20_1, hcz20_2, hcz20_3, hcz20_4, hfz20_0, hfz20_1, hfz20_2, hfz20_3, hfz20_4⟩ := blk5 BK261.out))
        refine bodyPost_ret (results_ct rfl _ _ gb261 24 #[.string (⟨#[]⟩ : ByteArray), .string (⟨#[]⟩ : ByteArray), .string (⟨#[]⟩ : ByteArray), .slice none 0 0, .slice none 0 0] (0, 0) _ rfl (by (with_reducible repeat (first | refine blk_drewN ?_ _ | refine blk_drew ?_ | refine blk_alloc ?_ _)); refine blk_put (cs := #[.string (⟨#[]⟩ : ByteArray), .string (⟨#[]⟩ : ByteArray), .string (⟨#[]⟩ : ByteArray), .slice none 0 0, .slice none 0 0]) ?_ 4 _ rfl; (with_reducible repeat (first | refine blk_drewN ?_ _ | refine blk_drew ?_ | refine blk_alloc ?_ _)); refine blk_put (cs := #[.string (⟨#[]⟩ : ByteArray), .string (⟨#[]⟩ : ByteArray), .string (⟨#[]⟩ : ByteArray), .slice none 0 0, .slice none 0 0]) ?_ 3 _ rfl; (with_reducible repeat (first | refine blk_drewN ?_ _ | refine blk_drew ?_ | refine blk_alloc ?_ _)); refine blk_put (cs := #[.string (⟨#[]⟩ : ByteArray), .string (⟨#[]⟩ : ByteArray), .string (⟨#[]⟩ : ByteArray), .slice none 0 0, .slice none 0 0]) ?_ 2 _ rfl; (with_reducible repeat (first | refine blk_drewN ?_ _ | refine blk_drew ?_ | refine blk_alloc ?_ _)); refine blk_put (cs := #[.string (⟨#[]⟩ : ByteArray), .string (⟨#[]⟩ : ByteArray), .string (⟨#[]⟩ : ByteArray), .slice none 0 0, .slice none 0 0]) ?_ 1 _ rfl; (with_reducible repeat (first | refine blk_drewN ?_ _ | refine blk_drew ?_ | refine blk_alloc ?_ _)); refine blk_put (cs := #[.string (⟨#[]⟩ : ByteArray), .string (⟨#[]⟩ : ByteArray), .string (⟨#[]⟩ : ByteArray), .slice none 0 0, .slice none 0 0]) ?_ 0 _ rfl; (with_reducible repeat (first | refine blk_drewN ?_ _ | refine blk_drew ?_ | refine blk_alloc ?_ _)); exact BK261.out) Tryz.underlying24 rfl kr_) rfl ?_
        exact ⟨_, _, by first | rfl | (simp [errW_none, errW_some] <;> rfl) | (simp [*, errW_none, errW_some] <;> rfl), by first | exact Kd.R_nil _ _ _ _ _ | exact Kd.N_nil _ _ _ _ _ | exact Kd.V_nil _ _ _ _ _ | exact Kd.Q_nil _ _ _ _ _ | exact Kd.S_nil _ _ _ _ _, by first | exact Kd.R_nil _ _ _ _ _ | exact Kd.N_nil _ _ _ _ _ | exact Kd.V_nil _ _ _ _ _ | exact Kd.Q_nil _ _ _ _ _ | exact Kd.S_nil _ _ _ _ _, bel_ HB.out⟩
       ·rw [if_neg c17] at H
        have c17b0 : (t270.toList == ([] : List UInt8)) = false := beq_eq_false_iff_ne.mpr c17
        have c17b1 : (t270.toList != ([] : List UInt8)) = true := bne_iff_ne.mpr c17
        simp only [Option.some.injEq, Prod.mk.injEq] at H
        obtain ⟨rfl, rfl, rfl, rfl, rfl, rfl⟩ := H
        go_wp2_with (first | ((with_reducible refine gate_callee (f := 78) rfl ?_); refine goesL_ (some 37) rfl rfl Tryz.func78 kr_ rfl #[.string t265, .string (⟨#[63]⟩ : ByteArray)] rfl rl_ ?_; (with_reducible refine (strings_Cut.calls kj3 t265 (⟨#[63]⟩ : ByteArray) t269 t270 true _ A11.out).mono ?_); rintro e w' ⟨rfl, ⟨nd, rfl⟩⟩; refine ⟨_, rfl, ?_⟩; (try (rw [drewN_self wc]; generalize hq_ : World.drewN wc _ = wc; have n0_ : Aside0 (wc.heap[gb261]? = some (.cells #[.string (⟨#[]⟩ : ByteArray), .string (⟨#[]⟩ : ByteArray), .string (⟨#[]⟩ : ByteArray), .slice none 0 0, .slice none 0 0] 24 (0, 0))) := ⟨by rw [← hq_]; exact (blk_ BK261.out)⟩; have n1_ : Aside0 (Below w.heap.size w wc) := ⟨by rw [← hq_]; exact (bel_ HB.out)⟩; clear BK261 HB hq_; have BK261 := n0_; have HB := n1_; clear n0_ n1_))) | ((with_reducible refine gate_callee (f := 79) rfl ?_); refine goesL_ (some 43) rfl rfl Tryz.func79 kr_ rfl #[.string t270] rfl rl_ ?_; (with_reducible refine (query_Parse.calls kj3 t270 t272 t273 _ A12.out).mono ?_); rintro e w21 ⟨v274, rfl, ho0, hb⟩; refine ⟨_, rfl, ?_⟩; have n0_ := am_ (Kd.R_lower ho0 (below_size (bel_ HB.out))); have n1_ := am_ (blk_below (g := gb261) (o := .cells #[.string (⟨#[]⟩ : ByteArray), .string (⟨#[]⟩ : ByteArray), .string (⟨#[]⟩ : ByteArray), .slice none 0 0, .slice none 0 0] 24 (0, 0)) (blk_ BK261.out) hb); have n2_ := am_ (below_step (bel_ HB.out) hb); clear BK261 HB; have HO275 := n0_; have BK261 := n1_; have HB := n2_; clear n0_ n1_ n2_; (try clear hb); (try clear hb2); (try clear hk); (try clear hi); (try clear ho0)) | (go_at_call 16; (with_reducible refine (path_Is.calls t269 true _ A14.out).mono ?_); rintro e w22 ⟨rfl, hb⟩; have n0_ := am_ (Kd.R_below (R_ HO275.out) hb); have n1_ := am_ (blk_below (g := gb261) (o := .cells #[.string (⟨#[]⟩ : ByteArray), .string (⟨#[]⟩ : ByteArray), .string (⟨#[]⟩ : ByteArray), .slice none 0 0, .slice none 0 0] 24 (0, 0)) (blk_ BK261.out) hb); have n2_ := am_ (below_step (bel_ HB.out) hb); clear HO275 BK261 HB; have HO275 := n0_; have BK261 := n1_; have HB := n2_; clear n0_ n1_ n2_; (try clear hb); (try clear hb2); (try clear hk); (try clear hi); obtain ⟨Ao23, co23, eo23⟩ := Kd.R_slice HO275.out; subst eo23; obtain ⟨hcz24_0, hcz24_1, hcz24_2, hcz24_3, hcz24_4, hfz24_0, hfz24_1, hfz24_2, hfz24_3, hfz24_4⟩ := blk5 BK261.out))
        refine bodyPost_ret (results_ct rfl _ _ gb261 24 #[.string t262, .string (⟨#[]⟩ : ByteArray), .string t269, .slice Ao23 t272.length co23, .slice none 0 0] (0, 0) _ rfl (by (with_reducible repeat (first | refine blk_drewN ?_ _ | refine blk_drew ?_ | refine blk_alloc ?_ _)); refine blk_put (cs := #[.string t262, .string (⟨#[]⟩ : ByteArray), .string t269, .slice Ao23 t272.length co23, .slice none 0 0]) ?_ 4 _ rfl; (with_reducible repeat (first | refine blk_drewN ?_ _ | refine blk_drew ?_ | refine blk_alloc ?_ _)); refine blk_put (cs := #[.string t262, .string (⟨#[]⟩ : ByteArray), .string t269, .slice none 0 0, .slice none 0 0]) ?_ 3 _ rfl; (with_reducible repeat (first | refine blk_drewN ?_ _ | refine blk_drew ?_ | refine blk_alloc ?_ _)); refine blk_put (cs := #[.string t262, .string (⟨#[]⟩ : ByteArray), .string (⟨#[]⟩ : ByteArray), .slice none 0 0, .slice none 0 0]) ?_ 2 _ rfl; (with_reducible repeat (first | refine blk_drewN ?_ _ | refine blk_drew ?_ | refine blk_alloc ?_ _)); refine blk_put (cs := #[.string t262, .string (⟨#[]⟩ : ByteArray), .string (⟨#[]⟩ : ByteArray), .slice none 0 0, .slice none 0 0]) ?_ 1 _ rfl; (with_reducible repeat (first | refine blk_drewN ?_ _ | refine blk_drew ?_ | refine blk_alloc ?_ _)); refine blk_put (cs := #[.string (⟨#[]⟩ : ByteArray), .string (⟨#[]⟩ : ByteArray), .string (⟨#[]⟩ : ByteArray), .slice none 0 0, .slice none 0 0]) ?_ 0 _ rfl; (with_reducible repeat (first | refine blk_drewN ?_ _ | refine blk_drew ?_ | refine blk_alloc ?_ _)); exact BK261.out) Tryz.underlying24 rfl kr_) rfl ?_
        exact ⟨_, _, by first | rfl | (simp [errW_none, errW_some] <;> rfl) | (simp [*, errW_none, errW_some] <;> rfl), by (with_reducible repeat (first | apply Kd.R_alloc | apply Kd.R_drewN | apply Kd.R_drew)); exact Kd.R_mono (Kd.R_far (p := ⟨gb261, 4, none⟩) (Kd.R_far (p := ⟨gb261, 3, none⟩) (Kd.R_far (p := ⟨gb261, 2, none⟩) (Kd.R_far (p := ⟨gb261, 1, none⟩) (Kd.R_far (p := ⟨gb261, 0, none⟩) (Kd.R_types HO275.out BK261.out (by decide)) (fun _ hk => hk.2) (.string t262)) (fun _ hk => hk.2) (.string (⟨#[]⟩ : ByteArray))) (fun _ hk => hk.2) (.string t269)) (fun _ hk => hk.2) (.slice Ao23 t272.length co23)) (fun _ hk => hk.2) (.slice none 0 0)) (fun _ hk => (by simp [Value.ownBlock])), by first | exact Kd.R_nil _ _ _ _ _ | exact Kd.N_nil _ _ _ _ _ | exact Kd.V_nil _ _ _ _ _ | exact Kd.Q_nil _ _ _ _ _ | exact Kd.S_nil _ _ _ _ _, bel_ HB.out⟩
      ·replace c16 := Bool.eq_false_iff.mpr c16
       subst c16
       have H1 : (some (t262, (⟨#[]⟩ : ByteArray), t269, t272, ([] : List (S51)), true)) = some (r1, r2, r3, r4, r5, r6) := by rw [if_neg (show ¬ (false = true) by decide)] at H; exact H
       clear H
       have H := H1
       clear H1
       simp only [Option.some.injEq, Prod.mk.injEq] at H
       obtain ⟨rfl, rfl, rfl, rfl, rfl, rfl⟩ := H
       go_wp2_with (first | ((with_reducible refine gate_callee (f := 78) rfl ?_); refine goesL_ (some 37) rfl rfl Tryz.func78 kr_ rfl #[.string t265, .string (⟨#[63]⟩ : ByteArray)] rfl rl_ ?_; (with_reducible refine (strings_Cut.calls kj3 t265 (⟨#[63]⟩ : ByteArray) t269 t270 false _ A11.out).mono ?_); rintro e w' ⟨rfl, ⟨nd, rfl⟩⟩; refine ⟨_, rfl, ?_⟩; (try (rw [drewN_self wc]; generalize hq_ : World.drewN wc _ = wc; have n0_ : Aside0 (wc.heap[gb261]? = some (.cells #[.string (⟨#[]⟩ : ByteArray), .string (⟨#[]⟩ : ByteArray), .string (⟨#[]⟩ : ByteArray), .slice none 0 0, .slice none 0 0] 24 (0, 0))) := ⟨by rw [← hq_]; exact (blk_ BK261.out)⟩; have n1_ : Aside0 (Below w.heap.size w wc) := ⟨by rw [← hq_]; exact (bel_ HB.out)⟩; clear BK261 HB hq_; have BK261 := n0_; have HB := n1_; clear n0_ n1_))) | ((with_reducible refine gate_callee (f := 79) rfl ?_); refine goesL_ (some 43) rfl rfl Tryz.func79 kr_ rfl #[.string t270] rfl rl_ ?_; (with_reducible refine (query_Parse.calls kj3 t270 t272 t273 _ A12.out).mono ?_); rintro e w25 ⟨v274, rfl, ho0, hb⟩; refine ⟨_, rfl, ?_⟩; have n0_ := am_ (Kd.R_lower ho0 (below_size (bel_ HB.out))); have n1_ := am_ (blk_below (g := gb261) (o := .cells #[.string (⟨#[]⟩ : ByteArray), .string (⟨#[]⟩ : ByteArray), .string (⟨#[]⟩ : ByteArray), .slice none 0 0, .slice none 0 0] 24 (0, 0)) (blk_ BK261.out) hb); have n2_ := am_ (below_step (bel_ HB.out) hb); clear BK261 HB; have HO275 := n0_; have BK261 := n1_; have HB := n2_; clear n0_ n1_ n2_; (try clear hb); (try clear hb2); (try clear hk); (try clear hi); (try clear ho0)) | (go_at_call 16; (with_reducible refine (path_Is.calls t269 true _ A14.out).mono ?_); rintro e w26 ⟨rfl, hb⟩; have n0_ := am_ (Kd.R_below (R_ HO275.out) hb); have n1_ := am_ (blk_below (g := gb261) (o := .cells #[.string (⟨#[]⟩ : ByteArray), .string (⟨#[]⟩ : ByteArray), .string (⟨#[]⟩ : ByteArray), .slice none 0 0, .slice none 0 0] 24 (0, 0)) (blk_ BK261.out) hb); have n2_ := am_ (below_step (bel_ HB.out) hb); clear HO275 BK261 HB; have HO275 := n0_; have BK261 := n1_; have HB := n2_; clear n0_ n1_ n2_; (try clear hb); (try clear hb2); (try clear hk); (try clear hi); obtain ⟨Ao27, co27, eo27⟩ := Kd.R_slice HO275.out; subst eo27; obtain ⟨hcz28_0, hcz28_1, hcz28_2, hcz28_3, hcz28_4, hfz28_0, hfz28_1, hfz28_2, hfz28_3, hfz28_4⟩ := blk5 BK261.out))
       refine bodyPost_ret (results_ct rfl _ _ gb261 24 #[.string t262, .string (⟨#[]⟩ : ByteArray), .string t269, .slice Ao27 t272.length co27, .slice none 0 0] (0, 0) _ rfl (by (with_reducible repeat (first | refine blk_drewN ?_ _ | refine blk_drew ?_ | refine blk_alloc ?_ _)); refine blk_put (cs := #[.string t262, .string (⟨#[]⟩ : ByteArray), .string t269, .slice Ao27 t272.length co27, .slice none 0 0]) ?_ 4 _ rfl; (with_reducible repeat (first | refine blk_drewN ?_ _ | refine blk_drew ?_ | refine blk_alloc ?_ _)); refine blk_put (cs := #[.string t262, .string (⟨#[]⟩ : ByteArray), .string t269, .slice none 0 0, .slice none 0 0]) ?_ 3 _ rfl; (with_reducible repeat (first | refine blk_drewN ?_ _ | refine blk_drew ?_ | refine blk_alloc ?_ _)); refine blk_put (cs := #[.string t262, .string (⟨#[]⟩ : ByteArray), .string (⟨#[]⟩ : ByteArray), .slice none 0 0, .slice none 0 0]) ?_ 2 _ rfl; (with_reducible repeat (first | refine blk_drewN ?_ _ | refine blk_drew ?_ | refine blk_alloc ?_ _)); refine blk_put (cs := #[.string t262, .string (⟨#[]⟩ : ByteArray), .string (⟨#[]⟩ : ByteArray), .slice none 0 0, .slice none 0 0]) ?_ 1 _ rfl; (with_reducible repeat (first | refine blk_drewN ?_ _ | refine blk_drew ?_ | refine blk_alloc ?_ _)); refine blk_put (cs := #[.string (⟨#[]⟩ : ByteArray), .string (⟨#[]⟩ : ByteArray), .string (⟨#[]⟩ : ByteArray), .slice none 0 0, .slice none 0 0]) ?_ 0 _ rfl; (with_reducible repeat (first | refine blk_drewN ?_ _ | refine blk_drew ?_ | refine blk_alloc ?_ _)); exact BK261.out) Tryz.underlying24 rfl kr_) rfl ?_
       exact ⟨_, _, by first | rfl | (simp [errW_none, errW_some] <;> rfl) | (simp [*, errW_none, errW_some] <;> rfl), by (with_reducible repeat (first | apply Kd.R_alloc | apply Kd.R_drewN | apply Kd.R_drew)); exact Kd.R_mono (Kd.R_far (p := ⟨gb261, 4, none⟩) (Kd.R_far (p := ⟨gb261, 3, none⟩) (Kd.R_far (p := ⟨gb261, 2, none⟩) (Kd.R_far (p := ⟨gb261, 1, none⟩) (Kd.R_far (p := ⟨gb261, 0, none⟩) (Kd.R_types HO275.out BK261.out (by decide)) (fun _ hk => hk.2) (.string t262)) (fun _ hk => hk.2) (.string (⟨#[]⟩ : ByteArray))) (fun _ hk => hk.2) (.string t269)) (fun _ hk => hk.2) (.slice Ao27 t272.length co27)) (fun _ hk => hk.2) (.slice none 0 0)) (fun _ hk => (by simp [Value.ownBlock])), by first | exact Kd.R_nil _ _ _ _ _ | exact Kd.N_nil _ _ _ _ _ | exact Kd.V_nil _ _ _ _ _ | exact Kd.Q_nil _ _ _ _ _ | exact Kd.S_nil _ _ _ _ _, bel_ HB.out⟩
     ·replace c15 := Bool.eq_false_iff.mpr c15
      subst c15
      have H1 : (some ((⟨#[]⟩ : ByteArray), (⟨#[]⟩ : ByteArray), (⟨#[]⟩ : ByteArray), ([] : List (S51)), ([] : List (S51)), false)) = some (r1, r2, r3, r4, r5, r6) := by rw [if_neg (show ¬ (false = true) by decide)] at H; exact H
      clear H
      have H := H1
      clear H1
      simp only [Option.some.injEq, Prod.mk.injEq] at H
      obtain ⟨rfl, rfl, rfl, rfl, rfl, rfl⟩ := H
      go_wp2_with (first | ((with_reducible refine gate_callee (f := 78) rfl ?_); refine goesL_ (some 37) rfl rfl Tryz.func78 kr_ rfl #[.string t265, .string (⟨#[63]⟩ : ByteArray)] rfl rl_ ?_; (with_reducible refine (strings_Cut.calls kj3 t265 (⟨#[63]⟩ : ByteArray) t269 t270 t271 _ A11.out).mono ?_); rintro e w' ⟨rfl, ⟨nd, rfl⟩⟩; refine ⟨_, rfl, ?_⟩; (try (rw [drewN_self wc]; generalize hq_ : World.drewN wc _ = wc; have n0_ : Aside0 (wc.heap[gb261]? = some (.cells #[.string (⟨#[]⟩ : ByteArray), .string (⟨#[]⟩ : ByteArray), .string (⟨#[]⟩ : ByteArray), .slice none 0 0, .slice none 0 0] 24 (0, 0))) := ⟨by rw [← hq_]; exact (blk_ BK261.out)⟩; have n1_ : Aside0 (Below w.heap.size w wc) := ⟨by rw [← hq_]; exact (bel_ HB.out)⟩; clear BK261 HB hq_; have BK261 := n0_; have HB := n1_; clear n0_ n1_))) | ((with_reducible refine gate_callee (f := 79) rfl ?_); refine goesL_ (some 43) rfl rfl Tryz.func79 kr_ rfl #[.string t270] rfl rl_ ?_; (with_reducible refine (query_Parse.calls kj3 t270 t272 t273 _ A12.out).mono ?_); rintro e w29 ⟨v274, rfl, ho0, hb⟩; refine ⟨_, rfl, ?_⟩; have n0_ := am_ (Kd.R_lower ho0 (below_size (bel_ HB.out))); have n1_ := am_ (blk_below (g := gb261) (o := .cells #[.string (⟨#[]⟩ : ByteArray), .string (⟨#[]⟩ : ByteArray), .string (⟨#[]⟩ : ByteArray), .slice none 0 0, .slice none 0 0] 24 (0, 0)) (blk_ BK261.out) hb); have n2_ := am_ (below_step (bel_ HB.out) hb); clear BK261 HB; have HO275 := n0_; have BK261 := n1_; have HB := n2_; clear n0_ n1_ n2_; (try clear hb); (try clear hb2); (try clear hk); (try clear hi); (try clear ho0)) | (go_at_call 16; (with_reducible refine (path_Is.calls t269 false _ A14.out).mono ?_); rintro e w30 ⟨rfl, hb⟩; have n0_ := am_ (Kd.R_below (R_ HO275.out) hb); have n1_ := am_ (blk_below (g := gb261) (o := .cells #[.string (⟨#[]⟩ : ByteArray), .string (⟨#[]⟩ : ByteArray), .string (⟨#[]⟩ : ByteArray), .slice none 0 0, .slice none 0 0] 24 (0, 0)) (blk_ BK261.out) hb); have n2_ := am_ (below_step (bel_ HB.out) hb); clear HO275 BK261 HB; have HO275 := n0_; have BK261 := n1_; have HB := n2_; clear n0_ n1_ n2_; (try clear hb); (try clear hb2); (try clear hk); (try clear hi); obtain ⟨hcz31_0, hcz31_1, hcz31_2, hcz31_3, hcz31_4, hfz31_0, hfz31_1, hfz31_2, hfz31_3, hfz31_4⟩ := blk5 BK261.out))
      refine bodyPost_ret (results_ct rfl _ _ gb261 24 #[.string (⟨#[]⟩ : ByteArray), .string (⟨#[]⟩ : ByteArray), .string (⟨#[]⟩ : ByteArray), .slice none 0 0, .slice none 0 0] (0, 0) _ rfl (by (with_reducible repeat (first | refine blk_drewN ?_ _ | refine blk_drew ?_ | refine blk_alloc ?_ _)); refine blk_put (cs := #[.string (⟨#[]⟩ : ByteArray), .string (⟨#[]⟩ : ByteArray), .string (⟨#[]⟩ : ByteArray), .slice none 0 0, .slice none 0 0]) ?_ 4 _ rfl; (with_reducible repeat (first | refine blk_drewN ?_ _ | refine blk_drew ?_ | refine blk_alloc ?_ _)); refine blk_put (cs := #[.string (⟨#[]⟩ : ByteArray), .string (⟨#[]⟩ : ByteArray), .string (⟨#[]⟩ : ByteArray), .slice none 0 0, .slice none 0 0]) ?_ 3 _ rfl; (with_reducible repeat (first | refine blk_drewN ?_ _ | refine blk_drew ?_ | refine blk_alloc ?_ _)); refine blk_put (cs := #[.string (⟨#[]⟩ : ByteArray), .string (⟨#[]⟩ : ByteArray), .string (⟨#[]⟩ : ByteArray), .slice none 0 0, .slice none 0 0]) ?_ 2 _ rfl; (with_reducible repeat (first | refine blk_drewN ?_ _ | refine blk_drew ?_ | refine blk_alloc ?_ _)); refine blk_put (cs := #[.string (⟨#[]⟩ : ByteArray), .string (⟨#[]⟩ : ByteArray), .string (⟨#[]⟩ : ByteArray), .slice none 0 0, .slice none 0 0]) ?_ 1 _ rfl; (with_reducible repeat (first | refine blk_drewN ?_ _ | refine blk_drew ?_ | refine blk_alloc ?_ _)); refine blk_put (cs := #[.string (⟨#[]⟩ : ByteArray), .string (⟨#[]⟩ : ByteArray), .string (⟨#[]⟩ : ByteArray), .slice none 0 0, .slice none 0 0]) ?_ 0 _ rfl; (with_reducible repeat (first | refine blk_drewN ?_ _ | refine blk_drew ?_ | refine blk_alloc ?_ _)); exact BK261.out) Tryz.underlying24 rfl kr_) rfl ?_
      exact ⟨_, _, by first | rfl | (simp [errW_none, errW_some] <;> rfl) | (simp [*, errW_none, errW_some] <;> rfl), by first | exact Kd.R_nil _ _ _ _ _ | exact Kd.N_nil _ _ _ _ _ | exact Kd.V_nil _ _ _ _ _ | exact Kd.Q_nil _ _ _ _ _ | exact Kd.S_nil _ _ _ _ _, by first | exact Kd.R_nil _ _ _ _ _ | exact Kd.N_nil _ _ _ _ _ | exact Kd.V_nil _ _ _ _ _ | exact Kd.Q_nil _ _ _ _ _ | exact Kd.S_nil _ _ _ _ _, bel_ HB.out⟩
    ·rw [if_neg c13] at H
     have c13b0 : (t273 == 0) = false := beq_eq_false_iff_ne.mpr c13
     have c13b1 : (t273 != 0) = true := bne_iff_ne.mpr c13
     simp only [Option.some.injEq, Prod.mk.injEq] at H
     obtain ⟨rfl, rfl, rfl, rfl, rfl, rfl⟩ := H
     go_wp2_with (first | ((with_reducible refine gate_callee (f := 78) rfl ?_); refine goesL_ (some 37) rfl rfl Tryz.func78 kr_ rfl #[.string t265, .string (⟨#[63]⟩ : ByteArray)] rfl rl_ ?_; (with_reducible refine (strings_Cut.calls kj3 t265 (⟨#[63]⟩ : ByteArray) t269 t270 t271 _ A11.out).mono ?_); rintro e w' ⟨rfl, ⟨nd, rfl⟩⟩; refine ⟨_, rfl, ?_⟩; (try (rw [drewN_self wc]; generalize hq_ : World.drewN wc _ = wc; have n0_ : Aside0 (wc.heap[gb261]? = some (.cells #[.string (⟨#[]⟩ : ByteArray), .string (⟨#[]⟩ : ByteArray), .string (⟨#[]⟩ : ByteArray), .slice none 0 0, .slice none 0 0] 24 (0, 0))) := ⟨by rw [← hq_]; exact (blk_ BK261.out)⟩; have n1_ : Aside0 (Below w.heap.size w wc) := ⟨by rw [← hq_]; exact (bel_ HB.out)⟩; clear BK261 HB hq_; have BK261 := n0_; have HB := n1_; clear n0_ n1_))) | ((with_reducible refine gate_callee (f := 79) rfl ?_); refine goesL_ (some 43) rfl rfl Tryz.func79 kr_ rfl #[.string t270] rfl rl_ ?_; (with_reducible refine (query_Parse.calls kj3 t270 t272 t273 _ A12.out).mono ?_); rintro e w32 ⟨v274, rfl, ho0, hb⟩; refine ⟨_, rfl, ?_⟩; have n0_ := am_ (Kd.R_lower ho0 (below_size (bel_ HB.out))); have n1_ := am_ (blk_below (g := gb261) (o := .cells #[.string (⟨#[]⟩ : ByteArray), .string (⟨#[]⟩ : ByteArray), .string (⟨#[]⟩ : ByteArray), .slice none 0 0, .slice none 0 0] 24 (0, 0)) (blk_ BK261.out) hb); have n2_ := am_ (below_step (bel_ HB.out) hb); clear BK261 HB; have HO275 := n0_; have BK261 := n1_; have HB := n2_; clear n0_ n1_ n2_; (try clear hb); (try clear hb2); (try clear hk); (try clear hi); (try clear ho0); obtain ⟨hcz33_0, hcz33_1, hcz33_2, hcz33_3, hcz33_4, hfz33_0, hfz33_1, hfz33_2, hfz33_3, hfz33_4⟩ := blk5 BK261.out))
     refine bodyPost_ret (results_ct rfl _ _ gb261 24 #[.string (⟨#[]⟩ : ByteArray), .string (⟨#[]⟩ : ByteArray), .string (⟨#[]⟩ : ByteArray), .slice none 0 0, .slice none 0 0] (0, 0) _ rfl (by (with_reducible repeat (first | refine blk_drewN ?_ _ | refine blk_drew ?_ | refine blk_alloc ?_ _)); refine blk_put (cs := #[.string (⟨#[]⟩ : ByteArray), .string (⟨#[]⟩ : ByteArray), .string (⟨#[]⟩ : ByteArray), .slice none 0 0, .slice none 0 0]) ?_ 4 _ rfl; (with_reducible repeat (first | refine blk_drewN ?_ _ | refine blk_drew ?_ | refine blk_alloc ?_ _)); refine blk_put (cs := #[.string (⟨#[]⟩ : ByteArray), .string (⟨#[]⟩ : ByteArray), .string (⟨#[]⟩ : ByteArray), .slice none 0 0, .slice none 0 0]) ?_ 3 _ rfl; (with_reducible repeat (first | refine blk_drewN ?_ _ | refine blk_drew ?_ | refine blk_alloc ?_ _)); refine blk_put (cs := #[.string (⟨#[]⟩ : ByteArray), .string (⟨#[]⟩ : ByteArray), .string (⟨#[]⟩ : ByteArray), .slice none 0 0, .slice none 0 0]) ?_ 2 _ rfl; (with_reducible repeat (first | refine blk_drewN ?_ _ | refine blk_drew ?_ | refine blk_alloc ?_ _)); refine blk_put (cs := #[.string (⟨#[]⟩ : ByteArray), .string (⟨#[]⟩ : ByteArray), .string (⟨#[]⟩ : ByteArray), .slice none 0 0, .slice none 0 0]) ?_ 1 _ rfl; (with_reducible repeat (first | refine blk_drewN ?_ _ | refine blk_drew ?_ | refine blk_alloc ?_ _)); refine blk_put (cs := #[.string (⟨#[]⟩ : ByteArray), .string (⟨#[]⟩ : ByteArray), .string (⟨#[]⟩ : ByteArray), .slice none 0 0, .slice none 0 0]) ?_ 0 _ rfl; (with_reducible repeat (first | refine blk_drewN ?_ _ | refine blk_drew ?_ | refine blk_alloc ?_ _)); exact BK261.out) Tryz.underlying24 rfl kr_) rfl ?_
     exact ⟨_, _, by first | rfl | (simp [errW_none, errW_some] <;> rfl) | (simp [*, errW_none, errW_some] <;> rfl), by first | exact Kd.R_nil _ _ _ _ _ | exact Kd.N_nil _ _ _ _ _ | exact Kd.V_nil _ _ _ _ _ | exact Kd.Q_nil _ _ _ _ _ | exact Kd.S_nil _ _ _ _ _, by first | exact Kd.R_nil _ _ _ _ _ | exact Kd.N_nil _ _ _ _ _ | exact Kd.V_nil _ _ _ _ _ | exact Kd.Q_nil _ _ _ _ _ | exact Kd.S_nil _ _ _ _ _, bel_ HB.out⟩

/-! ### head_field: function 48 -/
def head_field.f (k : Nat) (a0 : ByteArray) : Option (ByteArray × ByteArray × Bool) := (strings_Cut.f k a0 (⟨#[58]⟩ : ByteArray)).bind fun bt278 => ((strings_Trim.f bt278.2.1 (⟨#[32]⟩ : ByteArray)).bind fun t281 => (if bt278.2.2 = true then ((pairs_Token.f k bt278.1).bind fun t283 => (if t283 = true then ((pairs_Value.f k t281).bind fun t284 => (some (bt278.1, t281, t284))) else (some (bt278.1, t281, false)))) else (some (bt278.1, t281, false))))
theorem head_field.mono : ∀ a0 k, LeO (head_field.f k a0) (head_field.f (k + 1) a0) := by
 intro a0 k
 unfold head_field.f
 repeat' first
   | (with_reducible exact pairs_Token.mono _ _)
   | (with_reducible exact pairs_Value.mono _ _)
   | (with_reducible exact strings_Cut.mono _ _ _)
   | (with_reducible exact LeO.refl _)
   | (with_reducible exact LeO.none _)
   | (with_reducible refine LeO.ite ?_ ?_)
   | (with_reducible refine LeO.bind ?_ (fun _ => ?_))
   | exact pairs_Token.mono _ _
   | exact pairs_Value.mono _ _
   | exact strings_Cut.mono _ _ _
   | exact LeO.none _
   | refine LeO.ite ?_ ?_
   | refine LeO.bind ?_ (fun _ => ?_)
def head_field.T3 : Bool × List (List Nat × List Nat) := (true, [([], []), ([], []), ([1], [1]), ([2], [2]), ([3, 2], [2, 3]), ([4, 2, 2], [2, 4]), ([2, 5], [2, 5]), ([6, 5], [6]), ([7], [7]), ([8, 7], [7, 8]), ([9, 7, 7], [7, 9]), ([7, 10], [7, 10]), ([0, 10, 0], [0]), ([11, 12, 0, 1, 2, 3, 4, 5, 6, 7, 8, 9, 10, 11, 12], [11])])
def head_field.B3 : List Nat := [0, 0, 2, 6, 14, 30, 62, 126, 254, 510, 1022, 2046, 2047, 8191]
theorem head_field.tab3 : rtab .any (opsOf Tryz.f48 3) = head_field.T3 := by kernel_rfl
theorem head_field.bits3 : waitsOk head_field.T3.2 head_field.B3 = true := by kernel_rfl
set_option maxHeartbeats 8000000 in
set_option maxRecDepth 100000 in
theorem head_field.calls (k : Nat) (a0 : ByteArray) (r1 : ByteArray) (r2 : ByteArray) (r3 : Bool) (w : World) (h : head_field.f k a0 = some (r1, r2, r3)) :
  Calls Tryz.prog 48 #[.string a0] w fun e w' => e = .returned (.tuple #[.agg #[.string r1, .string r2], .bool r3]) ∧ Below w.heap.size w w' := by
 have hu51 := Tryz.underlying51
 have HB := am_ (Below.refl w.heap.size w)
 have H : ((strings_Cut.f k a0 (⟨#[58]⟩ : ByteArray)).bind fun bt278 => ((strings_Trim.f bt278.2.1 (⟨#[32]⟩ : ByteArray)).bind fun t281 => (if bt278.2.2 = true then ((pairs_Token.f k bt278.1).bind fun t283 => (if t283 = true then ((pairs_Value.f k t281).bind fun t284 => (some (bt278.1, t281, t284))) else (some (bt278.1, t281, false)))) else (some (bt278.1, t281, false))))) = some (r1, r2, r3) := h
 clear h
 replace H := Option.bind_eq_some_iff.mp H
 obtain ⟨⟨t278, t279, t280⟩, A20, H⟩ := H
 replace H : ((strings_Trim.f t279 (⟨#[32]⟩ : ByteArray)).bind fun t281 => (if t280 = true then ((pairs_Token.f k t278).bind fun t283 => (if t283 = true then ((pairs_Value.f k t281).bind fun t284 => (some (t278, t281, t284))) else (some (t278, t281, false)))) else (some (t278, t281, false)))) = some (r1, r2, r3) := H
 have A2 := Aside0.mk A20
 clear A20
 replace H := Option.bind_eq_some_iff.mp H
 obtain ⟨t281, A30, H⟩ := H
 replace H : (if t280 = true then ((pairs_Token.f k t278).bind fun t283 => (if t283 = true then ((pairs_Value.f k t281).bind fun t284 => (some (t278, t281, t284))) else (some (t278, t281, false)))) else (some (t278, t281, false))) = some (r1, r2, r3) := H
 have A3 := Aside0.mk A30
 clear A30
 by_cases c4 : t280 = true
 ·subst c4
  have H1 : ((pairs_Token.f k t278).bind fun t283 => (if t283 = true then ((pairs_Value.f k t281).bind fun t284 => (some (t278, t281, t284))) else (some (t278, t281, false)))) = some (r1, r2, r3) := by rw [if_pos rfl] at H; exact H
  clear H
  have H := H1
  clear H1
  replace H := Option.bind_eq_some_iff.mp H
  obtain ⟨t283, A50, H⟩ := H
  replace H : (if t283 = true then ((pairs_Value.f k t281).bind fun t284 => (some (t278, t281, t284))) else (some (t278, t281, false))) = some (r1, r2, r3) := H
  have A5 := Aside0.mk A50
  clear A50
  by_cases c6 : t283 = true
  ·subst c6
   have H1 : ((pairs_Value.f k t281).bind fun t284 => (some (t278, t281, t284))) = some (r1, r2, r3) := by rw [if_pos rfl] at H; exact H
   clear H
   have H := H1
   clear H1
   replace H := Option.bind_eq_some_iff.mp H
   obtain ⟨t284, A70, H⟩ := H
   replace H : (some (t278, t281, t284)) = some (r1, r2, r3) := H
   have A7 := Aside0.mk A70
   clear A70
   simp only [Option.some.injEq, Prod.mk.injEq] at H
   obtain ⟨rfl, rfl, rfl⟩ := H
   go_enter Tryz.func48, Tryz.ntmps48
   try go_wp2_with (first | ((with_reducible refine gate_dst (N := 2) rfl ?_); refine box_event ?hg (N := 2) ?hd (cs := #[.string (⟨#[]⟩ : ByteArray), .string (⟨#[]⟩ : ByteArray)]) (t := 51) ?hr ?_; (case hd => rfl); (case hg => rfl); (case hr => first | (go_simp; done) | (go_simp; rfl)); intro gb277 hg w8 hbox hb; have n0_ := am_ (below_step (bel_ HB.out) hb); have n1_ := am_ (hbox); have n2_ := am_ ((by rw [hg]; exact (below_size (bel_ HB.out)) : w.heap.size ≤ gb277)); have n3_ := am_ ((by rw [hg]; exact (below_size (bel_ HB.out)) : w.heap.size ≤ gb277)); clear HB; have HB := n0_; have BK277 := n1_; have GW277 := n2_; have GE277 := n3_; clear n0_ n1_ n2_ n3_ hb hbox hg) | ((with_reducible refine gate_callee (f := 78) rfl ?_); refine goesL_ (some 10) rfl rfl Tryz.func78 kr_ rfl #[.string a0, .string (⟨#[58]⟩ : ByteArray)] rfl rl_ ?_; (with_reducible refine (strings_Cut.calls k a0 (⟨#[58]⟩ : ByteArray) t278 t279 true _ A2.out).mono ?_); rintro e w' ⟨rfl, ⟨nd, rfl⟩⟩; refine ⟨_, rfl, ?_⟩; (try (rw [drewN_self w8]; generalize hq_ : World.drewN w8 _ = w8; have n0_ : Aside0 (w8.heap[gb277]? = some (.cells #[.string (⟨#[]⟩ : ByteArray), .string (⟨#[]⟩ : ByteArray)] 51 (0, 0))) := ⟨by rw [← hq_]; exact (blk_ BK277.out)⟩; have n1_ : Aside0 (Below w.heap.size w w8) := ⟨by rw [← hq_]; exact (bel_ HB.out)⟩; clear BK277 HB hq_; have BK277 := n0_; have HB := n1_; clear n0_ n1_))) | ((with_reducible refine gate_callee (f := 41) rfl ?_); refine goesL_ (some 16) rfl rfl Tryz.func41 kr_ rfl #[.string t279, .string (⟨#[32]⟩ : ByteArray)] rfl rl_ ?_; (with_reducible refine (strings_Trim.calls t279 (⟨#[32]⟩ : ByteArray) t281 _ A3.out).mono ?_); rintro e w9 ⟨rfl, hb⟩; refine ⟨_, rfl, ?_⟩; have n0_ := am_ (blk_below (g := gb277) (o := .cells #[.string (⟨#[]⟩ : ByteArray), .string (⟨#[]⟩ : ByteArray)] 51 (0, 0)) (blk_ BK277.out) hb); have n1_ := am_ (below_step (bel_ HB.out) hb); clear BK277 HB; have BK277 := n0_; have HB := n1_; clear n0_ n1_; (try clear hb); (try clear hb2); (try clear hk); (try clear hi)) | ((with_reducible refine gate_dst (N := 7) rfl ?_); refine box_event ?hg (N := 7) ?hd (cs := #[.string (⟨#[]⟩ : ByteArray), .string (⟨#[]⟩ : ByteArray)]) (t := 51) ?hr ?_; (case hd => rfl); (case hg => rfl); (case hr => first | (go_simp; done) | (go_simp; rfl)); intro gb282 hg w10 hbox hb; have n0_ := am_ (blk_below (g := gb277) (o := .cells #[.string (⟨#[]⟩ : ByteArray), .string (⟨#[]⟩ : ByteArray)] 51 (0, 0)) (blk_ BK277.out) hb); have n1_ := am_ (below_step (bel_ HB.out) hb); have n2_ := am_ (hbox); have n3_ := am_ ((by rw [hg]; exact (below_size (bel_ HB.out)) : w.heap.size ≤ gb282)); have n4_ := am_ ((by rw [hg]; exact (below_size (bel_ HB.out)) : w.heap.size ≤ gb282)); have n5_ := am_ ((by rw [hg]; exact Nat.ne_of_lt (blk_lt (g := gb277) (o := .cells #[.string (⟨#[]⟩ : ByteArray), .string (⟨#[]⟩ : ByteArray)] 51 (0, 0)) (blk_ BK277.out)) : gb277 ≠ gb282)); have n6_ := am_ ((by rw [hg]; exact Nat.ne_of_gt (blk_lt (g := gb277) (o := .cells #[.string (⟨#[]⟩ : ByteArray), .string (⟨#[]⟩ : ByteArray)] 51 (0, 0)) (blk_ BK277.out)) : gb282 ≠ gb277)); clear BK277 HB; have BK277 := n0_; have HB := n1_; have BK282 := n2_; have GW282 := n3_; have GE282 := n4_; have NB277_282 := n5_; have NB282_277 := n6_; clear n0_ n1_ n2_ n3_ n4_ n5_ n6_ hb hbox hg; have hnb11 := NB282_277.out; have hnc11 := NB277_282.out; obtain ⟨hcz12_0, hcz12_1, hfz12_0, hfz12_1⟩ := blk2 BK282.out))
   have n0_ : Aside0 (((w10.setCell ⟨gb282, 0, none⟩ (.string t278)).setCell ⟨gb282, 1, none⟩ (.string t281)).heap[gb277]? = some (.cells #[.string (⟨#[]⟩ : ByteArray), .string (⟨#[]⟩ : ByteArray)] 51 (0, 0))) := ⟨by (with_reducible repeat (first | refine blk_drewN ?_ _ | refine blk_drew ?_ | refine blk_alloc ?_ _)); refine blk_far ?_ NB277_282.out _; (with_reducible repeat (first | refine blk_drewN ?_ _ | refine blk_drew ?_ | refine blk_alloc ?_ _)); refine blk_far ?_ NB277_282.out _; (with_reducible repeat (first | refine blk_drewN ?_ _ | refine blk_drew ?_ | refine blk_alloc ?_ _)); exact BK277.out⟩
   have n1_ : Aside0 (((w10.setCell ⟨gb282, 0, none⟩ (.string t278)).setCell ⟨gb282, 1, none⟩ (.string t281)).heap[gb282]? = some (.cells #[.string t278, .string t281] 51 (0, 0))) := ⟨by (with_reducible repeat (first | refine blk_drewN ?_ _ | refine blk_drew ?_ | refine blk_alloc ?_ _)); refine blk_put (cs := #[.string t278, .string (⟨#[]⟩ : ByteArray)]) ?_ 1 _ rfl; (with_reducible repeat (first | refine blk_drewN ?_ _ | refine blk_drew ?_ | refine blk_alloc ?_ _)); refine blk_put (cs := #[.string (⟨#[]⟩ : ByteArray), .string (⟨#[]⟩ : ByteArray)]) ?_ 0 _ rfl; (with_reducible repeat (first | refine blk_drewN ?_ _ | refine blk_drew ?_ | refine blk_alloc ?_ _)); exact BK282.out⟩
   have n2_ : Aside0 (Below w.heap.size w ((w10.setCell ⟨gb282, 0, none⟩ (.string t278)).setCell ⟨gb282, 1, none⟩ (.string t281))) := ⟨bel_ HB.out⟩
   (try clear BK277)
   (try clear BK282)
   (try clear HB)
   generalize ((w10.setCell ⟨gb282, 0, none⟩ (.string t278)).setCell ⟨gb282, 1, none⟩ (.string t281)) = w13 at n0_ n1_ n2_ ⊢
   have BK277 := n0_
   have BK282 := n1_
   have HB := n2_
   clear n0_ n1_ n2_
   have n0_ := am_ (blk_drew BK277.out)
   have n1_ := am_ (blk_drew BK282.out)
   have n2_ := am_ (below_drew1 HB.out)
   clear BK277 BK282 HB
   have BK277 := n0_
   have BK282 := n1_
   have HB := n2_
   clear n0_ n1_ n2_
   refine start_ (n := 14) (S := fun w' => w'.cell? ⟨gb282, 0, none⟩ = some (.string t278) ∧ w'.cell? ⟨gb282, 1, none⟩ = some (.string t281)) (ds := []) #[false, false, false, false, false, false, false, false, false, false, false, false, false, false] kr_ rfl rfl ⟨(blk_cell BK282.out 0).trans rfl, (blk_cell BK282.out 1).trans rfl⟩ (fun hHeld => ?_); refine with_tabW head_field.tab3 head_field.bits3 (fun HT_ HW_ => ?_)
   generalize w13.drew = w14 at BK277 BK282 HB hHeld ⊢
   refine pure_ (i := 1) (N := some 19) (v := ?_) (a' := ?_) #[false, true, false, false, false, false, false, false, false, false, false, false, false, false] rfl rfl (any_of HT_.out kr_) (fun _ _ _ h => h) (Or.inl ⟨by rfl, ?_⟩) ?_ ?_
   rotate_left
   ·intro w'
    go_simp
    with_reducible rfl
   rotate_left
   ·simp only [Act.put, sx_, s0_, s1_, i64_w, i32_w]
    rfl
   refine pure_ (i := 2) (N := some 20) (v := ?_) (a' := ?_) #[false, true, true, false, false, false, false, false, false, false, false, false, false, false] rfl rfl (any_of HT_.out kr_) (fun _ _ _ h => h) (Or.inl ⟨by rfl, ?_⟩) ?_ ?_
   rotate_left
   ·intro w'
    go_simp
    with_reducible rfl
   rotate_left
   ·simp only [Act.put, sx_, s0_, s1_, i64_w, i32_w]
    rfl
   refine pure_ (i := 3) (N := some 21) (v := ?_) (a' := ?_) #[false, true, true, true, false, false, false, false, false, false, false, false, false, false] rfl rfl (any_of HT_.out kr_) (fun _ _ _ h => h) (Or.inl ⟨by rfl, ?_⟩) ?_ ?_
   rotate_left
   ·intro w'
    go_simp
    with_reducible rfl
   rotate_left
   ·simp only [Act.put, sx_, s0_, s1_, i64_w, i32_w]
    rfl
   refine take_ (i := 0) (N := some 18) (v := ?_) (a' := ?_) #[true, true, true, true, false, false, false, false, false, false, false, false, false, false] rfl rfl (take_ofW HT_.out HW_.out kr_) (fun _ _ _ h => h) (Or.inl ⟨by rfl, ?_⟩) hHeld ?_ ?_
   rotate_left
   ·rintro w' ⟨s0, s1⟩
    go_simp
    with_reducible rfl
   rotate_left
   ·simp only [Act.put, sx_, s0_, s1_, i64_w, i32_w]
    rfl
   refine take_ (i := 4) (N := some 22) (v := ?_) (a' := ?_) #[true, true, true, true, true, false, false, false, false, false, false, false, false, false] rfl rfl (take_ofW HT_.out HW_.out kr_) (fun _ _ _ h => h) (Or.inl ⟨by rfl, ?_⟩) hHeld ?_ ?_
   rotate_left
   ·rintro w' ⟨s0, s1⟩
    go_simp
    with_reducible rfl
   rotate_left
   ·simp only [Act.put, sx_, s0_, s1_, i64_w, i32_w]
    rfl
   refine one_ (i := 5) (N := some 23) #[true, true, true, true, true, true, false, false, false, false, false, false, false, false] rfl rfl (one_of HT_.out kr_) (by decide) (fun K hK => ?_)
   refine goes_ Tryz.func18 kr_ rfl #[.string t278] (by rfl) rfl rfl rl_ ?_
   with_reducible refine (pairs_Token.calls k t278 true _ A5.out).mono ?_
   rintro e w' ⟨rfl, ⟨nd, rfl⟩⟩
   refine ⟨_, rfl, ?_⟩
   refine hK.out _ _ ⟨(blk_cell BK282.out 0).trans rfl, (blk_cell BK282.out 1).trans rfl⟩ (fun hHeld => ?_)
   clear hK K
   refine norm_ (a' := ?_) ?_ ?_
   rotate_left
   ·show Act.put _ (some 23) _ = _
    simp only [Act.put, sx_, s0_, s1_, i64_w, i32_w]
    rfl
   refine pure_ (i := 6) (N := some 24) (v := ?_) (a' := ?_) #[true, true, true, true, true, true, true, false, false, false, false, false, false, false] rfl rfl (any_of HT_.out kr_) (fun _ _ _ h => h) (Or.inl ⟨by rfl, ?_⟩) ?_ ?_
   rotate_left
   ·intro w'
    go_simp
    with_reducible rfl
   rotate_left
   ·simp only [Act.put, sx_, s0_, s1_, i64_w, i32_w]
    rfl
   refine pure_ (i := 7) (N := some 25) (v := ?_) (a' := ?_) #[true, true, true, true, true, true, true, true, false, false, false, false, false, false] rfl rfl (any_of HT_.out kr_) (fun _ _ _ h => h) (Or.inl ⟨by rfl, ?_⟩) ?_ ?_
   rotate_left
   ·intro w'
    go_simp
    with_reducible rfl
   rotate_left
   ·simp only [Act.put, sx_, s0_, s1_, i64_w, i32_w]
    rfl
   refine pure_ (i := 8) (N := some 26) (v := ?_) (a' := ?_) #[true, true, true, true, true, true, true, true, true, false, false, false, false, false] rfl rfl (any_of HT_.out kr_) (fun _ _ _ h => h) (Or.inl ⟨by rfl, ?_⟩) ?_ ?_
   rotate_left
   ·intro w'
    go_simp
    with_reducible rfl
   rotate_left
   ·simp only [Act.put, sx_, s0_, s1_, i64_w, i32_w]
    rfl
   refine take_ (i := 9) (N := some 27) (v := ?_) (a' := ?_) #[true, true, true, true, true, true, true, true, true, true, false, false, false, false] rfl rfl (take_ofW HT_.out HW_.out kr_) (fun _ _ _ h => h) (Or.inl ⟨by rfl, ?_⟩) hHeld ?_ ?_
   rotate_left
   ·rintro w' ⟨s0, s1⟩
    go_simp
    with_reducible rfl
   rotate_left
   ·simp only [Act.put, sx_, s0_, s1_, i64_w, i32_w]
    rfl
   refine one_ (i := 10) (N := some 28) #[true, true, true, true, true, true, true, true, true, true, true, false, false, false] rfl rfl (one_of HT_.out kr_) (by decide) (fun K hK => ?_)
   refine goes_ Tryz.func19 kr_ rfl #[.string t281] (by rfl) rfl rfl rl_ ?_
   with_reducible refine (pairs_Value.calls k t281 t284 _ A7.out).mono ?_
   rintro e w15 ⟨rfl, hb⟩
   refine ⟨_, rfl, ?_⟩
   have n0_ := am_ (blk_below (g := gb277) (o := .cells #[.string (⟨#[]⟩ : ByteArray), .string (⟨#[]⟩ : ByteArray)] 51 (0, 0)) (blk_ BK277.out) hb)
   have n1_ := am_ (blk_below (g := gb282) (o := .cells #[.string t278, .string t281] 51 (0, 0)) (blk_ BK282.out) hb)
   have n2_ := am_ (below_step (bel_ HB.out) hb)
   clear BK277 BK282 HB
   have BK277 := n0_
   have BK282 := n1_
   have HB := n2_
   clear n0_ n1_ n2_
   (try clear hb)
   (try clear hb2)
   (try clear hk)
   (try clear hi)
   refine hK.out _ _ ⟨(blk_cell BK282.out 0).trans rfl, (blk_cell BK282.out 1).trans rfl⟩ (fun hHeld => ?_)
   clear hK K
   refine norm_ (a' := ?_) ?_ ?_
   rotate_left
   ·show Act.put _ (some 28) _ = _
    simp only [Act.put, sx_, s0_, s1_, i64_w, i32_w]
    rfl
   refine pure_ (i := 11) (N := some 29) (v := ?_) (a' := ?_) #[true, true, true, true, true, true, true, true, true, true, true, true, false, false] rfl rfl (any_of HT_.out kr_) (fun _ _ _ h => h) (Or.inl ⟨by rfl, ?_⟩) ?_ ?_
   rotate_left
   ·intro w'
    go_simp
    with_reducible rfl
   rotate_left
   ·simp only [Act.put, sx_, s0_, s1_, i64_w, i32_w]
    rfl
   refine one_ (i := 12) (N := none) #[true, true, true, true, true, true, true, true, true, true, true, true, true, false] rfl rfl (one_of HT_.out kr_) (by decide) (fun K hK => ?_)
   have hs16 : w15.cell? ⟨gb277, 0, none⟩ = some (.string (⟨#[]⟩ : ByteArray)) := (blk_cell BK277.out 0).trans rfl
   have hfs16 := blk_frozen BK277.out 0
   have hns16_1 := NB282_277.out
   have hms16_1 := NB277_282.out
   have hs17 : w15.cell? ⟨gb277, 1, none⟩ = some (.string (⟨#[]⟩ : ByteArray)) := (blk_cell BK277.out 1).trans rfl
   have hfs17 := blk_frozen BK277.out 1
   have hns17_1 := NB282_277.out
   have hms17_1 := NB277_282.out
   refine skip_ (w1 := ?_) (by rfl) rfl ?_ ?_
   rotate_left
   ·go_simp
    rfl
   refine hK.out _ _ ⟨((cell_far (p := ⟨gb277, _, none⟩) NB282_277.out _).trans (((cell_far (p := ⟨gb277, _, none⟩) NB282_277.out _).trans (hHeld.1)))), ((cell_far (p := ⟨gb277, _, none⟩) NB282_277.out _).trans (((cell_far (p := ⟨gb277, _, none⟩) NB282_277.out _).trans (hHeld.2))))⟩ (fun hHeld => ?_)
   clear hK K
   refine pure_ (i := 13) (N := some 3) (v := ?_) (a' := ?_) #[true, true, true, true, true, true, true, true, true, true, true, true, true, true] rfl rfl (any_of HT_.out kr_) (fun _ _ _ h => h) (Or.inl ⟨by rfl, ?_⟩) ?_ ?_
   rotate_left
   ·intro w'
    go_simp
    with_reducible rfl
   rotate_left
   ·simp only [Act.put, sx_, s0_, s1_, i64_w, i32_w]
    rfl
   refine done_ (done_of HT_.out kr_) ?_
   try go_wp2
   refine bodyPost_ret (results_ct rfl _ _ gb277 51 #[.string t278, .string t281] (0, 0) _ rfl (by (with_reducible repeat (first | refine blk_drewN ?_ _ | refine blk_drew ?_ | refine blk_alloc ?_ _)); refine blk_put (cs := #[.string t278, .string (⟨#[]⟩ : ByteArray)]) ?_ 1 _ rfl; (with_reducible repeat (first | refine blk_drewN ?_ _ | refine blk_drew ?_ | refine blk_alloc ?_ _)); refine blk_put (cs := #[.string (⟨#[]⟩ : ByteArray), .string (⟨#[]⟩ : ByteArray)]) ?_ 0 _ rfl; (with_reducible repeat (first | refine blk_drewN ?_ _ | refine blk_drew ?_ | refine blk_alloc ?_ _)); exact BK277.out) Tryz.underlying51 rfl kr_) rfl ?_
   exact ⟨fi_, bel_ HB.out⟩
  ·replace c6 := Bool.eq_false_iff.mpr c6
   subst c6
   have H1 : (some (t278, t281, false)) = some (r1, r2, r3) := by rw [if_neg (show ¬ (false = true) by decide)] at H; exact H
   clear H
   have H := H1
   clear H1
   simp only [Option.some.injEq, Prod.mk.injEq] at H
   obtain ⟨rfl, rfl, rfl⟩ := H
   go_enter Tryz.func48, Tryz.ntmps48
   try go_wp2_with (first | ((with_reducible refine gate_dst (N := 2) rfl ?_); refine box_event ?hg (N := 2) ?hd (cs := #[.string (⟨#[]⟩ : ByteArray), .string (⟨#[]⟩ : ByteArray)]) (t := 51) ?hr ?_; (case hd => rfl); (case hg => rfl); (case hr => first | (go_simp; done) | (go_simp; rfl)); intro gb277 hg w18 hbox hb; have n0_ := am_ (below_step (bel_ HB.out) hb); have n1_ := am_ (hbox); have n2_ := am_ ((by rw [hg]; exact (below_size (bel_ HB.out)) : w.heap.size ≤ gb277)); have n3_ := am_ ((by rw [hg]; exact (below_size (bel_ HB.out)) : w.heap.size ≤ gb277)); clear HB; have HB := n0_; have BK277 := n1_; have GW277 := n2_; have GE277 := n3_; clear n0_ n1_ n2_ n3_ hb hbox hg) | ((with_reducible refine gate_callee (f := 78) rfl ?_); refine goesL_ (some 10) rfl rfl Tryz.func78 kr_ rfl #[.string a0, .string (⟨#[58]⟩ : ByteArray)] rfl rl_ ?_; (with_reducible refine (strings_Cut.calls k a0 (⟨#[58]⟩ : ByteArray) t278 t279 true _ A2.out).mono ?_); rintro e w' ⟨rfl, ⟨nd, rfl⟩⟩; refine ⟨_, rfl, ?_⟩; (try (rw [drewN_self w18]; generalize hq_ : World.drewN w18 _ = w18; have n0_ : Aside0 (w18.heap[gb277]? = some (.cells #[.string (⟨#[]⟩ : ByteArray), .string (⟨#[]⟩ : ByteArray)] 51 (0, 0))) := ⟨by rw [← hq_]; exact (blk_ BK277.out)⟩; have n1_ : Aside0 (Below w.heap.size w w18) := ⟨by rw [← hq_]; exact (bel_ HB.out)⟩; clear BK277 HB hq_; have BK277 := n0_; have HB := n1_; clear n0_ n1_))) | ((with_reducible refine gate_callee (f := 41) rfl ?_); refine goesL_ (some 16) rfl rfl Tryz.func41 kr_ rfl #[.string t279, .string (⟨#[32]⟩ : ByteArray)] rfl rl_ ?_; (with_reducible refine (strings_Trim.calls t279 (⟨#[32]⟩ : ByteArray) t281 _ A3.out).mono ?_); rintro e w19 ⟨rfl, hb⟩; refine ⟨_, rfl, ?_⟩; have n0_ := am_ (blk_below (g := gb277) (o := .cells #[.string (⟨#[]⟩ : ByteArray), .string (⟨#[]⟩ : ByteArray)] 51 (0, 0)) (blk_ BK277.out) hb); have n1_ := am_ (below_step (bel_ HB.out) hb); clear BK277 HB; have BK277 := n0_; have HB := n1_; clear n0_ n1_; (try clear hb); (try clear hb2); (try clear hk); (try clear hi)) | ((with_reducible refine gate_dst (N := 7) rfl ?_); refine box_event ?hg (N := 7) ?hd (cs := #[.string (⟨#[]⟩ : ByteArray), .string (⟨#[]⟩ : ByteArray)]) (t := 51) ?hr ?_; (case hd => rfl); (case hg => rfl); (case hr => first | (go_simp; done) | (go_simp; rfl)); intro gb282 hg w20 hbox hb; have n0_ := am_ (blk_below (g := gb277) (o := .cells #[.string (⟨#[]⟩ : ByteArray), .string (⟨#[]⟩ : ByteArray)] 51 (0, 0)) (blk_ BK277.out) hb); have n1_ := am_ (below_step (bel_ HB.out) hb); have n2_ := am_ (hbox); have n3_ := am_ ((by rw [hg]; exact (below_size (bel_ HB.out)) : w.heap.size ≤ gb282)); have n4_ := am_ ((by rw [hg]; exact (below_size (bel_ HB.out)) : w.heap.size ≤ gb282)); have n5_ := am_ ((by rw [hg]; exact Nat.ne_of_lt (blk_lt (g := gb277) (o := .cells #[.string (⟨#[]⟩ : ByteArray), .string (⟨#[]⟩ : ByteArray)] 51 (0, 0)) (blk_ BK277.out)) : gb277 ≠ gb282)); have n6_ := am_ ((by rw [hg]; exact Nat.ne_of_gt (blk_lt (g := gb277) (o := .cells #[.string (⟨#[]⟩ : ByteArray), .string (⟨#[]⟩ : ByteArray)] 51 (0, 0)) (blk_ BK277.out)) : gb282 ≠ gb277)); clear BK277 HB; have BK277 := n0_; have HB := n1_; have BK282 := n2_; have GW282 := n3_; have GE282 := n4_; have NB277_282 := n5_; have NB282_277 := n6_; clear n0_ n1_ n2_ n3_ n4_ n5_ n6_ hb hbox hg; have hnb21 := NB282_277.out; have hnc21 := NB277_282.out; obtain ⟨hcz22_0, hcz22_1, hfz22_0, hfz22_1⟩ := blk2 BK282.out))
   have n0_ : Aside0 (((w20.setCell ⟨gb282, 0, none⟩ (.string t278)).setCell ⟨gb282, 1, none⟩ (.string t281)).heap[gb277]? = some (.cells #[.string (⟨#[]⟩ : ByteArray), .string (⟨#[]⟩ : ByteArray)] 51 (0, 0))) := ⟨by (with_reducible repeat (first | refine blk_drewN ?_ _ | refine blk_drew ?_ | refine blk_alloc ?_ _)); refine blk_far ?_ NB277_282.out _; (with_reducible repeat (first | refine blk_drewN ?_ _ | refine blk_drew ?_ | refine blk_alloc ?_ _)); refine blk_far ?_ NB277_282.out _; (with_reducible repeat (first | refine blk_drewN ?_ _ | refine blk_drew ?_ | refine blk_alloc ?_ _)); exact BK277.out⟩
   have n1_ : Aside0 (((w20.setCell ⟨gb282, 0, none⟩ (.string t278)).setCell ⟨gb282, 1, none⟩ (.string t281)).heap[gb282]? = some (.cells #[.string t278, .string t281] 51 (0, 0))) := ⟨by (with_reducible repeat (first | refine blk_drewN ?_ _ | refine blk_drew ?_ | refine blk_alloc ?_ _)); refine blk_put (cs := #[.string t278, .string (⟨#[]⟩ : ByteArray)]) ?_ 1 _ rfl; (with_reducible repeat (first | refine blk_drewN ?_ _ | refine blk_drew ?_ | refine blk_alloc ?_ _)); refine blk_put (cs := #[.string (⟨#[]⟩ : ByteArray), .string (⟨#[]⟩ : ByteArray)]) ?_ 0 _ rfl; (with_reducible repeat (first | refine blk_drewN ?_ _ | refine blk_drew ?_ | refine blk_alloc ?_ _)); exact BK282.out⟩
   have n2_ : Aside0 (Below w.heap.size w ((w20.setCell ⟨gb282, 0, none⟩ (.string t278)).setCell ⟨gb282, 1, none⟩ (.string t281))) := ⟨bel_ HB.out⟩
   (try clear BK277)
   (try clear BK282)
   (try clear HB)
   generalize ((w20.setCell ⟨gb282, 0, none⟩ (.string t278)).setCell ⟨gb282, 1, none⟩ (.string t281)) = w23 at n0_ n1_ n2_ ⊢
   have BK277 := n0_
   have BK282 := n1_
   have HB := n2_
   clear n0_ n1_ n2_
   have n0_ := am_ (blk_drew BK277.out)
   have n1_ := am_ (blk_drew BK282.out)
   have n2_ := am_ (below_drew1 HB.out)
   clear BK277 BK282 HB
   have BK277 := n0_
   have BK282 := n1_
   have HB := n2_
   clear n0_ n1_ n2_
   refine start_ (n := 14) (S := fun w' => w'.cell? ⟨gb282, 0, none⟩ = some (.string t278) ∧ w'.cell? ⟨gb282, 1, none⟩ = some (.string t281)) (ds := []) #[false, false, false, false, false, false, false, false, false, false, false, false, false, false] kr_ rfl rfl ⟨(blk_cell BK282.out 0).trans rfl, (blk_cell BK282.out 1).trans rfl⟩ (fun hHeld => ?_); refine with_tabW head_field.tab3 head_field.bits3 (fun HT_ HW_ => ?_)
   generalize w23.drew = w24 at BK277 BK282 HB hHeld ⊢
   refine pure_ (i := 1) (N := some 19) (v := ?_) (a' := ?_) #[false, true, false, false, false, false, false, false, false, false, false, false, false, false] rfl rfl (any_of HT_.out kr_) (fun _ _ _ h => h) (Or.inl ⟨by rfl, ?_⟩) ?_ ?_
   rotate_left
   ·intro w'
    go_simp
    with_reducible rfl
   rotate_left
   ·simp only [Act.put, sx_, s0_, s1_, i64_w, i32_w]
    rfl
   refine pure_ (i := 2) (N := some 20) (v := ?_) (a' := ?_) #[false, true, true, false, false, false, false, false, false, false, false, false, false, false] rfl rfl (any_of HT_.out kr_) (fun _ _ _ h => h) (Or.inl ⟨by rfl, ?_⟩) ?_ ?_
   rotate_left
   ·intro w'
    go_simp
    with_reducible rfl
   rotate_left
   ·simp only [Act.put, sx_, s0_, s1_, i64_w, i32_w]
    rfl
   refine pure_ (i := 3) (N := some 21) (v := ?_) (a' := ?_) #[false, true, true, true, false, false, false, false, false, false, false, false, false, false] rfl rfl (any_of HT_.out kr_) (fun _ _ _ h => h) (Or.inl ⟨by rfl, ?_⟩) ?_ ?_
   rotate_left
   ·intro w'
    go_simp
    with_reducible rfl
   rotate_left
   ·simp only [Act.put, sx_, s0_, s1_, i64_w, i32_w]
    rfl
   refine take_ (i := 0) (N := some 18) (v := ?_) (a' := ?_) #[true, true, true, true, false, false, false, false, false, false, false, false, false, false] rfl rfl (take_ofW HT_.out HW_.out kr_) (fun _ _ _ h => h) (Or.inl ⟨by rfl, ?_⟩) hHeld ?_ ?_
   rotate_left
   ·rintro w' ⟨s0, s1⟩
    go_simp
    with_reducible rfl
   rotate_left
   ·simp only [Act.put, sx_, s0_, s1_, i64_w, i32_w]
    rfl
   refine take_ (i := 4) (N := some 22) (v := ?_) (a' := ?_) #[true, true, true, true, true, false, false, false, false, false, false, false, false, false] rfl rfl (take_ofW HT_.out HW_.out kr_) (fun _ _ _ h => h) (Or.inl ⟨by rfl, ?_⟩) hHeld ?_ ?_
   rotate_left
   ·rintro w' ⟨s0, s1⟩
    go_simp
    with_reducible rfl
   rotate_left
   ·simp only [Act.put, sx_, s0_, s1_, i64_w, i32_w]
    rfl
   refine one_ (i := 5) (N := some 23) #[true, true, true, true, true, true, false, false, false, false, false, false, false, false] rfl rfl (one_of HT_.out kr_) (by decide) (fun K hK => ?_)
   refine goes_ Tryz.func18 kr_ rfl #[.string t278] (by rfl) rfl rfl rl_ ?_
   with_reducible refine (pairs_Token.calls k t278 false _ A5.out).mono ?_
   rintro e w' ⟨rfl, ⟨nd, rfl⟩⟩
   refine ⟨_, rfl, ?_⟩
   refine hK.out _ _ ⟨(blk_cell BK282.out 0).trans rfl, (blk_cell BK282.out 1).trans rfl⟩ (fun hHeld => ?_)
   clear hK K
   refine norm_ (a' := ?_) ?_ ?_
   rotate_left
   ·show Act.put _ (some 23) _ = _
    simp only [Act.put, sx_, s0_, s1_, i64_w, i32_w]
    rfl
   refine pure_ (i := 6) (N := some 24) (v := ?_) (a' := ?_) #[true, true, true, true, true, true, true, false, false, false, false, false, false, false] rfl rfl (any_of HT_.out kr_) (fun _ _ _ h => h) (Or.inl ⟨by rfl, ?_⟩) ?_ ?_
   rotate_left
   ·intro w'
    go_simp
    with_reducible rfl
   rotate_left
   ·simp only [Act.put, sx_, s0_, s1_, i64_w, i32_w]
    rfl
   refine pure_ (i := 7) (N := some 25) (v := ?_) (a' := ?_) #[true, true, true, true, true, true, true, true, false, false, false, false, false, false] rfl rfl (any_of HT_.out kr_) (fun _ _ _ h => h) (Or.inl ⟨by rfl, ?_⟩) ?_ ?_
   rotate_left
   ·intro w'
    go_simp
    with_reducible rfl
   rotate_left
   ·simp only [Act.put, sx_, s0_, s1_, i64_w, i32_w]
    rfl
   refine pure_ (i := 8) (N := some 26) (v := undef) (a' := ?_) #[true, true, true, true, true, true, true, true, true, false, false, false, false, false] rfl rfl (any_of HT_.out kr_) (fun _ _ _ h => h) (Or.inr ⟨by rfl, rfl⟩) ?_ ?_
   rotate_left
   ·simp only [Act.put, sx_, s0_, s1_, i64_w, i32_w]
    rfl
   refine pure_ (i := 9) (N := some 27) (v := undef) (a' := ?_) #[true, true, true, true, true, true, true, true, true, true, false, false, false, false] rfl rfl (any_of HT_.out kr_) (fun _ _ _ h => h) (Or.inr ⟨by rfl, rfl⟩) ?_ ?_
   rotate_left
   ·simp only [Act.put, sx_, s0_, s1_, i64_w, i32_w]
    rfl
   refine pure_ (i := 10) (N := some 28) (v := undef) (a' := ?_) #[true, true, true, true, true, true, true, true, true, true, true, false, false, false] rfl rfl (any_of HT_.out kr_) (fun _ _ _ h => h) (Or.inr ⟨by rfl, rfl⟩) ?_ ?_
   rotate_left
   ·simp only [Act.put, sx_, s0_, s1_, i64_w, i32_w]
    rfl
   refine pure_ (i := 11) (N := some 29) (v := ?_) (a' := ?_) #[true, true, true, true, true, true, true, true, true, true, true, true, false, false] rfl rfl (any_of HT_.out kr_) (fun _ _ _ h => h) (Or.inl ⟨by rfl, ?_⟩) ?_ ?_
   rotate_left
   ·intro w'
    go_simp
    with_reducible rfl
   rotate_left
   ·simp only [Act.put, sx_, s0_, s1_, i64_w, i32_w]
    rfl
   refine one_ (i := 12) (N := none) #[true, true, true, true, true, true, true, true, true, true, true, true, true, false] rfl rfl (one_of HT_.out kr_) (by decide) (fun K hK => ?_)
   have hs25 : w24.cell? ⟨gb277, 0, none⟩ = some (.string (⟨#[]⟩ : ByteArray)) := (blk_cell BK277.out 0).trans rfl
   have hfs25 := blk_frozen BK277.out 0
   have hns25_1 := NB282_277.out
   have hms25_1 := NB277_282.out
   have hs26 : w24.cell? ⟨gb277, 1, none⟩ = some (.string (⟨#[]⟩ : ByteArray)) := (blk_cell BK277.out 1).trans rfl
   have hfs26 := blk_frozen BK277.out 1
   have hns26_1 := NB282_277.out
   have hms26_1 := NB277_282.out
   refine skip_ (w1 := ?_) (by rfl) rfl ?_ ?_
   rotate_left
   ·go_simp
    rfl
   refine hK.out _ _ ⟨((cell_far (p := ⟨gb277, _, none⟩) NB282_277.out _).trans (((cell_far (p := ⟨gb277, _, none⟩) NB282_277.out _).trans (hHeld.1)))), ((cell_far (p := ⟨gb277, _, none⟩) NB282_277.out _).trans (((cell_far (p := ⟨gb277, _, none⟩) NB282_277.out _).trans (hHeld.2))))⟩ (fun hHeld => ?_)
   clear hK K
   refine pure_ (i := 13) (N := some 3) (v := ?_) (a' := ?_) #[true, true, true, true, true, true, true, true, true, true, true, true, true, true] rfl rfl (any_of HT_.out kr_) (fun _ _ _ h => h) (Or.inl ⟨by rfl, ?_⟩) ?_ ?_
   rotate_left
   ·intro w'
    go_simp
    with_reducible rfl
   rotate_left
   ·simp only [Act.put, sx_, s0_, s1_, i64_w, i32_w]
    rfl
   refine done_ (done_of HT_.out kr_) ?_
   try go_wp2
   refine bodyPost_ret (results_ct rfl _ _ gb277 51 #[.string t278, .string t281] (0, 0) _ rfl (by (with_reducible repeat (first | refine blk_drewN ?_ _ | refine blk_drew ?_ | refine blk_alloc ?_ _)); refine blk_put (cs := #[.string t278, .string (⟨#[]⟩ : ByteArray)]) ?_ 1 _ rfl; (with_reducible repeat (first | refine blk_drewN ?_ _ | refine blk_drew ?_ | refine blk_alloc ?_ _)); refine blk_put (cs := #[.string (⟨#[]⟩ : ByteArray), .string (⟨#[]⟩ : ByteArray)]) ?_ 0 _ rfl; (with_reducible repeat (first | refine blk_drewN ?_ _ | refine blk_drew ?_ | refine blk_alloc ?_ _)); exact BK277.out) Tryz.underlying51 rfl kr_) rfl ?_
   exact ⟨fi_, bel_ HB.out⟩
 ·replace c4 := Bool.eq_false_iff.mpr c4
  subst c4
  have H1 : (some (t278, t281, false)) = some (r1, r2, r3) := by rw [if_neg (show ¬ (false = true) by decide)] at H; exact H
  clear H
  have H := H1
  clear H1
  simp only [Option.some.injEq, Prod.mk.injEq] at H
  obtain ⟨rfl, rfl, rfl⟩ := H
  go_enter Tryz.func48, Tryz.ntmps48
  try go_wp2_with (first | ((with_reducible refine gate_dst (N := 2) rfl ?_); refine box_event ?hg (N := 2) ?hd (cs := #[.string (⟨#[]⟩ : ByteArray), .string (⟨#[]⟩ : ByteArray)]) (t := 51) ?hr ?_; (case hd => rfl); (case hg => rfl); (case hr => first | (go_simp; done) | (go_simp; rfl)); intro gb277 hg w27 hbox hb; have n0_ := am_ (below_step (bel_ HB.out) hb); have n1_ := am_ (hbox); have n2_ := am_ ((by rw [hg]; exact (below_size (bel_ HB.out)) : w.heap.size ≤ gb277)); have n3_ := am_ ((by rw [hg]; exact (below_size (bel_ HB.out)) : w.heap.size ≤ gb277)); clear HB; have HB := n0_; have BK277 := n1_; have GW277 := n2_; have GE277 := n3_; clear n0_ n1_ n2_ n3_ hb hbox hg) | ((with_reducible refine gate_callee (f := 78) rfl ?_); refine goesL_ (some 10) rfl rfl Tryz.func78 kr_ rfl #[.string a0, .string (⟨#[58]⟩ : ByteArray)] rfl rl_ ?_; (with_reducible refine (strings_Cut.calls k a0 (⟨#[58]⟩ : ByteArray) t278 t279 false _ A2.out).mono ?_); rintro e w' ⟨rfl, ⟨nd, rfl⟩⟩; refine ⟨_, rfl, ?_⟩; (try (rw [drewN_self w27]; generalize hq_ : World.drewN w27 _ = w27; have n0_ : Aside0 (w27.heap[gb277]? = some (.cells #[.string (⟨#[]⟩ : ByteArray), .string (⟨#[]⟩ : ByteArray)] 51 (0, 0))) := ⟨by rw [← hq_]; exact (blk_ BK277.out)⟩; have n1_ : Aside0 (Below w.heap.size w w27) := ⟨by rw [← hq_]; exact (bel_ HB.out)⟩; clear BK277 HB hq_; have BK277 := n0_; have HB := n1_; clear n0_ n1_))) | ((with_reducible refine gate_callee (f := 41) rfl ?_); refine goesL_ (some 16) rfl rfl Tryz.func41 kr_ rfl #[.string t279, .string (⟨#[32]⟩ : ByteArray)] rfl rl_ ?_; (with_reducible refine (strings_Trim.calls t279 (⟨#[32]⟩ : ByteArray) t281 _ A3.out).mono ?_); rintro e w28 ⟨rfl, hb⟩; refine ⟨_, rfl, ?_⟩; have n0_ := am_ (blk_below (g := gb277) (o := .cells #[.string (⟨#[]⟩ : ByteArray), .string (⟨#[]⟩ : ByteArray)] 51 (0, 0)) (blk_ BK277.out) hb); have n1_ := am_ (below_step (bel_ HB.out) hb); clear BK277 HB; have BK277 := n0_; have HB := n1_; clear n0_ n1_; (try clear hb); (try clear hb2); (try clear hk); (try clear hi)) | ((with_reducible refine gate_dst (N := 7) rfl ?_); refine box_event ?hg (N := 7) ?hd (cs := #[.string (⟨#[]⟩ : ByteArray), .string (⟨#[]⟩ : ByteArray)]) (t := 51) ?hr ?_; (case hd => rfl); (case hg => rfl); (case hr => first | (go_simp; done) | (go_simp; rfl)); intro gb282 hg w29 hbox hb; have n0_ := am_ (blk_below (g := gb277) (o := .cells #[.string (⟨#[]⟩ : ByteArray), .string (⟨#[]⟩ : ByteArray)] 51 (0, 0)) (blk_ BK277.out) hb); have n1_ := am_ (below_step (bel_ HB.out) hb); have n2_ := am_ (hbox); have n3_ := am_ ((by rw [hg]; exact (below_size (bel_ HB.out)) : w.heap.size ≤ gb282)); have n4_ := am_ ((by rw [hg]; exact (below_size (bel_ HB.out)) : w.heap.size ≤ gb282)); have n5_ := am_ ((by rw [hg]; exact Nat.ne_of_lt (blk_lt (g := gb277) (o := .cells #[.string (⟨#[]⟩ : ByteArray), .string (⟨#[]⟩ : ByteArray)] 51 (0, 0)) (blk_ BK277.out)) : gb277 ≠ gb282)); have n6_ := am_ ((by rw [hg]; exact Nat.ne_of_gt (blk_lt (g := gb277) (o := .cells #[.string (⟨#[]⟩ : ByteArray), .string (⟨#[]⟩ : ByteArray)] 51 (0, 0)) (blk_ BK277.out)) : gb282 ≠ gb277)); clear BK277 HB; have BK277 := n0_; have HB := n1_; have BK282 := n2_; have GW282 := n3_; have GE282 := n4_; have NB277_282 := n5_; have NB282_277 := n6_; clear n0_ n1_ n2_ n3_ n4_ n5_ n6_ hb hbox hg; have hnb30 := NB282_277.out; have hnc30 := NB277_282.out; obtain ⟨hcz31_0, hcz31_1, hfz31_0, hfz31_1⟩ := blk2 BK282.out))
  have n0_ : Aside0 (((w29.setCell ⟨gb282, 0, none⟩ (.string t278)).setCell ⟨gb282, 1, none⟩ (.string t281)).heap[gb277]? = some (.cells #[.string (⟨#[]⟩ : ByteArray), .string (⟨#[]⟩ : ByteArray)] 51 (0, 0))) := ⟨by (with_reducible repeat (first | refine blk_drewN ?_ _ | refine blk_drew ?_ | refine blk_alloc ?_ _)); refine blk_far ?_ NB277_282.out _; (with_reducible repeat (first | refine blk_drewN ?_ _ | refine blk_drew ?_ | refine blk_alloc ?_ _)); refine blk_far ?_ NB277_282.out _; (with_reducible repeat (first | refine blk_drewN ?_ _ | refine blk_drew ?_ | refine blk_alloc ?_ _)); exact BK277.out⟩
  have n1_ : Aside0 (((w29.setCell ⟨gb282, 0, none⟩ (.string t278)).setCell ⟨gb282, 1, none⟩ (.string t281)).heap[gb282]? = some (.cells #[.string t278, .string t281] 51 (0, 0))) := ⟨by (with_reducible repeat (first | refine blk_drewN ?_ _ | refine blk_drew ?_ | refine blk_alloc ?_ _)); refine blk_put (cs := #[.string t278, .string (⟨#[]⟩ : ByteArray)]) ?_ 1 _ rfl; (with_reducible repeat (first | refine blk_drewN ?_ _ | refine blk_drew ?_ | refine blk_alloc ?_ _)); refine blk_put (cs := #[.string (⟨#[]⟩ : ByteArray), .string (⟨#[]⟩ : ByteArray)]) ?_ 0 _ rfl; (with_reducible repeat (first | refine blk_drewN ?_ _ | refine blk_drew ?_ | refine blk_alloc ?_ _)); exact BK282.out⟩
  have n2_ : Aside0 (Below w.heap.size w ((w29.setCell ⟨gb282, 0, none⟩ (.string t278)).setCell ⟨gb282, 1, none⟩ (.string t281))) := ⟨bel_ HB.out⟩
  (try clear BK277)
  (try clear BK282)
  (try clear HB)
  generalize ((w29.setCell ⟨gb282, 0, none⟩ (.string t278)).setCell ⟨gb282, 1, none⟩ (.string t281)) = w32 at n0_ n1_ n2_ ⊢
  have BK277 := n0_
  have BK282 := n1_
  have HB := n2_
  clear n0_ n1_ n2_
  have n0_ := am_ (blk_drew BK277.out)
  have n1_ := am_ (blk_drew BK282.out)
  have n2_ := am_ (below_drew1 HB.out)
  clear BK277 BK282 HB
  have BK277 := n0_
  have BK282 := n1_
  have HB := n2_
  clear n0_ n1_ n2_
  refine start_ (n := 14) (S := fun w' => w'.cell? ⟨gb282, 0, none⟩ = some (.string t278) ∧ w'.cell? ⟨gb282, 1, none⟩ = some (.string t281)) (ds := []) #[false, false, false, false, false, false, false, false, false, false, false, false, false, false] kr_ rfl rfl ⟨(blk_cell BK282.out 0).trans rfl, (blk_cell BK282.out 1).trans rfl⟩ (fun hHeld => ?_); refine with_tabW head_field.tab3 head_field.bits3 (fun HT_ HW_ => ?_)
  generalize w32.drew = w33 at BK277 BK282 HB hHeld ⊢
  refine pure_ (i := 1) (N := some 19) (v := ?_) (a' := ?_) #[false, true, false, false, false, false, false, false, false, false, false, false, false, false] rfl rfl (any_of HT_.out kr_) (fun _ _ _ h => h) (Or.inl ⟨by rfl, ?_⟩) ?_ ?_
  rotate_left
  ·intro w'
   go_simp
   with_reducible rfl
  rotate_left
  ·simp only [Act.put, sx_, s0_, s1_, i64_w, i32_w]
   rfl
  refine pure_ (i := 2) (N := some 20) (v := ?_) (a' := ?_) #[false, true, true, false, false, false, false, false, false, false, false, false, false, false] rfl rfl (any_of HT_.out kr_) (fun _ _ _ h => h) (Or.inl ⟨by rfl, ?_⟩) ?_ ?_
  rotate_left
  ·intro w'
   go_simp
   with_reducible rfl
  rotate_left
  ·simp only [Act.put, sx_, s0_, s1_, i64_w, i32_w]
   rfl
  refine pure_ (i := 3) (N := some 21) (v := undef) (a' := ?_) #[false, true, true, true, false, false, false, false, false, false, false, false, false, false] rfl rfl (any_of HT_.out kr_) (fun _ _ _ h => h) (Or.inr ⟨by rfl, rfl⟩) ?_ ?_
  rotate_left
  ·simp only [Act.put, sx_, s0_, s1_, i64_w, i32_w]
   rfl
  refine pure_ (i := 4) (N := some 22) (v := undef) (a' := ?_) #[false, true, true, true, true, false, false, false, false, false, false, false, false, false] rfl rfl (any_of HT_.out kr_) (fun _ _ _ h => h) (Or.inr ⟨by rfl, rfl⟩) ?_ ?_
  rotate_left
  ·simp only [Act.put, sx_, s0_, s1_, i64_w, i32_w]
   rfl
  refine pure_ (i := 5) (N := some 23) (v := undef) (a' := ?_) #[false, true, true, true, true, true, false, false, false, false, false, false, false, false] rfl rfl (any_of HT_.out kr_) (fun _ _ _ h => h) (Or.inr ⟨by rfl, rfl⟩) ?_ ?_
  rotate_left
  ·simp only [Act.put, sx_, s0_, s1_, i64_w, i32_w]
   rfl
  refine pure_ (i := 6) (N := some 24) (v := ?_) (a' := ?_) #[false, true, true, true, true, true, true, false, false, false, false, false, false, false] rfl rfl (any_of HT_.out kr_) (fun _ _ _ h => h) (Or.inl ⟨by rfl, ?_⟩) ?_ ?_
  rotate_left
  ·intro w'
   go_simp
   with_reducible rfl
  rotate_left
  ·simp only [Act.put, sx_, s0_, s1_, i64_w, i32_w]
   rfl
  refine pure_ (i := 7) (N := some 25) (v := ?_) (a' := ?_) #[false, true, true, true, true, true, true, true, false, false, false, false, false, false] rfl rfl (any_of HT_.out kr_) (fun _ _ _ h => h) (Or.inl ⟨by rfl, ?_⟩) ?_ ?_
  rotate_left
  ·intro w'
   go_simp
   with_reducible rfl
  rotate_left
  ·simp only [Act.put, sx_, s0_, s1_, i64_w, i32_w]
   rfl
  refine pure_ (i := 8) (N := some 26) (v := undef) (a' := ?_) #[false, true, true, true, true, true, true, true, true, false, false, false, false, false] rfl rfl (any_of HT_.out kr_) (fun _ _ _ h => h) (Or.inr ⟨by rfl, rfl⟩) ?_ ?_
  rotate_left
  ·simp only [Act.put, sx_, s0_, s1_, i64_w, i32_w]
   rfl
  refine pure_ (i := 9) (N := some 27) (v := undef) (a' := ?_) #[false, true, true, true, true, true, true, true, true, true, false, false, false, false] rfl rfl (any_of HT_.out kr_) (fun _ _ _ h => h) (Or.inr ⟨by rfl, rfl⟩) ?_ ?_
  rotate_left
  ·simp only [Act.put, sx_, s0_, s1_, i64_w, i32_w]
   rfl
  refine pure_ (i := 10) (N := some 28) (v := undef) (a' := ?_) #[false, true, true, true, true, true, true, true, true, true, true, false, false, false] rfl rfl (any_of HT_.out kr_) (fun _ _ _ h => h) (Or.inr ⟨by rfl, rfl⟩) ?_ ?_
  rotate_left
  ·simp only [Act.put, sx_, s0_, s1_, i64_w, i32_w]
   rfl
  refine pure_ (i := 11) (N := some 29) (v := ?_) (a' := ?_) #[false, true, true, true, true, true, true, true, true, true, true, true, false, false] rfl rfl (any_of HT_.out kr_) (fun _ _ _ h => h) (Or.inl ⟨by rfl, ?_⟩) ?_ ?_
  rotate_left
  ·intro w'
   go_simp
   with_reducible rfl
  rotate_left
  ·simp only [Act.put, sx_, s0_, s1_, i64_w, i32_w]
   rfl
  refine take_ (i := 0) (N := some 18) (v := ?_) (a' := ?_) #[true, true, true, true, true, true, true, true, true, true, true, true, false, false] rfl rfl (take_ofW HT_.out HW_.out kr_) (fun _ _ _ h => h) (Or.inl ⟨by rfl, ?_⟩) hHeld ?_ ?_
  rotate_left
  ·rintro w' ⟨s0, s1⟩
   go_simp
   with_reducible rfl
  rotate_left
  ·simp only [Act.put, sx_, s0_, s1_, i64_w, i32_w]
   rfl
  refine one_ (i := 12) (N := none) #[true, true, true, true, true, true, true, true, true, true, true, true, true, false] rfl rfl (one_of HT_.out kr_) (by decide) (fun K hK => ?_)
  have hs34 : w33.cell? ⟨gb277, 0, none⟩ = some (.string (⟨#[]⟩ : ByteArray)) := (blk_cell BK277.out 0).trans rfl
  have hfs34 := blk_frozen BK277.out 0
  have hns34_1 := NB282_277.out
  have hms34_1 := NB277_282.out
  have hs35 : w33.cell? ⟨gb277, 1, none⟩ = some (.string (⟨#[]⟩ : ByteArray)) := (blk_cell BK277.out 1).trans rfl
  have hfs35 := blk_frozen BK277.out 1
  have hns35_1 := NB282_277.out
  have hms35_1 := NB277_282.out
  refine skip_ (w1 := ?_) (by rfl) rfl ?_ ?_
  rotate_left
  ·go_simp
   rfl
  refine hK.out _ _ ⟨((cell_far (p := ⟨gb277, _, none⟩) NB282_277.out _).trans (((cell_far (p := ⟨gb277, _, none⟩) NB282_277.out _).trans (hHeld.1)))), ((cell_far (p := ⟨gb277, _, none⟩) NB282_277.out _).trans (((cell_far (p := ⟨gb277, _, none⟩) NB282_277.out _).trans (hHeld.2))))⟩ (fun hHeld => ?_)
  clear hK K
  refine pure_ (i := 13) (N := some 3) (v := ?_) (a' := ?_) #[true, true, true, true, true, true, true, true, true, true, true, true, true, true] rfl rfl (any_of HT_.out kr_) (fun _ _ _ h => h) (Or.inl ⟨by rfl, ?_⟩) ?_ ?_
  rotate_left
  ·intro w'
   go_simp
   with_reducible rfl
  rotate_left
  ·simp only [Act.put, sx_, s0_, s1_, i64_w, i32_w]
   rfl
  refine done_ (done_of HT_.out kr_) ?_
  try go_wp2
  refine bodyPost_ret (results_ct rfl _ _ gb277 51 #[.string t278, .string t281] (0, 0) _ rfl (by (with_reducible repeat (first | refine blk_drewN ?_ _ | refine blk_drew ?_ | refine blk_alloc ?_ _)); refine blk_put (cs := #[.string t278, .string (⟨#[]⟩ : ByteArray)]) ?_ 1 _ rfl; (with_reducible repeat (first | refine blk_drewN ?_ _ | refine blk_drew ?_ | refine blk_alloc ?_ _)); refine blk_put (cs := #[.string (⟨#[]⟩ : ByteArray), .string (⟨#[]⟩ : ByteArray)]) ?_ 0 _ rfl; (with_reducible repeat (first | refine blk_drewN ?_ _ | refine blk_drew ?_ | refine blk_alloc ?_ _)); exact BK277.out) Tryz.underlying51 rfl kr_) rfl ?_
  exact ⟨fi_, bel_ HB.out⟩

/-! ### the shelf's Lays.n143 at this program -/
def lays143_ren : Go.Shelf.Ren := ⟨fun | 143 => 29 | 219 => 45 | 217 => 61 | 225 => 74 | 224 => 75 | 267 => 76 | 266 => 84 | 314 => 91 | n => n, fun | 9 => 9 | 3 => 3 | 4 => 4 | 5 => 5 | 46 => 77 | 146 => 101 | 51 => 100 | n => n, fun | 1 => 0 | n => n⟩
theorem lays143 : Lays.n143 Tryz.prog lays143_ren where
 mixed := by kernel_rfl
 f143 := Tryz.func29.trans (congrArg some kr_)
 f217 := Tryz.func61.trans (congrArg some kr_)
 f219 := Tryz.func45.trans (congrArg some kr_)
 f224 := Tryz.func75.trans (congrArg some kr_)
 f225 := Tryz.func74.trans (congrArg some kr_)
 f266 := Tryz.func84.trans (congrArg some kr_)
 f267 := Tryz.func76.trans (congrArg some kr_)
 f314 := Tryz.func91.trans (congrArg some kr_)
 t3 := Tryz.underlying3
 a3 := Tryz.isAgg3
 z3 := Tryz.sizeOf3
 v3 := Tryz.zeroValue3
 t4 := Tryz.underlying4
 a4 := Tryz.isAgg4
 z4 := Tryz.sizeOf4
 v4 := Tryz.zeroValue4
 t5 := Tryz.underlying5
 a5 := Tryz.isAgg5
 z5 := Tryz.sizeOf5
 v5 := Tryz.zeroValue5
 t9 := Tryz.underlying9
 a9 := Tryz.isAgg9
 z9 := Tryz.sizeOf9
 v9 := Tryz.zeroValue9
 t46 := Tryz.underlying77
 a46 := Tryz.isAgg77
 z46 := Tryz.sizeOf77
 v46 := Tryz.zeroValue77
 t51 := Tryz.underlying100
 a51 := Tryz.isAgg100
 z51 := Tryz.sizeOf100
 v51 := Tryz.zeroValue100
 t146 := Tryz.underlying101
 a146 := Tryz.isAgg101
 z146 := Tryz.sizeOf101
 v146 := Tryz.zeroValue101
 g1 := by kernel_rfl

/-! ### strings_IndexM: function 29 where what is sought has several octets -/
/-- The library's own bound lies in memory as some number. -/
def MaxL (w : World) : Prop := ∃ m, w.cell? ⟨0, 0, none⟩ = some (.int .i64 m)
theorem gm_ {w W : World} (h : MaxL w) (hb : Below w.heap.size w W) : MaxL W := by
 obtain ⟨m, hm⟩ := h
 exact ⟨m, (hb.cell (World.block_lt_of_cell? w _ hm)).trans hm⟩
def strings_IndexM.f (a0 a1 : ByteArray) : Option (Int) := if a0.size < 4294967281 then some (Go.Lib.index a0.data.toList a1.data.toList) else none
theorem strings_IndexM.calls (a0 : ByteArray) (a1 : ByteArray) (r : Int) (w : World) (hG : MaxL w) (h : strings_IndexM.f a0 a1 = some r) :
  Calls Tryz.prog 29 #[.string a0, .string a1] w fun e w' => e = .returned (.int .i64 r) ∧ Drawn0 w w' := by
 obtain ⟨m, hm⟩ := hG
 unfold strings_IndexM.f at h
 split at h
 ·next h1 =>
  obtain rfl := Option.some.inj h
  refine (Any.strings_Index lays143 a0 a1 m w h1 hm).mono ?_
  rintro e w' ⟨rfl, rfl⟩
  exact ⟨rfl, Drawn0.refl _⟩
 ·cases h

/-! ### pieces between several octets -/
theorem indexM_fit (sep s : ByteArray) (h : 0 ≤ Go.Lib.index s.data.toList sep.data.toList) : (Go.Lib.index s.data.toList sep.data.toList).toNat + sep.size ≤ s.size := by
 rcases Go.Lib.indexB_cases s sep with c | ⟨i, c, hi⟩
 ·exact absurd h (by rw [show Go.Lib.index s.data.toList sep.data.toList = -1 from c]; decide)
 ·rw [show Go.Lib.index s.data.toList sep.data.toList = (i : Int) from c, Int.toNat_natCast]; exact hi
/-- A text's pieces between several octets. -/
def piecesM (sep s : ByteArray) : List ByteArray := cuts (fun t => Go.Lib.index t.data.toList sep.data.toList) sep.size s.size s
theorem cuts_length (ix : ByteArray → Int) (m : Nat) : ∀ (k : Nat) (s : ByteArray), (cuts ix m k s).length ≤ k + 1
 | 0, s => Nat.le_refl _
 | k + 1, s => by
  unfold cuts
  split
  ·exact Nat.le_add_left _ _
  ·rw [List.length_cons]; exact Nat.succ_le_succ (cuts_length ix m k _)
theorem seqM_stops (sep s : ByteArray) (hsep : 1 ≤ sep.size) (hs : s.size ≤ 4294967280) (b : Nat) (w : World) (hw : b + 3 ≤ w.heap.size) (hB : Boxes3 b s sep w) :
  SeqAt Fence.wide 3 Tryz.prog 92 #[.pointer (some ⟨b + 1, 0, none⟩), .pointer (some ⟨b, 0, none⟩), .pointer (some ⟨b + 2, 0, none⟩)] (fun x : ByteArray => #[Value.string x]) (Keeps3 b) b (fun xs => xs = piecesM sep s) (fun pre => pre <+: piecesM sep s) (fun xs => xs <+: piecesM sep s) MaxL w := by
 intro l J Jx W hW hJ hJx hJc hJG hY h0
 have hk : Keeps3 b w W := fun k h1 h2 => hW.block k (by omega)
 exact split1_in (fun t => Go.Lib.index t.data.toList sep.data.toList) sep hsep MaxL 4294967280 (fun t W ht hG => strings_IndexM.calls t sep _ W hG (if_pos (by omega))) (fun t h => indexM_fit sep t h) s hs (by decide) l b J Jx W hJ hJx hJc hJG hY (hB.kept hk) h0

end Go.Proofs.YtpmllmfamjpinaaGreatDoor.P
