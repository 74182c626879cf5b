-- written by wip/tool/hprint.py of this repo: the kit's print, with contracts by hand joined; Lean checks it.
import Derived.Test.YtpmllmfamjpinaaDoorPx0
import Derived.Test.YtpmllmfamjpinaaDoorPx5
import Derived.Test.YtpmllmfamjpinaaDoorPx6
import Derived.Test.YtpmllmfamjpinaaDoorPx7
namespace Go.Proofs.YtpmllmfamjpinaaDoor.P
open Go.RowKit Go.Proofs.YtpmllmfamjpinaaDoorW.PrintWords Go.Proofs.YtpmllmfamjpinaaDoorW.PrintLast Go.Proofs.YtpmllmfamjpinaaDoorW.PrintMore
attribute [local go_sem] max2_int min2_int max_two min_two max_three min_three max_four min_four   -- for this text's walks alone
set_option linter.unusedVariables false
set_option linter.unusedSimpArgs false

/-! ### tolllaw18_HeadSizes: function 4 -/
mutual
def tolllaw18_HeadSizes.j0 : Nat → Int → Int → Int → Bool → Option (Bool)
 | 0, _, _, _, _ => none
 | k + 1, x0, x1, x2, x24 => if x24 = true then (tolllaw18_HeadSizes.j1 k x0 120 x2) else (tolllaw18_HeadSizes.j1 k x0 x1 x2)
def tolllaw18_HeadSizes.j1 : Nat → Int → Int → Int → Option (Bool)
 | 0, _, _, _ => none
 | k + 1, x0, x1, x2 => if 0 ≤ (Int.tmod (wrap64 (x0)) 1100) then (if (Int.tmod (wrap64 (x0)) 1100 : Int).toNat ≤ 281474976710656 then (tolllaw18_HeadSizes.l0 k x1 x2 (Int.tmod (wrap64 (x0)) 1100) (List.replicate (Int.tmod (wrap64 (x0)) 1100 : Int).toNat 0) 0) else (none)) else (none)
def tolllaw18_HeadSizes.l0 : Nat → Int → Int → Int → List Int → Int → Option (Bool)
 | 0, _, _, _, _, _ => none
 | k + 1, x1, x2, x7, x8, x9 => if x9 < x7 then (if 0 ≤ x9 then (if x9 < (x8.length : Int) then (tolllaw18_HeadSizes.l0 k x1 x2 x7 (x8.set (x9 : Int).toNat x1) (wrap64 (x9 + 1))) else (none)) else (none)) else ((head_Parse.f k (strOfNums x8)).bind fun bt293 => (if x7 ≥ 1000 then (tolllaw18_HeadSizes.j3 k x2 bt293.2.2.2.2.2.2 5) else (tolllaw18_HeadSizes.j3 k x2 bt293.2.2.2.2.2.2 8)))
def tolllaw18_HeadSizes.j3 : Nat → Int → Int → Int → Option (Bool)
 | 0, _, _, _ => none
 | k + 1, x2, x12, x13 => tolllaw18_HeadSizes.l1 k x2 x12 x13 (⟨#[]⟩ : ByteArray) 0
def tolllaw18_HeadSizes.l1 : Nat → Int → Int → Int → ByteArray → Int → Option (Bool)
 | 0, _, _, _, _, _ => none
 | k + 1, x2, x12, x13, x14, x15 => if x15 < (wrap64 (Int.tmod x2 9)) then (if x14.size + 1 ≤ 9223372036854775807 then (tolllaw18_HeadSizes.l1 k x2 x12 x13 (x14 ++ (⟨#[32]⟩ : ByteArray)) (wrap64 (x15 + 1))) else (none)) else (if 21 + x14.size ≤ 9223372036854775807 then (if ((⟨#[71, 69, 84, 32, 47, 32, 72, 84, 84, 80, 47, 49, 46, 49, 13, 10, 72, 111, 115, 116, 58]⟩ : ByteArray) ++ x14).size + 1 ≤ 9223372036854775807 then (if (((⟨#[71, 69, 84, 32, 47, 32, 72, 84, 84, 80, 47, 49, 46, 49, 13, 10, 72, 111, 115, 116, 58]⟩ : ByteArray) ++ x14) ++ (⟨#[97]⟩ : ByteArray)).size + x14.size ≤ 9223372036854775807 then (if ((((⟨#[71, 69, 84, 32, 47, 32, 72, 84, 84, 80, 47, 49, 46, 49, 13, 10, 72, 111, 115, 116, 58]⟩ : ByteArray) ++ x14) ++ (⟨#[97]⟩ : ByteArray)) ++ x14).size + 4 ≤ 9223372036854775807 then (if (((((⟨#[71, 69, 84, 32, 47, 32, 72, 84, 84, 80, 47, 49, 46, 49, 13, 10, 72, 111, 115, 116, 58]⟩ : ByteArray) ++ x14) ++ (⟨#[97]⟩ : ByteArray)) ++ x14) ++ (⟨#[13, 10, 88, 58]⟩ : ByteArray)).size + x14.size ≤ 9223372036854775807 then (if ((((((⟨#[71, 69, 84, 32, 47, 32, 72, 84, 84, 80, 47, 49, 46, 49, 13, 10, 72, 111, 115, 116, 58]⟩ : ByteArray) ++ x14) ++ (⟨#[97]⟩ : ByteArray)) ++ x14) ++ (⟨#[13, 10, 88, 58]⟩ : ByteArray)) ++ x14).size + 4 ≤ 9223372036854775807 then ((head_Parse.f k (((((((⟨#[71, 69, 84, 32, 47, 32, 72, 84, 84, 80, 47, 49, 46, 49, 13, 10, 72, 111, 115, 116, 58]⟩ : ByteArray) ++ x14) ++ (⟨#[97]⟩ : ByteArray)) ++ x14) ++ (⟨#[13, 10, 88, 58]⟩ : ByteArray)) ++ x14) ++ (⟨#[13, 10, 13, 10]⟩ : ByteArray))).bind fun bt305 => (if x12 = x13 then (if bt305.2.2.2.2.2.2 = 0 then (if bt305.2.1.toList = ([97] : List UInt8) then (if (bt305.2.2.2.2.1.length : Int) = 2 then (if 1 < (bt305.2.2.2.2.1.length : Int) then (if ((rd_T35 bt305.2.2.2.2.1 1).f1).toList = ([] : List UInt8) then ((tolllaw18_awake.f k).bind fun t318 => (some t318)) else (none)) else (none)) else (none)) else (none)) else (none)) else (none))) else (none)) else (none)) else (none)) else (none)) else (none)) else (none))
end
def tolllaw18_HeadSizes.f (k : Nat) (a0 : Int) (a1 : Int) (a2 : Int) : Option (Bool) := if a1 = 13 then (tolllaw18_HeadSizes.j0 k a0 a1 a2 true) else (tolllaw18_HeadSizes.j0 k a0 a1 a2 (a1 == 10))
theorem tolllaw18_HeadSizes.mono_l : ∀ k, (∀ y0 y1 y2 y3, LeO (tolllaw18_HeadSizes.j0 k y0 y1 y2 y3) (tolllaw18_HeadSizes.j0 (k + 1) y0 y1 y2 y3)) ∧ (∀ y0 y1 y2, LeO (tolllaw18_HeadSizes.j1 k y0 y1 y2) (tolllaw18_HeadSizes.j1 (k + 1) y0 y1 y2)) ∧ (∀ y0 y1 y2 y3 y4, LeO (tolllaw18_HeadSizes.l0 k y0 y1 y2 y3 y4) (tolllaw18_HeadSizes.l0 (k + 1) y0 y1 y2 y3 y4)) ∧ (∀ y0 y1 y2, LeO (tolllaw18_HeadSizes.j3 k y0 y1 y2) (tolllaw18_HeadSizes.j3 (k + 1) y0 y1 y2)) ∧ (∀ y0 y1 y2 y3 y4, LeO (tolllaw18_HeadSizes.l1 k y0 y1 y2 y3 y4) (tolllaw18_HeadSizes.l1 (k + 1) y0 y1 y2 y3 y4))
 | 0 => ⟨fun _ _ _ _ r h => by simp [tolllaw18_HeadSizes.j0] at h, fun _ _ _ r h => by simp [tolllaw18_HeadSizes.j1] at h, fun _ _ _ _ _ r h => by simp [tolllaw18_HeadSizes.l0] at h, fun _ _ _ r h => by simp [tolllaw18_HeadSizes.j3] at h, fun _ _ _ _ _ r h => by simp [tolllaw18_HeadSizes.l1] at h⟩
 | k + 1 => by
  obtain ⟨ih0, ih1, ih2, ih3, ih4⟩ := tolllaw18_HeadSizes.mono_l k
  refine ⟨?_, ?_, ?_, ?_, ?_⟩
  ·intro y0 y1 y2 y3
   unfold tolllaw18_HeadSizes.j0
   repeat' first
   | (with_reducible exact ih0 _ _ _ _)
   | (with_reducible exact ih1 _ _ _)
   | (with_reducible exact ih2 _ _ _ _ _)
   | (with_reducible exact ih3 _ _ _)
   | (with_reducible exact ih4 _ _ _ _ _)
   | (with_reducible exact head_Parse.mono _ _)
   | (with_reducible exact tolllaw18_awake.mono _)
   | (with_reducible exact LeO.refl _)
   | (with_reducible exact LeO.none _)
   | (with_reducible refine LeO.ite ?_ ?_)
   | (with_reducible refine LeO.bind ?_ (fun _ => ?_))
   | exact ih0 _ _ _ _
   | exact ih1 _ _ _
   | exact ih2 _ _ _ _ _
   | exact ih3 _ _ _
   | exact ih4 _ _ _ _ _
   | exact head_Parse.mono _ _
   | exact tolllaw18_awake.mono _
   | exact LeO.none _
   | refine LeO.ite ?_ ?_
   | refine LeO.bind ?_ (fun _ => ?_)
  ·intro y0 y1 y2
   unfold tolllaw18_HeadSizes.j1
   repeat' first
   | (with_reducible exact ih0 _ _ _ _)
   | (with_reducible exact ih1 _ _ _)
   | (with_reducible exact ih2 _ _ _ _ _)
   | (with_reducible exact ih3 _ _ _)
   | (with_reducible exact ih4 _ _ _ _ _)
   | (with_reducible exact head_Parse.mono _ _)
   | (with_reducible exact tolllaw18_awake.mono _)
   | (with_reducible exact LeO.refl _)
   | (with_reducible exact LeO.none _)
   | (with_reducible refine LeO.ite ?_ ?_)
   | (with_reducible refine LeO.bind ?_ (fun _ => ?_))
   | exact ih0 _ _ _ _
   | exact ih1 _ _ _
   | exact ih2 _ _ _ _ _
   | exact ih3 _ _ _
   | exact ih4 _ _ _ _ _
   | exact head_Parse.mono _ _
   | exact tolllaw18_awake.mono _
   | exact LeO.none _
   | refine LeO.ite ?_ ?_
   | refine LeO.bind ?_ (fun _ => ?_)
  ·intro y0 y1 y2 y3 y4
   unfold tolllaw18_HeadSizes.l0
   repeat' first
   | (with_reducible exact ih0 _ _ _ _)
   | (with_reducible exact ih1 _ _ _)
   | (with_reducible exact ih2 _ _ _ _ _)
   | (with_reducible exact ih3 _ _ _)
   | (with_reducible exact ih4 _ _ _ _ _)
   | (with_reducible exact head_Parse.mono _ _)
   | (with_reducible exact tolllaw18_awake.mono _)
   | (with_reducible exact LeO.refl _)
   | (with_reducible exact LeO.none _)
   | (with_reducible refine LeO.ite ?_ ?_)
   | (with_reducible refine LeO.bind ?_ (fun _ => ?_))
   | exact ih0 _ _ _ _
   | exact ih1 _ _ _
   | exact ih2 _ _ _ _ _
   | exact ih3 _ _ _
   | exact ih4 _ _ _ _ _
   | exact head_Parse.mono _ _
   | exact tolllaw18_awake.mono _
   | exact LeO.none _
   | refine LeO.ite ?_ ?_
   | refine LeO.bind ?_ (fun _ => ?_)
  ·intro y0 y1 y2
   unfold tolllaw18_HeadSizes.j3
   repeat' first
   | (with_reducible exact ih0 _ _ _ _)
   | (with_reducible exact ih1 _ _ _)
   | (with_reducible exact ih2 _ _ _ _ _)
   | (with_reducible exact ih3 _ _ _)
   | (with_reducible exact ih4 _ _ _ _ _)
   | (with_reducible exact head_Parse.mono _ _)
   | (with_reducible exact tolllaw18_awake.mono _)
   | (with_reducible exact LeO.refl _)
   | (with_reducible exact LeO.none _)
   | (with_reducible refine LeO.ite ?_ ?_)
   | (with_reducible refine LeO.bind ?_ (fun _ => ?_))
   | exact ih0 _ _ _ _
   | exact ih1 _ _ _
   | exact ih2 _ _ _ _ _
   | exact ih3 _ _ _
   | exact ih4 _ _ _ _ _
   | exact head_Parse.mono _ _
   | exact tolllaw18_awake.mono _
   | exact LeO.none _
   | refine LeO.ite ?_ ?_
   | refine LeO.bind ?_ (fun _ => ?_)
  ·intro y0 y1 y2 y3 y4
   unfold tolllaw18_HeadSizes.l1
   repeat' first
   | (with_reducible exact ih0 _ _ _ _)
   | (with_reducible exact ih1 _ _ _)
   | (with_reducible exact ih2 _ _ _ _ _)
   | (with_reducible exact ih3 _ _ _)
   | (with_reducible exact ih4 _ _ _ _ _)
   | (with_reducible exact head_Parse.mono _ _)
   | (with_reducible exact tolllaw18_awake.mono _)
   | (with_reducible exact LeO.refl _)
   | (with_reducible exact LeO.none _)
   | (with_reducible refine LeO.ite ?_ ?_)
   | (with_reducible refine LeO.bind ?_ (fun _ => ?_))
   | exact ih0 _ _ _ _
   | exact ih1 _ _ _
   | exact ih2 _ _ _ _ _
   | exact ih3 _ _ _
   | exact ih4 _ _ _ _ _
   | exact head_Parse.mono _ _
   | exact tolllaw18_awake.mono _
   | exact LeO.none _
   | refine LeO.ite ?_ ?_
   | refine LeO.bind ?_ (fun _ => ?_)
theorem tolllaw18_HeadSizes.mono : ∀ a0 a1 a2 k, LeO (tolllaw18_HeadSizes.f k a0 a1 a2) (tolllaw18_HeadSizes.f (k + 1) a0 a1 a2) := by
 intro a0 a1 a2 k
 obtain ⟨ih0, ih1, ih2, ih3, ih4⟩ := tolllaw18_HeadSizes.mono_l k
 unfold tolllaw18_HeadSizes.f
 repeat' first
   | (with_reducible exact ih0 _ _ _ _)
   | (with_reducible exact ih1 _ _ _)
   | (with_reducible exact ih2 _ _ _ _ _)
   | (with_reducible exact ih3 _ _ _)
   | (with_reducible exact ih4 _ _ _ _ _)
   | (with_reducible exact head_Parse.mono _ _)
   | (with_reducible exact tolllaw18_awake.mono _)
   | (with_reducible exact LeO.refl _)
   | (with_reducible exact LeO.none _)
   | (with_reducible refine LeO.ite ?_ ?_)
   | (with_reducible refine LeO.bind ?_ (fun _ => ?_))
   | exact ih0 _ _ _ _
   | exact ih1 _ _ _
   | exact ih2 _ _ _ _ _
   | exact ih3 _ _ _
   | exact ih4 _ _ _ _ _
   | exact head_Parse.mono _ _
   | exact tolllaw18_awake.mono _
   | exact LeO.none _
   | refine LeO.ite ?_ ?_
   | refine LeO.bind ?_ (fun _ => ?_)
set_option maxHeartbeats 8000000 in
set_option maxRecDepth 100000 in
theorem tolllaw18_HeadSizes.calls (k : Nat) (a0 : Int) (a1 : Int) (a2 : Int) (r : Bool) (w : World) (hG : MaxL w) (h : tolllaw18_HeadSizes.f k a0 a1 a2 = some r) :
  Calls Tryd.prog 4 #[.int .u16 a0, .int .u8 a1, .int .u8 a2] w fun e w' => e = .returned (.bool r) ∧ Below w.heap.size w w' := by
 have HGL := am_ hG
 clear hG
 have hu26 := Tryd.underlying26
 have HB := am_ (Below.refl w.heap.size w)
 have H : (if a1 = 13 then (tolllaw18_HeadSizes.j0 k a0 a1 a2 true) else (tolllaw18_HeadSizes.j0 k a0 a1 a2 (a1 == 10))) = some r := h
 clear h
 have HC4 := Aside0.mk H
 clear H
 go_enter Tryd.func4, Tryd.ntmps4
 go_upto_region 1 with (fail)
 go_cut [24] (fun v24 wc => ∃ (kq : Nat) (x24_3 : Bool), v24 = .bool x24_3 ∧ Aside0 (tolllaw18_HeadSizes.j0 kq a0 a1 a2 x24_3 = some r) ∧ Aside0 (kq ≤ k) ∧ Aside0 (Below w.heap.size w wc))
 case first =>
  have H := HC4.out
  clear HC4
  by_cases c5 : a1 = 13
  ·rw [if_pos c5] at H
   have c5b0 : (a1 == 13) = true := beq_iff_eq.mpr c5
   have c5b1 : (a1 != 13) = false := bne_eq_false_iff_eq.mpr c5
   clear c5
   (first | rw [c5b0] | rw [c5b1] | rw [c5b2] | (simp only [i64_w, i32_w]; rw [c5b0]) | skip)
   have H' := Aside0.mk H
   clear H
   go_wp2
   go_meet
   case rel => exact ⟨_, (true), sd_, H', ⟨by first | omega | exact Nat.le_refl _⟩, ⟨bel_ HB.out⟩⟩
  ·rw [if_neg c5] at H
   have c5b0 : (a1 == 13) = false := beq_eq_false_iff_ne.mpr c5
   have c5b1 : (a1 != 13) = true := bne_iff_ne.mpr c5
   (first | rw [c5b0] | rw [c5b1] | rw [c5b2] | (simp only [i64_w, i32_w]; rw [c5b0]) | skip)
   have H' := Aside0.mk H
   clear H
   go_wp2
   go_meet
   case rel => exact ⟨_, ((a1 == 10)), sd_, H', ⟨by first | omega | exact Nat.le_refl _⟩, ⟨bel_ HB.out⟩⟩
 case rest =>
  clear HC4
  try clear p2
  try clear c4
  try clear c5
  try clear c5b0
  try clear c5b1
  try clear c5b2
  obtain ⟨kq, x24_3, rfl, HA, HJ3, HB⟩ := hcut
  cases kq with
  | zero => exact absurd HA.out (by simp [tolllaw18_HeadSizes.j0])
  | succ kj3 =>
   have H := HA.out
   clear HA
   simp only [tolllaw18_HeadSizes.j0] at H
   have HC6 := Aside0.mk H
   clear H
   go_upto_if 24 with (fail)
   go_cut [1] (fun v1 wc => ∃ (kq : Nat) (x1_5 : Int), v1 = .int .u8 x1_5 ∧ Aside0 (tolllaw18_HeadSizes.j1 kq a0 x1_5 a2 = some r) ∧ Aside0 (kq ≤ kj3) ∧ Aside0 (Below w.heap.size w wc))
   case first =>
    have H := HC6.out
    clear HC6
    by_cases c7 : x24_3 = true
    ·subst c7
     have H1 : (tolllaw18_HeadSizes.j1 kj3 a0 120 a2) = some r := by rw [if_pos rfl] at H; exact H
     clear H
     have H := H1
     clear H1
     have H' := Aside0.mk H
     clear H
     go_wp2
     go_meet
     case rel => exact ⟨_, (120), sd_, H', ⟨by have := HJ3.out; first | omega | exact Nat.le_refl _⟩, ⟨bel_ HB.out⟩⟩
    ·replace c7 := Bool.eq_false_iff.mpr c7
     subst c7
     have H1 : (tolllaw18_HeadSizes.j1 kj3 a0 a1 a2) = some r := by rw [if_neg (show ¬ (false = true) by decide)] at H; exact H
     clear H
     have H := H1
     clear H1
     have H' := Aside0.mk H
     clear H
     go_wp2
     go_meet
     case rel => exact ⟨_, (a1), sd_, H', ⟨by have := HJ3.out; first | omega | exact Nat.le_refl _⟩, ⟨bel_ HB.out⟩⟩
   case rest =>
    clear HC6
    try clear p2
    try clear c4
    try clear c5
    try clear c5b0
    try clear c5b1
    try clear c5b2
    try clear c7
    try clear p2
    obtain ⟨kq, x1_5, rfl, HA, HJ5, HB⟩ := hcut
    cases kq with
    | zero => exact absurd HA.out (by simp [tolllaw18_HeadSizes.j1])
    | succ kj5 =>
     have H := HA.out
     clear HA
     simp only [tolllaw18_HeadSizes.j1] at H
     obtain ⟨ji8, hji8⟩ : ∃ j_ : Int, (Int.tmod (wrap64 (a0)) 1100) = j_ := ⟨_, rfl⟩
     replace H : (if 0 ≤ (ji8) then (if (ji8 : Int).toNat ≤ 281474976710656 then (tolllaw18_HeadSizes.l0 kj5 x1_5 a2 ji8 (List.replicate (ji8 : Int).toNat 0) 0) else (none)) else (none)) = some r := by first | (rw [hji8] at H; exact H) | (simp only [hji8] at H ⊢; exact H)
     by_cases c9 : 0 ≤ (ji8)
     ·rw [if_pos c9] at H
      have c9b0 := eq_true c9
      have c9b1 : decide (0 ≤ (ji8)) = true := decide_eq_true c9
      clear c9
      by_cases c10 : (ji8 : Int).toNat ≤ 281474976710656
      ·rw [if_pos c10] at H
       have c10b0 := eq_true c10
       have c10b1 : decide ((ji8 : Int).toNat ≤ 281474976710656) = true := decide_eq_true c10
       clear c10
       obtain ⟨y289, hy289⟩ : ∃ y_ : List Int, y_ = (List.replicate (ji8 : Int).toNat 0) := ⟨_, rfl⟩
       replace H : (tolllaw18_HeadSizes.l0 kj5 x1_5 a2 ji8 y289 0) = some r := by first | (rw [hy289]; with_reducible exact H) | (have H2_ := (Option.bind_some _ _).symm.trans H; rw [hy289]; with_reducible exact H2_) | (have H2_ := (Option.bind_some _ _).symm.trans H; with_reducible exact H2_) | with_reducible exact H | (rw [hy289]; exact H) | exact H
       have Ny289 := Aside0.mk hy289
       clear hy289
       have H' := Aside0.mk H
       clear H
       go_wp2_with (first | ((with_reducible refine gate_dst (N := 29) rfl ?_); (try (refine gate_guard (by rfl) ?_; dsimp only)); refine Kd.R_make (Kd.int .u8) _ 5 rfl (N := 29) rfl 33 _ _ rfl ji8 rfl rfl Tryd.underlying33 (.int .u8 0) 1 info5 rfl (by decide) (by omega) 0 (ok := fun _ => True) (okp := fun _ => True) rfl (fun _ hk => hk) trivial (of_decide_eq_true as_) (Nat.le_trans (Nat.mul_le_mul_right _ (of_decide_eq_true as_ : ji8.toNat ≤ 281474976710656)) (by omega)) (Below.refl _ _) (Nat.le_refl _) ?_; intro v290 w11 ho12 hb hg_ hnew_; clear hg_ hnew_; (first | rw [← Ny289.out] at ho12 | (simp only [Int.reduceToNat] at ho12; rw [← Ny289.out] at ho12)); have n0_ := am_ (Kd.R_lower ho12 (below_size (bel_ HB.out))); have n1_ := am_ (below_step (bel_ HB.out) hb); clear HB; have HO291 := n0_; have HB := n1_; clear n0_ n1_ hb ho12))
       go_loopg [9] kj5 (fun kq v9 w' => ∃ (x8_3 : List Int) (x9_3 : Int), v9 = .int .i64 x9_3 ∧ Aside0 (tolllaw18_HeadSizes.l0 kq x1_5 a2 ji8 x8_3 x9_3 = some r) ∧ Aside0 (kq ≤ kj5) ∧ Aside0 (Kd.R (Kd.int .u8) 5 w' w.heap.size (fun _ => True) v290 x8_3) ∧ Aside0 (Below w.heap.size w w'))
       case atStart => exact ⟨(y289), (0), sd_, H', ⟨Nat.le_refl _⟩, ⟨by (with_reducible repeat (first | apply Kd.R_alloc | apply Kd.R_drewN | apply Kd.R_drew)); exact HO291.out⟩, ⟨bel_ HB.out⟩⟩
       case round =>
        clear H'
        try clear c1
        try clear p2
        try clear c4
        try clear c5
        try clear c5b0
        try clear c5b1
        try clear c5b2
        try clear p6
        try clear c7
        try clear c9
        try clear c9b0
        try clear c9b1
        try clear c10
        try clear c10b0
        try clear c10b1
        try clear p2
        obtain ⟨x8_3, x9_3, rfl, HA, HK3, HO_8, HB⟩ := hrel
        cases gk with
        | zero => exact absurd HA.out (by simp [tolllaw18_HeadSizes.l0])
        | succ k3 =>
         have H := HA.out
         clear HA
         simp only [tolllaw18_HeadSizes.l0] at H
         by_cases c13 : x9_3 < ji8
         ·rw [if_pos c13] at H
          have c13b0 : decide (x9_3 < ji8) = true := decide_eq_true c13
          clear c13
          by_cases c14 : 0 ≤ x9_3
          ·rw [if_pos c14] at H
           have c14b0 : decide (0 ≤ x9_3) = true := decide_eq_true c14
           clear c14
           by_cases c15 : x9_3 < (x8_3.length : Int)
           ·rw [if_pos c15] at H
            have c15b0 : decide (x9_3 < (x8_3.length : Int)) = true := decide_eq_true c15
            clear c15
            obtain ⟨y292, hy292⟩ : ∃ y_ : List Int, y_ = (x8_3.set (x9_3 : Int).toNat x1_5) := ⟨_, rfl⟩
            replace H : (tolllaw18_HeadSizes.l0 k3 x1_5 a2 ji8 y292 (wrap64 (x9_3 + 1))) = some r := by first | (rw [hy292]; with_reducible exact H) | (have H2_ := (Option.bind_some _ _).symm.trans H; rw [hy292]; with_reducible exact H2_) | (have H2_ := (Option.bind_some _ _).symm.trans H; with_reducible exact H2_) | with_reducible exact H | (rw [hy292]; exact H) | exact H
            have Ny292 := Aside0.mk hy292
            clear hy292
            have H' := Aside0.mk H
            clear H
            have p16 : 0 ≤ (x9_3 : Int) := of_decide_eq_true as_
            have q16 : (x9_3 : Int) < ((x8_3.length : Int) : Int) := of_decide_eq_true as_
            obtain ⟨go16, co16, eo16, gb16, gl16, cl16, HG16⟩ := Kd.R_form HO_8.out (by omega)
            (first | cases eo16 | (injection eo16 with ea_ en_ ec_; (first | subst ea_ | (injection ea_ with ea_; subst ea_)); subst ec_; clear en_))
            have GB16 := Aside0.mk gb16
            have GG16 := Aside0.mk HG16
            clear gb16 gl16 HG16
            obtain ⟨hx16_0, hf16_0⟩ := Kd.R_celln 0 HO_8.out (x9_3 : Int) p16 q16
            replace p16 := eq_true p16
            replace q16 := eq_true q16
            have HP17 := Kd.R_putg HO_8.out (x9_3 : Int) x1_5
            go_wp2_with (first | ((with_reducible refine gate_store (t := 5) (p := 38) rfl ?_); refine store_event (t := 5) (p := 38) (v := ?vo_w18) (w1 := (wr.setCell ⟨go16, (x9_3 : Int).toNat, none⟩ (.int .u8 x1_5))) ?hg ?ho ?hn ?hr ?_; (case ho => rfl); (case hg => rfl); (case hn => rfl); (case hr => first | (go_simp; done) | (go_simp; rfl)); intro w18 hw; have hg : wr.grownBy w18 (some go16) := (by rw [hw]; exact HP17.2); have hp_ : Kd.R (Kd.int .u8) 5 w18 w.heap.size (fun _ => True) (.slice (some ⟨go16, 0, none⟩) x8_3.length co16) y292 := (by rw [hw, Ny292.out]; exact HP17.1); clear HP17; have n0_ := am_ (hp_); have n1_ := am_ ((by rw [hw]; exact below_set (HB.out) GB16.out : Below w.heap.size w w18)); clear HO_8 HB; have HO_8 := n0_; have HB := n1_; clear n0_ n1_ hg hw hp_))
            go_roundg k3
            case measure => have := HJ3.out; have := HJ5.out; have := HK3.out; omega
            case rel => exact ⟨(y292), (wrap64 (x9_3 + 1)), sd_, H', ⟨by have := HJ3.out; have := HJ5.out; have := HK3.out; omega⟩, ⟨by (with_reducible repeat (first | apply Kd.R_alloc | apply Kd.R_drewN | apply Kd.R_drew)); exact HO_8.out⟩, ⟨bel_ HB.out⟩⟩
           ·rw [if_neg c15] at H
            exact absurd H (by simp)
          ·rw [if_neg c14] at H
           exact absurd H (by simp)
         ·rw [if_neg c13] at H
          have c13b0 : decide (x9_3 < ji8) = false := decide_eq_false c13
          clear c13
          replace H := Option.bind_eq_some_iff.mp H
          obtain ⟨⟨t293, t294, t295, t296, t299, t302, t303⟩, A190, H⟩ := H
          replace H : (if ji8 ≥ 1000 then (tolllaw18_HeadSizes.j3 k3 a2 t303 5) else (tolllaw18_HeadSizes.j3 k3 a2 t303 8)) = some r := H
          have A19 := Aside0.mk A190
          clear A190
          have HC20 := Aside0.mk H
          clear H
          have hcv21 := own_string (P := Tryd.prog) Tryd.underlying33 Tryd.underlying5 Tryd.underlying9 (Kd.own_of_R HO_8.out)
          go_upto_if 47 with (first | ((with_reducible refine gate_callee (f := 9) rfl ?_); refine goesL_ (some 42) rfl rfl Tryd.func9 kr_ rfl #[.string (strOfNums x8_3)] rfl rl_ ?_; (with_reducible refine (head_Parse.calls k3 (strOfNums x8_3) t293 t294 t295 t296 t299 t302 t303 _ (gm_ HGL.out (bel_ HB.out)) A19.out).mono ?_); rintro e w22 ⟨v297, v300, rfl, ho0, ho1, hb⟩; refine ⟨_, rfl, ?_⟩; have n0_ := am_ (Kd.R_below (R_ HO_8.out) hb); have n1_ := am_ (Kd.R_lower ho0 (below_size (bel_ HB.out))); have n2_ := am_ (Kd.R_lower ho1 (below_size (bel_ HB.out))); have n3_ := am_ (below_step (bel_ HB.out) hb); clear HO_8 HB; have HO_8 := n0_; have HO298 := n1_; have HO301 := n2_; have HB := n3_; clear n0_ n1_ n2_ n3_; (try clear hb); (try clear hb2); (try clear hk); (try clear hi); (try clear ho0); (try clear ho1)) | ((with_reducible refine gate_dst (N := 10) rfl ?_); (try (refine gate_guard (by rfl) ?_; dsimp only)); refine box_event ?hg (N := 10) ?hd (cs := #[.string (⟨#[]⟩ : ByteArray), .string (⟨#[]⟩ : ByteArray), .string (⟨#[]⟩ : ByteArray), .slice none 0 0, .slice none 0 0]) (t := 26) ?hr ?_; (case hd => rfl); (case hg => rfl); (case hr => first | (go_simp; done) | (go_simp; rfl)); intro gb304 hg w23 hbox hb; have n0_ := am_ (Kd.R_below (R_ HO_8.out) hb); have n1_ := am_ (Kd.R_below (R_ HO298.out) hb); have n2_ := am_ (Kd.R_below (R_ HO301.out) hb); have n3_ := am_ (below_step (bel_ HB.out) hb); have n4_ := am_ (hbox); have n5_ := am_ ((by rw [hg]; exact (below_size (bel_ HB.out)) : w.heap.size ≤ gb304)); have n6_ := am_ ((by rw [hg]; exact (below_size (bel_ HB.out)) : w.heap.size ≤ gb304)); clear HO_8 HO298 HO301 HB; have HO_8 := n0_; have HO298 := n1_; have HO301 := n2_; have HB := n3_; have BK304 := n4_; have GW304 := n5_; have GE304 := n6_; clear n0_ n1_ n2_ n3_ n4_ n5_ n6_ hb hbox hg; have hcz24_0 : w23.cell? ⟨gb304, 0, none⟩ = some (.string (⟨#[]⟩ : ByteArray)) := (blk_cell BK304.out 0).trans rfl; have hcz24_1 : w23.cell? ⟨gb304, 1, none⟩ = some (.string (⟨#[]⟩ : ByteArray)) := (blk_cell BK304.out 1).trans rfl; have hcz24_2 : w23.cell? ⟨gb304, 2, none⟩ = some (.string (⟨#[]⟩ : ByteArray)) := (blk_cell BK304.out 2).trans rfl; have hcz24_3 : w23.cell? ⟨gb304, 3, none⟩ = some (.slice none 0 0) := (blk_cell BK304.out 3).trans rfl; have hcz24_4 : w23.cell? ⟨gb304, 4, none⟩ = some (.slice none 0 0) := (blk_cell BK304.out 4).trans rfl; have hfz24_0 := blk_frozen BK304.out 0; have hfz24_1 := blk_frozen BK304.out 1; have hfz24_2 := blk_frozen BK304.out 2; have hfz24_3 := blk_frozen BK304.out 3; have hfz24_4 := blk_frozen BK304.out 4; obtain ⟨Ao25, co25, eo25⟩ := Kd.R_slice HO298.out; subst eo25; obtain ⟨Ao26, co26, eo26⟩ := Kd.R_slice HO301.out; subst eo26))
          (try simp only [Act.put, List.setIfInBounds_toArray, List.set_cons_zero, List.set_cons_succ])
          go_cut [13] (fun v13 wc => ∃ (kq : Nat) (x13_19 : Int), v13 = .int .i64 x13_19 ∧ Aside0 (tolllaw18_HeadSizes.j3 kq a2 t303 x13_19 = some r) ∧ Aside0 (kq ≤ k3) ∧ Aside0 (Kd.R k35 35 wc w.heap.size (fun k_ => some k_ ≠ ((.slice Ao26 t299.length co26) : Value).ownBlock) (.slice Ao25 t296.length co25) t296) ∧ Aside0 (Kd.R k35 35 wc w.heap.size (fun k_ => some k_ ≠ ((.slice Ao25 t296.length co25) : Value).ownBlock) (.slice Ao26 t299.length co26) t299) ∧ Aside0 (wc.heap[gb304]? = some (.cells #[.string t293, .string t294, .string t295, (.slice Ao25 t296.length co25), (.slice Ao26 t299.length co26)] 26 (0, 0))) ∧ Aside0 (Below w.heap.size w wc))
          case first =>
           have H := HC20.out
           clear HC20
           by_cases c27 : ji8 ≥ 1000
           ·rw [if_pos c27] at H
            have c27b0 : decide (1000 ≤ ji8) = true := decide_eq_true c27
            clear c27
            (first | rw [c27b0] | rw [c27b1] | rw [c27b2] | (simp only [i64_w, i32_w]; rw [c27b0]) | skip)
            have H' := Aside0.mk H
            clear H
            go_wp2
            go_meet
            case rel => exact ⟨_, (5), sd_, H', ⟨by have := HJ3.out; have := HJ5.out; have := HK3.out; first | omega | exact Nat.le_refl _⟩, ⟨by (with_reducible repeat (first | apply Kd.R_alloc | apply Kd.R_drewN | apply Kd.R_drew)); exact Kd.R_mono (Kd.R_far (p := ⟨gb304, 4, none⟩) (Kd.R_far (p := ⟨gb304, 3, none⟩) (Kd.R_far (p := ⟨gb304, 2, none⟩) (Kd.R_far (p := ⟨gb304, 1, none⟩) (Kd.R_far (p := ⟨gb304, 0, none⟩) (Kd.R_types HO298.out BK304.out (by decide)) (fun _ hk => hk.2) (.string t293)) (fun _ hk => hk.2) (.string t294)) (fun _ hk => hk.2) (.string t295)) (fun _ hk => hk.2) (.slice Ao25 t296.length co25)) (fun _ hk => hk.2) (.slice Ao26 t299.length co26)) (fun _ hk => hk.1)⟩, ⟨by (with_reducible repeat (first | apply Kd.R_alloc | apply Kd.R_drewN | apply Kd.R_drew)); exact Kd.R_mono (Kd.R_far (p := ⟨gb304, 4, none⟩) (Kd.R_far (p := ⟨gb304, 3, none⟩) (Kd.R_far (p := ⟨gb304, 2, none⟩) (Kd.R_far (p := ⟨gb304, 1, none⟩) (Kd.R_far (p := ⟨gb304, 0, none⟩) (Kd.R_types HO301.out BK304.out (by decide)) (fun _ hk => hk.2) (.string t293)) (fun _ hk => hk.2) (.string t294)) (fun _ hk => hk.2) (.string t295)) (fun _ hk => hk.2) (.slice Ao25 t296.length co25)) (fun _ hk => hk.2) (.slice Ao26 t299.length co26)) (fun _ hk => hk.1)⟩, ⟨by (with_reducible repeat (first | refine blk_drewN ?_ _ | refine blk_drew ?_ | refine blk_alloc ?_ _)); refine blk_put (cs := #[.string t293, .string t294, .string t295, .slice Ao25 t296.length co25, .slice none 0 0]) ?_ 4 _ rfl; (with_reducible repeat (first | refine blk_drewN ?_ _ | refine blk_drew ?_ | refine blk_alloc ?_ _)); refine blk_put (cs := #[.string t293, .string t294, .string t295, .slice none 0 0, .slice none 0 0]) ?_ 3 _ rfl; (with_reducible repeat (first | refine blk_drewN ?_ _ | refine blk_drew ?_ | refine blk_alloc ?_ _)); refine blk_put (cs := #[.string t293, .string t294, .string (⟨#[]⟩ : ByteArray), .slice none 0 0, .slice none 0 0]) ?_ 2 _ rfl; (with_reducible repeat (first | refine blk_drewN ?_ _ | refine blk_drew ?_ | refine blk_alloc ?_ _)); refine blk_put (cs := #[.string t293, .string (⟨#[]⟩ : ByteArray), .string (⟨#[]⟩ : ByteArray), .slice none 0 0, .slice none 0 0]) ?_ 1 _ rfl; (with_reducible repeat (first | refine blk_drewN ?_ _ | refine blk_drew ?_ | refine blk_alloc ?_ _)); refine blk_put (cs := #[.string (⟨#[]⟩ : ByteArray), .string (⟨#[]⟩ : ByteArray), .string (⟨#[]⟩ : ByteArray), .slice none 0 0, .slice none 0 0]) ?_ 0 _ rfl; (with_reducible repeat (first | refine blk_drewN ?_ _ | refine blk_drew ?_ | refine blk_alloc ?_ _)); exact BK304.out⟩, ⟨bel_ HB.out⟩⟩
           ·rw [if_neg c27] at H
            have c27b0 : decide (1000 ≤ ji8) = false := decide_eq_false c27
            clear c27
            (first | rw [c27b0] | rw [c27b1] | rw [c27b2] | (simp only [i64_w, i32_w]; rw [c27b0]) | skip)
            have H' := Aside0.mk H
            clear H
            go_wp2
            go_meet
            case rel => exact ⟨_, (8), sd_, H', ⟨by have := HJ3.out; have := HJ5.out; have := HK3.out; first | omega | exact Nat.le_refl _⟩, ⟨by (with_reducible repeat (first | apply Kd.R_alloc | apply Kd.R_drewN | apply Kd.R_drew)); exact Kd.R_mono (Kd.R_far (p := ⟨gb304, 4, none⟩) (Kd.R_far (p := ⟨gb304, 3, none⟩) (Kd.R_far (p := ⟨gb304, 2, none⟩) (Kd.R_far (p := ⟨gb304, 1, none⟩) (Kd.R_far (p := ⟨gb304, 0, none⟩) (Kd.R_types HO298.out BK304.out (by decide)) (fun _ hk => hk.2) (.string t293)) (fun _ hk => hk.2) (.string t294)) (fun _ hk => hk.2) (.string t295)) (fun _ hk => hk.2) (.slice Ao25 t296.length co25)) (fun _ hk => hk.2) (.slice Ao26 t299.length co26)) (fun _ hk => hk.1)⟩, ⟨by (with_reducible repeat (first | apply Kd.R_alloc | apply Kd.R_drewN | apply Kd.R_drew)); exact Kd.R_mono (Kd.R_far (p := ⟨gb304, 4, none⟩) (Kd.R_far (p := ⟨gb304, 3, none⟩) (Kd.R_far (p := ⟨gb304, 2, none⟩) (Kd.R_far (p := ⟨gb304, 1, none⟩) (Kd.R_far (p := ⟨gb304, 0, none⟩) (Kd.R_types HO301.out BK304.out (by decide)) (fun _ hk => hk.2) (.string t293)) (fun _ hk => hk.2) (.string t294)) (fun _ hk => hk.2) (.string t295)) (fun _ hk => hk.2) (.slice Ao25 t296.length co25)) (fun _ hk => hk.2) (.slice Ao26 t299.length co26)) (fun _ hk => hk.1)⟩, ⟨by (with_reducible repeat (first | refine blk_drewN ?_ _ | refine blk_drew ?_ | refine blk_alloc ?_ _)); refine blk_put (cs := #[.string t293, .string t294, .string t295, .slice Ao25 t296.length co25, .slice none 0 0]) ?_ 4 _ rfl; (with_reducible repeat (first | refine blk_drewN ?_ _ | refine blk_drew ?_ | refine blk_alloc ?_ _)); refine blk_put (cs := #[.string t293, .string t294, .string t295, .slice none 0 0, .slice none 0 0]) ?_ 3 _ rfl; (with_reducible repeat (first | refine blk_drewN ?_ _ | refine blk_drew ?_ | refine blk_alloc ?_ _)); refine blk_put (cs := #[.string t293, .string t294, .string (⟨#[]⟩ : ByteArray), .slice none 0 0, .slice none 0 0]) ?_ 2 _ rfl; (with_reducible repeat (first | refine blk_drewN ?_ _ | refine blk_drew ?_ | refine blk_alloc ?_ _)); refine blk_put (cs := #[.string t293, .string (⟨#[]⟩ : ByteArray), .string (⟨#[]⟩ : ByteArray), .slice none 0 0, .slice none 0 0]) ?_ 1 _ rfl; (with_reducible repeat (first | refine blk_drewN ?_ _ | refine blk_drew ?_ | refine blk_alloc ?_ _)); refine blk_put (cs := #[.string (⟨#[]⟩ : ByteArray), .string (⟨#[]⟩ : ByteArray), .string (⟨#[]⟩ : ByteArray), .slice none 0 0, .slice none 0 0]) ?_ 0 _ rfl; (with_reducible repeat (first | refine blk_drewN ?_ _ | refine blk_drew ?_ | refine blk_alloc ?_ _)); exact BK304.out⟩, ⟨bel_ HB.out⟩⟩
          case rest =>
           clear HC20
           try clear c1
           try clear p1
           try clear q1
           try clear hx1
           try clear c2
           try clear p2
           try clear hcv2
           try clear c4
           try clear c5
           try clear c5b0
           try clear c5b1
           try clear c5b2
           try clear p6
           try clear c7
           try clear c9
           try clear c9b0
           try clear c9b1
           try clear c10
           try clear c10b0
           try clear c10b1
           try clear c13
           try clear c13b0
           try clear c14
           try clear c14b0
           try clear c15
           try clear c15b0
           try clear p16
           try clear q16
           try clear hx16
           try clear hf16
           try clear hcv21
           try clear c27
           try clear c27b0
           try clear c27b1
           try clear c27b2
           try clear hcz24_0
           try clear hcz24_1
           try clear hcz24_2
           try clear hcz24_3
           try clear hcz24_4
           try clear hfz24_0
           try clear hfz24_1
           try clear hfz24_2
           try clear hfz24_3
           try clear hfz24_4
           try clear hx16_0
           try clear p16
           try clear p2
           try clear p6
           try clear q16
           obtain ⟨kq, x13_19, rfl, HA, HJ19, HO_305003, HO_305004, BK304, HB⟩ := hcut
           cases kq with
           | zero => exact absurd HA.out (by simp [tolllaw18_HeadSizes.j3])
           | succ kj19 =>
            have H := HA.out
            clear HA
            simp only [tolllaw18_HeadSizes.j3] at H
            have H' := Aside0.mk H
            clear H
            go_wp2
            go_loopg [14, 15] kj19 (fun kq v14 v15 w' => ∃ (x14_5 : ByteArray) (x15_5 : Int), v14 = .string x14_5 ∧ v15 = .int .i64 x15_5 ∧ Aside0 (tolllaw18_HeadSizes.l1 kq a2 t303 x13_19 x14_5 x15_5 = some r) ∧ Aside0 (kq ≤ kj19) ∧ Aside0 (Kd.R k35 35 w' w.heap.size (fun k_ => some k_ ≠ ((.slice Ao26 t299.length co26) : Value).ownBlock) (.slice Ao25 t296.length co25) t296) ∧ Aside0 (Kd.R k35 35 w' w.heap.size (fun k_ => some k_ ≠ ((.slice Ao25 t296.length co25) : Value).ownBlock) (.slice Ao26 t299.length co26) t299) ∧ Aside0 (w'.heap[gb304]? = some (.cells #[.string t293, .string t294, .string t295, (.slice Ao25 t296.length co25), (.slice Ao26 t299.length co26)] 26 (0, 0))) ∧ Aside0 (Below w.heap.size w w'))
            case atStart => exact ⟨((⟨#[]⟩ : ByteArray)), (0), sd_, sd_, H', ⟨Nat.le_refl _⟩, ⟨by (with_reducible repeat (first | apply Kd.R_alloc | apply Kd.R_drewN | apply Kd.R_drew)); exact HO_305003.out⟩, ⟨by (with_reducible repeat (first | apply Kd.R_alloc | apply Kd.R_drewN | apply Kd.R_drew)); exact HO_305004.out⟩, ⟨by (with_reducible repeat (first | refine blk_drewN ?_ _ | refine blk_drew ?_ | refine blk_alloc ?_ _)); exact BK304.out⟩, ⟨bel_ HB.out⟩⟩
            case round =>
             clear H'
             try clear c1
             try clear p1
             try clear q1
             try clear hx1
             try clear c2
             try clear p2
             try clear hcv2
             try clear c4
             try clear c5
             try clear c5b0
             try clear c5b1
             try clear c5b2
             try clear p6
             try clear c7
             try clear c9
             try clear c9b0
             try clear c9b1
             try clear c10
             try clear c10b0
             try clear c10b1
             try clear c13
             try clear c13b0
             try clear c14
             try clear c14b0
             try clear c15
             try clear c15b0
             try clear p16
             try clear q16
             try clear hx16
             try clear hf16
             try clear hcv21
             try clear c27
             try clear c27b0
             try clear c27b1
             try clear c27b2
             try clear hcz24_0
             try clear hcz24_1
             try clear hcz24_2
             try clear hcz24_3
             try clear hcz24_4
             try clear hfz24_0
             try clear hfz24_1
             try clear hfz24_2
             try clear hfz24_3
             try clear hfz24_4
             try clear hx16_0
             try clear p1
             try clear p16
             try clear p2
             try clear p6
             try clear q1
             try clear q16
             obtain ⟨x14_5, x15_5, rfl, rfl, HA, HK5, HO_305003, HO_305004, BK304, HB⟩ := hrel
             cases gk with
             | zero => exact absurd HA.out (by simp [tolllaw18_HeadSizes.l1])
             | succ k5 =>
              have H := HA.out
              clear HA
              simp only [tolllaw18_HeadSizes.l1] at H
              by_cases c28 : x15_5 < (wrap64 (Int.tmod a2 9))
              ·rw [if_pos c28] at H
               have c28b0 : decide (x15_5 < (wrap64 (Int.tmod a2 9))) = true := decide_eq_true c28
               clear c28
               by_cases c29 : x14_5.size + 1 ≤ 9223372036854775807
               ·rw [if_pos c29] at H
                have c29b0 := eq_true c29
                have c29b1 : decide (x14_5.size + 1 ≤ 9223372036854775807) = true := decide_eq_true c29
                try have c29b2 : (9223372036854775807 < x14_5.size + 1) = False := eq_false (Nat.not_lt.2 c29)
                have H' := Aside0.mk H
                clear H
                go_wp2
                go_roundg k5
                case measure => have := HJ3.out; have := HJ5.out; have := HK3.out; have := HJ19.out; have := HK5.out; omega
                case rel => exact ⟨(x14_5 ++ (⟨#[32]⟩ : ByteArray)), (wrap64 (x15_5 + 1)), sd_, sd_, H', ⟨by have := HJ3.out; have := HJ5.out; have := HK3.out; have := HJ19.out; have := HK5.out; omega⟩, ⟨by (with_reducible repeat (first | apply Kd.R_alloc | apply Kd.R_drewN | apply Kd.R_drew)); exact HO_305003.out⟩, ⟨by (with_reducible repeat (first | apply Kd.R_alloc | apply Kd.R_drewN | apply Kd.R_drew)); exact HO_305004.out⟩, ⟨by (with_reducible repeat (first | refine blk_drewN ?_ _ | refine blk_drew ?_ | refine blk_alloc ?_ _)); exact BK304.out⟩, ⟨bel_ HB.out⟩⟩
               ·rw [if_neg c29] at H
                exact absurd H (by simp)
              ·rw [if_neg c28] at H
               have c28b0 : decide (x15_5 < (wrap64 (Int.tmod a2 9))) = false := decide_eq_false c28
               clear c28
               by_cases c30 : 21 + x14_5.size ≤ 9223372036854775807
               ·rw [if_pos c30] at H
                have c30b0 := eq_true c30
                have c30b1 : decide (21 + x14_5.size ≤ 9223372036854775807) = true := decide_eq_true c30
                try have c30b2 : (9223372036854775807 < 21 + x14_5.size) = False := eq_false (Nat.not_lt.2 c30)
                by_cases c31 : ((⟨#[71, 69, 84, 32, 47, 32, 72, 84, 84, 80, 47, 49, 46, 49, 13, 10, 72, 111, 115, 116, 58]⟩ : ByteArray) ++ x14_5).size + 1 ≤ 9223372036854775807
                ·rw [if_pos c31] at H
                 have c31b0 := eq_true c31
                 have c31b1 : decide (((⟨#[71, 69, 84, 32, 47, 32, 72, 84, 84, 80, 47, 49, 46, 49, 13, 10, 72, 111, 115, 116, 58]⟩ : ByteArray) ++ x14_5).size + 1 ≤ 9223372036854775807) = true := decide_eq_true c31
                 try have c31b2 : (9223372036854775807 < ((⟨#[71, 69, 84, 32, 47, 32, 72, 84, 84, 80, 47, 49, 46, 49, 13, 10, 72, 111, 115, 116, 58]⟩ : ByteArray) ++ x14_5).size + 1) = False := eq_false (Nat.not_lt.2 c31)
                 (try have c31z : (9223372036854775807 < 21 + x14_5.size + 1) = False := eq_false (Nat.not_lt.2 (by have q_ := c31; simp only [ByteArray.size_append] at q_; exact q_)))
                 by_cases c32 : (((⟨#[71, 69, 84, 32, 47, 32, 72, 84, 84, 80, 47, 49, 46, 49, 13, 10, 72, 111, 115, 116, 58]⟩ : ByteArray) ++ x14_5) ++ (⟨#[97]⟩ : ByteArray)).size + x14_5.size ≤ 9223372036854775807
                 ·rw [if_pos c32] at H
                  have c32b0 := eq_true c32
                  have c32b1 : decide ((((⟨#[71, 69, 84, 32, 47, 32, 72, 84, 84, 80, 47, 49, 46, 49, 13, 10, 72, 111, 115, 116, 58]⟩ : ByteArray) ++ x14_5) ++ (⟨#[97]⟩ : ByteArray)).size + x14_5.size ≤ 9223372036854775807) = true := decide_eq_true c32
                  try have c32b2 : (9223372036854775807 < (((⟨#[71, 69, 84, 32, 47, 32, 72, 84, 84, 80, 47, 49, 46, 49, 13, 10, 72, 111, 115, 116, 58]⟩ : ByteArray) ++ x14_5) ++ (⟨#[97]⟩ : ByteArray)).size + x14_5.size) = False := eq_false (Nat.not_lt.2 c32)
                  (try have c32z : (9223372036854775807 < 21 + x14_5.size + 1 + x14_5.size) = False := eq_false (Nat.not_lt.2 (by have q_ := c32; simp only [ByteArray.size_append] at q_; exact q_)))
                  by_cases c33 : ((((⟨#[71, 69, 84, 32, 47, 32, 72, 84, 84, 80, 47, 49, 46, 49, 13, 10, 72, 111, 115, 116, 58]⟩ : ByteArray) ++ x14_5) ++ (⟨#[97]⟩ : ByteArray)) ++ x14_5).size + 4 ≤ 9223372036854775807
                  ·rw [if_pos c33] at H
                   have c33b0 := eq_true c33
                   have c33b1 : decide (((((⟨#[71, 69, 84, 32, 47, 32, 72, 84, 84, 80, 47, 49, 46, 49, 13, 10, 72, 111, 115, 116, 58]⟩ : ByteArray) ++ x14_5) ++ (⟨#[97]⟩ : ByteArray)) ++ x14_5).size + 4 ≤ 9223372036854775807) = true := decide_eq_true c33
                   try have c33b2 : (9223372036854775807 < ((((⟨#[71, 69, 84, 32, 47, 32, 72, 84, 84, 80, 47, 49, 46, 49, 13, 10, 72, 111, 115, 116, 58]⟩ : ByteArray) ++ x14_5) ++ (⟨#[97]⟩ : ByteArray)) ++ x14_5).size + 4) = False := eq_false (Nat.not_lt.2 c33)
                   (try have c33z : (9223372036854775807 < 21 + x14_5.size + 1 + x14_5.size + 4) = False := eq_false (Nat.not_lt.2 (by have q_ := c33; simp only [ByteArray.size_append] at q_; exact q_)))
                   by_cases c34 : (((((⟨#[71, 69, 84, 32, 47, 32, 72, 84, 84, 80, 47, 49, 46, 49, 13, 10, 72, 111, 115, 116, 58]⟩ : ByteArray) ++ x14_5) ++ (⟨#[97]⟩ : ByteArray)) ++ x14_5) ++ (⟨#[13, 10, 88, 58]⟩ : ByteArray)).size + x14_5.size ≤ 9223372036854775807
                   ·rw [if_pos c34] at H
                    have c34b0 := eq_true c34
                    have c34b1 : decide ((((((⟨#[71, 69, 84, 32, 47, 32, 72, 84, 84, 80, 47, 49, 46, 49, 13, 10, 72, 111, 115, 116, 58]⟩ : ByteArray) ++ x14_5) ++ (⟨#[97]⟩ : ByteArray)) ++ x14_5) ++ (⟨#[13, 10, 88, 58]⟩ : ByteArray)).size + x14_5.size ≤ 9223372036854775807) = true := decide_eq_true c34
                    try have c34b2 : (9223372036854775807 < (((((⟨#[71, 69, 84, 32, 47, 32, 72, 84, 84, 80, 47, 49, 46, 49, 13, 10, 72, 111, 115, 116, 58]⟩ : ByteArray) ++ x14_5) ++ (⟨#[97]⟩ : ByteArray)) ++ x14_5) ++ (⟨#[13, 10, 88, 58]⟩ : ByteArray)).size + x14_5.size) = False := eq_false (Nat.not_lt.2 c34)
                    (try have c34z : (9223372036854775807 < 21 + x14_5.size + 1 + x14_5.size + 4 + x14_5.size) = False := eq_false (Nat.not_lt.2 (by have q_ := c34; simp only [ByteArray.size_append] at q_; exact q_)))
                    by_cases c35 : ((((((⟨#[71, 69, 84, 32, 47, 32, 72, 84, 84, 80, 47, 49, 46, 49, 13, 10, 72, 111, 115, 116, 58]⟩ : ByteArray) ++ x14_5) ++ (⟨#[97]⟩ : ByteArray)) ++ x14_5) ++ (⟨#[13, 10, 88, 58]⟩ : ByteArray)) ++ x14_5).size + 4 ≤ 9223372036854775807
                    ·rw [if_pos c35] at H
                     have c35b0 := eq_true c35
                     have c35b1 : decide (((((((⟨#[71, 69, 84, 32, 47, 32, 72, 84, 84, 80, 47, 49, 46, 49, 13, 10, 72, 111, 115, 116, 58]⟩ : ByteArray) ++ x14_5) ++ (⟨#[97]⟩ : ByteArray)) ++ x14_5) ++ (⟨#[13, 10, 88, 58]⟩ : ByteArray)) ++ x14_5).size + 4 ≤ 9223372036854775807) = true := decide_eq_true c35
                     try have c35b2 : (9223372036854775807 < ((((((⟨#[71, 69, 84, 32, 47, 32, 72, 84, 84, 80, 47, 49, 46, 49, 13, 10, 72, 111, 115, 116, 58]⟩ : ByteArray) ++ x14_5) ++ (⟨#[97]⟩ : ByteArray)) ++ x14_5) ++ (⟨#[13, 10, 88, 58]⟩ : ByteArray)) ++ x14_5).size + 4) = False := eq_false (Nat.not_lt.2 c35)
                     (try have c35z : (9223372036854775807 < 21 + x14_5.size + 1 + x14_5.size + 4 + x14_5.size + 4) = False := eq_false (Nat.not_lt.2 (by have q_ := c35; simp only [ByteArray.size_append] at q_; exact q_)))
                     replace H := Option.bind_eq_some_iff.mp H
                     obtain ⟨⟨t305, t306, t307, t308, t311, t314, t315⟩, A360, H⟩ := H
                     replace H : (if t303 = x13_19 then (if t315 = 0 then (if t306.toList = ([97] : List UInt8) then (if (t311.length : Int) = 2 then (if 1 < (t311.length : Int) then (if ((rd_T35 t311 1).f1).toList = ([] : List UInt8) then ((tolllaw18_awake.f k5).bind fun t318 => (some t318)) else (none)) else (none)) else (none)) else (none)) else (none)) else (none)) = some r := H
                     have A36 := Aside0.mk A360
                     clear A360
                     by_cases c37 : t303 = x13_19
                     ·rw [if_pos c37] at H
                      have c37b0 : (t303 == x13_19) = true := beq_iff_eq.mpr c37
                      have c37b1 : (t303 != x13_19) = false := bne_eq_false_iff_eq.mpr c37
                      clear c37
                      by_cases c38 : t315 = 0
                      ·rw [if_pos c38] at H
                       have c38b0 : (t315 == 0) = true := beq_iff_eq.mpr c38
                       have c38b1 : (t315 != 0) = false := bne_eq_false_iff_eq.mpr c38
                       clear c38
                       by_cases c39 : t306.toList = ([97] : List UInt8)
                       ·rw [if_pos c39] at H
                        have c39b0 : (t306.toList == ([97] : List UInt8)) = true := beq_iff_eq.mpr c39
                        have c39b1 : (t306.toList != ([97] : List UInt8)) = false := bne_eq_false_iff_eq.mpr c39
                        clear c39
                        by_cases c40 : (t311.length : Int) = 2
                        ·rw [if_pos c40] at H
                         have c40b0 : ((t311.length : Int) == 2) = true := beq_iff_eq.mpr c40
                         have c40b1 : ((t311.length : Int) != 2) = false := bne_eq_false_iff_eq.mpr c40
                         clear c40
                         by_cases c41 : 1 < (t311.length : Int)
                         ·rw [if_pos c41] at H
                          have c41b0 : decide (1 < (t311.length : Int)) = true := decide_eq_true c41
                          have c41b1 : decide (1 < t311.length) = true := decide_eq_true (by omega)
                          clear c41
                          by_cases c42 : ((rd_T35 t311 1).f1).toList = ([] : List UInt8)
                          ·rw [if_pos c42] at H
                           have c42b0 : (((rd_T35 t311 1).f1).toList == ([] : List UInt8)) = true := beq_iff_eq.mpr c42
                           have c42b1 : (((rd_T35 t311 1).f1).toList != ([] : List UInt8)) = false := bne_eq_false_iff_eq.mpr c42
                           clear c42
                           replace H := Option.bind_eq_some_iff.mp H
                           obtain ⟨t318, A430, H⟩ := H
                           replace H : (some t318) = some r := H
                           have A43 := Aside0.mk A430
                           clear A430
                           obtain rfl := Option.some.inj H
                           go_wp2_with (first | ((with_reducible refine gate_callee (f := 9) rfl ?_); refine goesL_ (some 67) rfl rfl Tryd.func9 kr_ rfl #[.string (((((((⟨#[71, 69, 84, 32, 47, 32, 72, 84, 84, 80, 47, 49, 46, 49, 13, 10, 72, 111, 115, 116, 58]⟩ : ByteArray) ++ x14_5) ++ (⟨#[97]⟩ : ByteArray)) ++ x14_5) ++ (⟨#[13, 10, 88, 58]⟩ : ByteArray)) ++ x14_5) ++ (⟨#[13, 10, 13, 10]⟩ : ByteArray))] rfl rl_ ?_; (with_reducible refine (head_Parse.calls k5 (((((((⟨#[71, 69, 84, 32, 47, 32, 72, 84, 84, 80, 47, 49, 46, 49, 13, 10, 72, 111, 115, 116, 58]⟩ : ByteArray) ++ x14_5) ++ (⟨#[97]⟩ : ByteArray)) ++ x14_5) ++ (⟨#[13, 10, 88, 58]⟩ : ByteArray)) ++ x14_5) ++ (⟨#[13, 10, 13, 10]⟩ : ByteArray)) t305 t306 t307 t308 t311 t314 t315 _ (gm_ HGL.out (bel_ HB.out)) A36.out).mono ?_); rintro e w44 ⟨v309, v312, rfl, ho0, ho1, hb⟩; refine ⟨_, rfl, ?_⟩; have n0_ := am_ (Kd.R_mono (Kd.R_told (Kd.R_told (Kd.R_old (R_ HO_305003.out) hb) (Kd.R_base ho0)) (Kd.R_base ho1)) (fun _ h_ => h_.1)); have n1_ := am_ (Kd.R_mono (Kd.R_told (Kd.R_told (Kd.R_old (R_ HO_305004.out) hb) (Kd.R_base ho0)) (Kd.R_base ho1)) (fun _ h_ => h_.1)); have n2_ := am_ (Kd.R_lower (Kd.R_new' (Kd.R_new' ho0 (Kd.R_lt (R_ HO_305003.out))) (Kd.R_lt (R_ HO_305004.out))) (below_size (bel_ HB.out))); have n3_ := am_ (Kd.R_lower (Kd.R_new' (Kd.R_new' ho1 (Kd.R_lt (R_ HO_305003.out))) (Kd.R_lt (R_ HO_305004.out))) (below_size (bel_ HB.out))); have n4_ := am_ (blk_below (g := gb304) (o := .cells #[.string t293, .string t294, .string t295, .slice Ao25 t296.length co25, .slice Ao26 t299.length co26] 26 (0, 0)) (blk_ BK304.out) hb); have n5_ := am_ (below_step (bel_ HB.out) hb); clear HO_305003 HO_305004 BK304 HB; have HO_305003 := n0_; have HO_305004 := n1_; have HO310 := n2_; have HO313 := n3_; have BK304 := n4_; have HB := n5_; clear n0_ n1_ n2_ n3_ n4_ n5_; (try clear hb); (try clear hb2); (try clear hk); (try clear hi); (try clear ho0); (try clear ho1)) | ((with_reducible refine gate_dst (N := 16) rfl ?_); (try (refine gate_guard (by rfl) ?_; dsimp only)); refine box_event ?hg (N := 16) ?hd (cs := #[.string (⟨#[]⟩ : ByteArray), .string (⟨#[]⟩ : ByteArray), .string (⟨#[]⟩ : ByteArray), .slice none 0 0, .slice none 0 0]) (t := 26) ?hr ?_; (case hd => rfl); (case hg => rfl); (case hr => first | (go_simp; done) | (go_simp; rfl)); intro gb316 hg w45 hbox hb; have n0_ := am_ (Kd.R_below (R_ HO_305003.out) hb); have n1_ := am_ (Kd.R_below (R_ HO_305004.out) hb); have n2_ := am_ (Kd.R_below (R_ HO310.out) hb); have n3_ := am_ (Kd.R_below (R_ HO313.out) hb); have n4_ := am_ (blk_below (g := gb304) (o := .cells #[.string t293, .string t294, .string t295, .slice Ao25 t296.length co25, .slice Ao26 t299.length co26] 26 (0, 0)) (blk_ BK304.out) hb); have n5_ := am_ (below_step (bel_ HB.out) hb); have n6_ := am_ (hbox); have n7_ := am_ ((by rw [hg]; exact (below_size (bel_ HB.out)) : w.heap.size ≤ gb316)); have n8_ := am_ ((by rw [hg]; exact (below_size (bel_ HB.out)) : w.heap.size ≤ gb316)); have n9_ := am_ ((by rw [hg]; exact Nat.ne_of_lt (blk_lt (g := gb304) (o := .cells #[.string t293, .string t294, .string t295, .slice Ao25 t296.length co25, .slice Ao26 t299.length co26] 26 (0, 0)) (blk_ BK304.out)) : gb304 ≠ gb316)); have n10_ := am_ ((by rw [hg]; exact Nat.ne_of_gt (blk_lt (g := gb304) (o := .cells #[.string t293, .string t294, .string t295, .slice Ao25 t296.length co25, .slice Ao26 t299.length co26] 26 (0, 0)) (blk_ BK304.out)) : gb316 ≠ gb304)); clear HO_305003 HO_305004 HO310 HO313 BK304 HB; have HO_305003 := n0_; have HO_305004 := n1_; have HO310 := n2_; have HO313 := n3_; have BK304 := n4_; have HB := n5_; have BK316 := n6_; have GW316 := n7_; have GE316 := n8_; have NB304_316 := n9_; have NB316_304 := n10_; clear n0_ n1_ n2_ n3_ n4_ n5_ n6_ n7_ n8_ n9_ n10_ hb hbox hg; have hnb46 := NB316_304.out; have hnc46 := NB304_316.out; have hcz47_0 : w45.cell? ⟨gb316, 0, none⟩ = some (.string (⟨#[]⟩ : ByteArray)) := (blk_cell BK316.out 0).trans rfl; have hcz47_1 : w45.cell? ⟨gb316, 1, none⟩ = some (.string (⟨#[]⟩ : ByteArray)) := (blk_cell BK316.out 1).trans rfl; have hcz47_2 : w45.cell? ⟨gb316, 2, none⟩ = some (.string (⟨#[]⟩ : ByteArray)) := (blk_cell BK316.out 2).trans rfl; have hcz47_3 : w45.cell? ⟨gb316, 3, none⟩ = some (.slice none 0 0) := (blk_cell BK316.out 3).trans rfl; have hcz47_4 : w45.cell? ⟨gb316, 4, none⟩ = some (.slice none 0 0) := (blk_cell BK316.out 4).trans rfl; have hfz47_0 := blk_frozen BK316.out 0; have hfz47_1 := blk_frozen BK316.out 1; have hfz47_2 := blk_frozen BK316.out 2; have hfz47_3 := blk_frozen BK316.out 3; have hfz47_4 := blk_frozen BK316.out 4; obtain ⟨Ao48, co48, eo48⟩ := Kd.R_slice HO310.out; subst eo48; obtain ⟨Ao49, co49, eo49⟩ := Kd.R_slice HO313.out; subst eo49; have p317 : 0 ≤ (1 : Int) := (by omega); have q317 : 1 < (t311.length : Int) := of_decide_eq_true as_; obtain ⟨ad317, e317, hx317_0, hx317_1⟩ := at_T35 (Kd.R_reads' HO313.out).2.2 1 p317 q317; cases e317; (try simp only [show (1 : Int).toNat = 1 from rfl, Nat.reduceMul, Nat.reduceEqDiff, Go.Addr.add, ↓reduceIte] at hx317_0); (try simp only [show (1 : Int).toNat = 1 from rfl, Nat.reduceMul, Nat.reduceEqDiff, Go.Addr.add, ↓reduceIte] at hx317_1); have qi317 : (1 < t311.length) = True := eq_true (by omega); (try rw [show ((1 : Int)).toNat = 1 from rfl] at hx317_0); (try rw [show 1 * 2 = 2 from rfl] at hx317_0); (try rw [show ((1 : Int)).toNat = 1 from rfl] at hx317_1); (try rw [show 1 * 2 = 2 from rfl] at hx317_1); have hn317_0 : ad317.block ≠ gb316 := Kd.own_blk (Kd.R_ne HO313.out BK316.out (by decide)); have hn317_1 : ad317.block ≠ gb316 := Kd.own_blk (Kd.R_ne HO313.out BK316.out (by decide)); have hn317_2 : ad317.block ≠ gb316 := Kd.own_blk (Kd.R_ne HO313.out BK316.out (by decide)); have hn317_3 : ad317.block ≠ gb316 := Kd.own_blk (Kd.R_ne HO313.out BK316.out (by decide)); have hn317_4 : ad317.block ≠ gb316 := Kd.own_blk (Kd.R_ne HO313.out BK316.out (by decide)); replace hx317_0 := (cell_far (p := ⟨gb316, 0, none⟩) (by first | (rw [add_block]; exact hn317_0) | (show (Addr.add _ _).block ≠ _; rw [add_block]; exact hn317_0) | exact hn317_0) (.string t305)).trans hx317_0; replace hx317_1 := (cell_far (p := ⟨gb316, 0, none⟩) (by first | (rw [add_block]; exact hn317_0) | (show (Addr.add _ _).block ≠ _; rw [add_block]; exact hn317_0) | exact hn317_0) (.string t305)).trans hx317_1; replace hx317_0 := (cell_far (p := ⟨gb316, 1, none⟩) (by first | (rw [add_block]; exact hn317_1) | (show (Addr.add _ _).block ≠ _; rw [add_block]; exact hn317_1) | exact hn317_1) (.string t306)).trans hx317_0; replace hx317_1 := (cell_far (p := ⟨gb316, 1, none⟩) (by first | (rw [add_block]; exact hn317_1) | (show (Addr.add _ _).block ≠ _; rw [add_block]; exact hn317_1) | exact hn317_1) (.string t306)).trans hx317_1; replace hx317_0 := (cell_far (p := ⟨gb316, 2, none⟩) (by first | (rw [add_block]; exact hn317_2) | (show (Addr.add _ _).block ≠ _; rw [add_block]; exact hn317_2) | exact hn317_2) (.string t307)).trans hx317_0; replace hx317_1 := (cell_far (p := ⟨gb316, 2, none⟩) (by first | (rw [add_block]; exact hn317_2) | (show (Addr.add _ _).block ≠ _; rw [add_block]; exact hn317_2) | exact hn317_2) (.string t307)).trans hx317_1; replace hx317_0 := (cell_far (p := ⟨gb316, 3, none⟩) (by first | (rw [add_block]; exact hn317_3) | (show (Addr.add _ _).block ≠ _; rw [add_block]; exact hn317_3) | exact hn317_3) (.slice Ao48 t308.length co48)).trans hx317_0; replace hx317_1 := (cell_far (p := ⟨gb316, 3, none⟩) (by first | (rw [add_block]; exact hn317_3) | (show (Addr.add _ _).block ≠ _; rw [add_block]; exact hn317_3) | exact hn317_3) (.slice Ao48 t308.length co48)).trans hx317_1; replace hx317_0 := (cell_far (p := ⟨gb316, 4, none⟩) (by first | (rw [add_block]; exact hn317_4) | (show (Addr.add _ _).block ≠ _; rw [add_block]; exact hn317_4) | exact hn317_4) (.slice (some ad317) t311.length co49)).trans hx317_0; replace hx317_1 := (cell_far (p := ⟨gb316, 4, none⟩) (by first | (rw [add_block]; exact hn317_4) | (show (Addr.add _ _).block ≠ _; rw [add_block]; exact hn317_4) | exact hn317_4) (.slice (some ad317) t311.length co49)).trans hx317_1; clear hn317_0 hn317_1 hn317_2 hn317_3 hn317_4; replace p317 := eq_true p317; replace q317 := eq_true q317) | (go_at_call 11; (with_reducible refine (tolllaw18_awake.calls k5  t318 _ (gm_ HGL.out (bel_ HB.out)) A43.out).mono ?_); rintro e w50 ⟨rfl, hb⟩; have n0_ := am_ (Kd.R_below (by (with_reducible repeat (first | apply Kd.R_alloc | apply Kd.R_drewN | apply Kd.R_drew)); exact (Kd.R_mono (Kd.R_far (p := ⟨gb316, 4, none⟩) (Kd.R_far (p := ⟨gb316, 3, none⟩) (Kd.R_far (p := ⟨gb316, 2, none⟩) (Kd.R_far (p := ⟨gb316, 1, none⟩) (Kd.R_far (p := ⟨gb316, 0, none⟩) (Kd.R_types HO_305003.out BK316.out (by decide)) (fun _ hk => hk.2) (.string t305)) (fun _ hk => hk.2) (.string t306)) (fun _ hk => hk.2) (.string t307)) (fun _ hk => hk.2) (.slice Ao48 t308.length co48)) (fun _ hk => hk.2) (.slice (some ad317) t311.length co49)) (fun _ h_ => h_.1))) hb); have n1_ := am_ (Kd.R_below (by (with_reducible repeat (first | apply Kd.R_alloc | apply Kd.R_drewN | apply Kd.R_drew)); exact (Kd.R_mono (Kd.R_far (p := ⟨gb316, 4, none⟩) (Kd.R_far (p := ⟨gb316, 3, none⟩) (Kd.R_far (p := ⟨gb316, 2, none⟩) (Kd.R_far (p := ⟨gb316, 1, none⟩) (Kd.R_far (p := ⟨gb316, 0, none⟩) (Kd.R_types HO_305004.out BK316.out (by decide)) (fun _ hk => hk.2) (.string t305)) (fun _ hk => hk.2) (.string t306)) (fun _ hk => hk.2) (.string t307)) (fun _ hk => hk.2) (.slice Ao48 t308.length co48)) (fun _ hk => hk.2) (.slice (some ad317) t311.length co49)) (fun _ h_ => h_.1))) hb); have n2_ := am_ (Kd.R_below (by (with_reducible repeat (first | apply Kd.R_alloc | apply Kd.R_drewN | apply Kd.R_drew)); exact (Kd.R_mono (Kd.R_far (p := ⟨gb316, 4, none⟩) (Kd.R_far (p := ⟨gb316, 3, none⟩) (Kd.R_far (p := ⟨gb316, 2, none⟩) (Kd.R_far (p := ⟨gb316, 1, none⟩) (Kd.R_far (p := ⟨gb316, 0, none⟩) (Kd.R_types HO310.out BK316.out (by decide)) (fun _ hk => hk.2) (.string t305)) (fun _ hk => hk.2) (.string t306)) (fun _ hk => hk.2) (.string t307)) (fun _ hk => hk.2) (.slice Ao48 t308.length co48)) (fun _ hk => hk.2) (.slice (some ad317) t311.length co49)) (fun _ h_ => h_.1))) hb); have n3_ := am_ (Kd.R_below (by (with_reducible repeat (first | apply Kd.R_alloc | apply Kd.R_drewN | apply Kd.R_drew)); exact (Kd.R_mono (Kd.R_far (p := ⟨gb316, 4, none⟩) (Kd.R_far (p := ⟨gb316, 3, none⟩) (Kd.R_far (p := ⟨gb316, 2, none⟩) (Kd.R_far (p := ⟨gb316, 1, none⟩) (Kd.R_far (p := ⟨gb316, 0, none⟩) (Kd.R_types HO313.out BK316.out (by decide)) (fun _ hk => hk.2) (.string t305)) (fun _ hk => hk.2) (.string t306)) (fun _ hk => hk.2) (.string t307)) (fun _ hk => hk.2) (.slice Ao48 t308.length co48)) (fun _ hk => hk.2) (.slice (some ad317) t311.length co49)) (fun _ h_ => h_.1))) hb); have n4_ := am_ (blk_below (g := gb304) (o := .cells #[.string t293, .string t294, .string t295, .slice Ao25 t296.length co25, .slice Ao26 t299.length co26] 26 (0, 0)) (by (with_reducible repeat (first | refine blk_drewN ?_ _ | refine blk_drew ?_ | refine blk_alloc ?_ _)); refine blk_far ?_ NB304_316.out _; (with_reducible repeat (first | refine blk_drewN ?_ _ | refine blk_drew ?_ | refine blk_alloc ?_ _)); refine blk_far ?_ NB304_316.out _; (with_reducible repeat (first | refine blk_drewN ?_ _ | refine blk_drew ?_ | refine blk_alloc ?_ _)); refine blk_far ?_ NB304_316.out _; (with_reducible repeat (first | refine blk_drewN ?_ _ | refine blk_drew ?_ | refine blk_alloc ?_ _)); refine blk_far ?_ NB304_316.out _; (with_reducible repeat (first | refine blk_drewN ?_ _ | refine blk_drew ?_ | refine blk_alloc ?_ _)); refine blk_far ?_ NB304_316.out _; (with_reducible repeat (first | refine blk_drewN ?_ _ | refine blk_drew ?_ | refine blk_alloc ?_ _)); exact BK304.out) hb); have n5_ := am_ (blk_below (g := gb316) (o := .cells #[.string t305, .string t306, .string t307, .slice Ao48 t308.length co48, .slice (some ad317) t311.length co49] 26 (0, 0)) (by (with_reducible repeat (first | refine blk_drewN ?_ _ | refine blk_drew ?_ | refine blk_alloc ?_ _)); refine blk_put (cs := #[.string t305, .string t306, .string t307, .slice Ao48 t308.length co48, .slice none 0 0]) ?_ 4 _ rfl; (with_reducible repeat (first | refine blk_drewN ?_ _ | refine blk_drew ?_ | refine blk_alloc ?_ _)); refine blk_put (cs := #[.string t305, .string t306, .string t307, .slice none 0 0, .slice none 0 0]) ?_ 3 _ rfl; (with_reducible repeat (first | refine blk_drewN ?_ _ | refine blk_drew ?_ | refine blk_alloc ?_ _)); refine blk_put (cs := #[.string t305, .string t306, .string (⟨#[]⟩ : ByteArray), .slice none 0 0, .slice none 0 0]) ?_ 2 _ rfl; (with_reducible repeat (first | refine blk_drewN ?_ _ | refine blk_drew ?_ | refine blk_alloc ?_ _)); refine blk_put (cs := #[.string t305, .string (⟨#[]⟩ : ByteArray), .string (⟨#[]⟩ : ByteArray), .slice none 0 0, .slice none 0 0]) ?_ 1 _ rfl; (with_reducible repeat (first | refine blk_drewN ?_ _ | refine blk_drew ?_ | refine blk_alloc ?_ _)); refine blk_put (cs := #[.string (⟨#[]⟩ : ByteArray), .string (⟨#[]⟩ : ByteArray), .string (⟨#[]⟩ : ByteArray), .slice none 0 0, .slice none 0 0]) ?_ 0 _ rfl; (with_reducible repeat (first | refine blk_drewN ?_ _ | refine blk_drew ?_ | refine blk_alloc ?_ _)); exact BK316.out) hb); have n6_ := am_ (below_step (bel_ HB.out) hb); clear HO_305003 HO_305004 HO310 HO313 BK304 BK316 HB; have HO_305003 := n0_; have HO_305004 := n1_; have HO310 := n2_; have HO313 := n3_; have BK304 := n4_; have BK316 := n5_; have HB := n6_; clear n0_ n1_ n2_ n3_ n4_ n5_ n6_; (try clear hb); (try clear hb2); (try clear hk); (try clear hi)))
                           go_ret
                           exact ⟨by first | rfl | (simp [errW_none, errW_some] <;> rfl) | (simp only [← hji8]; first | rfl | (simp [errW_none, errW_some] <;> rfl)) | (simp [*, errW_none, errW_some] <;> rfl), bel_ HB.out⟩
                          ·rw [if_neg c42] at H
                           exact absurd H (by simp)
                         ·rw [if_neg c41] at H
                          exact absurd H (by simp)
                        ·rw [if_neg c40] at H
                         exact absurd H (by simp)
                       ·rw [if_neg c39] at H
                        exact absurd H (by simp)
                      ·rw [if_neg c38] at H
                       exact absurd H (by simp)
                     ·rw [if_neg c37] at H
                      exact absurd H (by simp)
                    ·rw [if_neg c35] at H
                     exact absurd H (by simp)
                   ·rw [if_neg c34] at H
                    exact absurd H (by simp)
                  ·rw [if_neg c33] at H
                   exact absurd H (by simp)
                 ·rw [if_neg c32] at H
                  exact absurd H (by simp)
                ·rw [if_neg c31] at H
                 exact absurd H (by simp)
               ·rw [if_neg c30] at H
                exact absurd H (by simp)
      ·rw [if_neg c10] at H
       exact absurd H (by simp)
     ·rw [if_neg c9] at H
      exact absurd H (by simp)

/-- THE ONE PURE STATEMENT of tolllaw18_HeadSizes: yours. -/
def tolllaw18_HeadSizes.Pure : Prop := ∀ (a0 : Int) (a1 : Int) (a2 : Int), (Lit.int .u16 a0).wf = true → (Lit.int .u8 a1).wf = true → (Lit.int .u8 a2).wf = true → ∃ k, tolllaw18_HeadSizes.f k a0 a1 a2 = some true
theorem tolllaw18_HeadSizes.walk (P : tolllaw18_HeadSizes.Pure) (a0 : Int) (a1 : Int) (a2 : Int) (w : World) (hG : MaxL w) (w0 : (Lit.int .u16 a0).wf = true) (w1 : (Lit.int .u8 a1).wf = true) (w2 : (Lit.int .u8 a2).wf = true) :
  Calls Tryd.prog 4 #[.int .u16 a0, .int .u8 a1, .int .u8 a2] w fun e w' => e = .returned (.bool true) ∧ Below w.heap.size w w' := by
 obtain ⟨k, h⟩ := P a0 a1 a2 w0 w1 w2
 refine (tolllaw18_HeadSizes.calls k a0 a1 a2 true w hG h).mono ?_
 rintro e w' ⟨rfl, hd⟩
 exact ⟨rfl, hd⟩

end Go.Proofs.YtpmllmfamjpinaaDoor.P
