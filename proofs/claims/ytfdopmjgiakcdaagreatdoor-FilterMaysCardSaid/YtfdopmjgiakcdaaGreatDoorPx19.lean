-- written by wip/tool/hprint.py of this repo: the kit's print, with contracts by hand joined; Lean checks it.
import Derived.Test.YtfdopmjgiakcdaaGreatDoorPx0
import Derived.Test.YtfdopmjgiakcdaaGreatDoorPx4
import Derived.Test.YtfdopmjgiakcdaaGreatDoorPx6
import Derived.Test.YtfdopmjgiakcdaaGreatDoorPx8
import Derived.Test.YtfdopmjgiakcdaaGreatDoorPx10
import Derived.Test.YtfdopmjgiakcdaaGreatDoorPx15
import Derived.Test.YtfdopmjgiakcdaaGreatDoorPx16
namespace Go.Proofs.YtfdopmjgiakcdaaGreatDoor.P
open Go.RowKit Go.Proofs.YtfdopmjgiakcdaaGreatDoorW.PrintWords Go.Proofs.YtfdopmjgiakcdaaGreatDoorW.PrintLast Go.Proofs.YtfdopmjgiakcdaaGreatDoorW.PrintMore
attribute [local go_sem] max2_int min2_int max_two min_two max_three min_three max_four min_four   -- for this text's walks alone
set_option linter.unusedVariables false
set_option linter.unusedSimpArgs false

/-! ### tolllaw07_FilterMays: function 3 -/
def tolllaw07_FilterMays.l0 : Nat → List (S26) → Int → Option (Bool)
 | 0, _, _ => none
 | k + 1, x0, x3 => if x3 < (x0.length : Int) then (if 0 ≤ x3 then ((filter_May.f k ((rd_T26 x0 x3).f0) ((rd_T26 x0 x3).f1) ((rd_T26 x0 x3).f2) ((rd_T26 x0 x3).f3) ((rd_T26 x0 x3).f4) ((rd_T26 x0 x3).f5) ((rd_T26 x0 x3).f6) ((rd_T26 x0 x3).f7)).bind fun t267 => ((tollref07_May.f k ((rd_T26 x0 x3).f0) ((rd_T26 x0 x3).f1) ((rd_T26 x0 x3).f2) ((rd_T26 x0 x3).f3) ((rd_T26 x0 x3).f4) ((rd_T26 x0 x3).f5) ((rd_T26 x0 x3).f6) ((rd_T26 x0 x3).f7)).bind fun t269 => (if (t267 != t269) = true then (none) else (tolllaw07_FilterMays.l0 k x0 (wrap64 (x3 + 1)))))) else (none)) else ((filter_All.f k x0).bind fun t263 => ((tollref07_All.f k x0).bind fun t264 => (if (t263 == t264) = true then ((tolllaw07_awake.f k).bind fun t265 => (some t265)) else (none))))
def tolllaw07_FilterMays.f (k : Nat) (l0 : List (S26)) : Option (Bool) := (tolllaw07_Few.f k l0).bind fun t260 => (tolllaw07_FilterMays.l0 k t260 0)
theorem tolllaw07_FilterMays.mono_l : ∀ k, (∀ y0 y1, LeO (tolllaw07_FilterMays.l0 k y0 y1) (tolllaw07_FilterMays.l0 (k + 1) y0 y1))
 | 0 => fun _ _ r h => by simp [tolllaw07_FilterMays.l0] at h
 | k + 1 => by
  have ih0 := tolllaw07_FilterMays.mono_l k
  ·intro y0 y1
   unfold tolllaw07_FilterMays.l0
   repeat' first
   | (with_reducible exact ih0 _ _)
   | (with_reducible exact filter_All.mono _ _)
   | (with_reducible exact filter_May.mono _ _ _ _ _ _ _ _ _)
   | (with_reducible exact tolllaw07_Few.mono _ _)
   | (with_reducible exact tolllaw07_awake.mono _)
   | (with_reducible exact tollref07_All.mono _ _)
   | (with_reducible exact tollref07_May.mono _ _ _ _ _ _ _ _ _)
   | (with_reducible exact LeO.refl _)
   | (with_reducible exact LeO.none _)
   | (with_reducible refine LeO.ite ?_ ?_)
   | (with_reducible refine LeO.bind ?_ (fun _ => ?_))
   | exact ih0 _ _
   | exact filter_All.mono _ _
   | exact filter_May.mono _ _ _ _ _ _ _ _ _
   | exact tolllaw07_Few.mono _ _
   | exact tolllaw07_awake.mono _
   | exact tollref07_All.mono _ _
   | exact tollref07_May.mono _ _ _ _ _ _ _ _ _
   | exact LeO.none _
   | refine LeO.ite ?_ ?_
   | refine LeO.bind ?_ (fun _ => ?_)
theorem tolllaw07_FilterMays.mono : ∀ a0 k, LeO (tolllaw07_FilterMays.f k a0) (tolllaw07_FilterMays.f (k + 1) a0) := by
 intro a0 k
 have ih0 := tolllaw07_FilterMays.mono_l k
 unfold tolllaw07_FilterMays.f
 repeat' first
   | (with_reducible exact ih0 _ _)
   | (with_reducible exact filter_All.mono _ _)
   | (with_reducible exact filter_May.mono _ _ _ _ _ _ _ _ _)
   | (with_reducible exact tolllaw07_Few.mono _ _)
   | (with_reducible exact tolllaw07_awake.mono _)
   | (with_reducible exact tollref07_All.mono _ _)
   | (with_reducible exact tollref07_May.mono _ _ _ _ _ _ _ _ _)
   | (with_reducible exact LeO.refl _)
   | (with_reducible exact LeO.none _)
   | (with_reducible refine LeO.ite ?_ ?_)
   | (with_reducible refine LeO.bind ?_ (fun _ => ?_))
   | exact ih0 _ _
   | exact filter_All.mono _ _
   | exact filter_May.mono _ _ _ _ _ _ _ _ _
   | exact tolllaw07_Few.mono _ _
   | exact tolllaw07_awake.mono _
   | exact tollref07_All.mono _ _
   | exact tollref07_May.mono _ _ _ _ _ _ _ _ _
   | exact LeO.none _
   | refine LeO.ite ?_ ?_
   | refine LeO.bind ?_ (fun _ => ?_)
def tolllaw07_FilterMays.T5 : Bool × List (List Nat × List Nat) := (true, [([], []), ([], []), ([0, 1], [0, 1]), ([2], [2]), ([3], [3]), ([], []), ([], []), ([5, 6], [5, 6]), ([7], [7]), ([8, 4], [8]), ([4, 9], [4, 9])])
def tolllaw07_FilterMays.B5 : List Nat := [0, 0, 3, 7, 15, 0, 0, 96, 224, 511, 1023]
theorem tolllaw07_FilterMays.tab5 : rtab .any (opsOf Tryz.f3 5) = tolllaw07_FilterMays.T5 := by kernel_rfl
theorem tolllaw07_FilterMays.bits5 : waitsOk tolllaw07_FilterMays.T5.2 tolllaw07_FilterMays.B5 = true := by kernel_rfl
set_option maxHeartbeats 8000000 in
set_option maxRecDepth 100000 in
theorem tolllaw07_FilterMays.calls (k : Nat) (A0 : Option Addr) (c0 : Nat) (l0 : List (S26)) (r : Bool) (w : World) (hr0 : Kd.C k26 w A0 l0.length l0) (hc0 : l0.length ≤ c0) (hG : MaxL w) (h : tolllaw07_FilterMays.f k l0 = some r) :
  Calls Tryz.prog 3 #[.slice A0 l0.length c0] w fun e w' => e = .returned (.bool r) ∧ Below w.heap.size w w' := by
 have HGL := am_ hG
 clear hG
 have hu26 := Tryz.underlying26
 have HR0 := Aside0.mk hr0
 have HC0 := Aside0.mk hc0
 clear hr0 hc0
 have HB := am_ (Below.refl w.heap.size w)
 have H : ((tolllaw07_Few.f k l0).bind fun t260 => (tolllaw07_FilterMays.l0 k t260 0)) = some r := h
 clear h
 replace H := Option.bind_eq_some_iff.mp H
 obtain ⟨t260, A20, H⟩ := H
 replace H : (tolllaw07_FilterMays.l0 k t260 0) = some r := H
 have A2 := Aside0.mk A20
 clear A20
 have H' := Aside0.mk H
 clear H
 go_enter Tryz.func3, Tryz.ntmps3
 go_wp2_with (first | ((with_reducible refine gate_callee (f := 9) rfl ?_); refine goesL_ (some 5) rfl rfl Tryz.func9 kr_ rfl #[.slice A0 l0.length c0] rfl rl_ ?_; (with_reducible refine (tolllaw07_Few.calls k _ _ l0 t260 _ ?side1 ?side2 A2.out).mono ?_); (case side1 => exact C_ HR0.out); (case side2 => exact HC0.out); rintro e w3 ⟨v261, rfl, ho0, hb⟩; refine ⟨_, rfl, ?_⟩; have n0_ := am_ (Kd.R_lower ho0 (below_size (bel_ HB.out))); have n1_ := am_ (below_step (bel_ HB.out) hb); clear HB; have HO262 := n0_; have HB := n1_; clear n0_ n1_; (try clear hb); (try clear hb2); (try clear hk); (try clear hi); (try clear ho0)))
 go_loopg [3] k (fun kq v3 w' => ∃ (x3_1 : Int), v3 = .int .i64 x3_1 ∧ Aside0 (tolllaw07_FilterMays.l0 kq t260 x3_1 = some r) ∧ Aside0 (kq ≤ k) ∧ Aside0 (Kd.R k26 26 w' w.heap.size (fun _ => True) v261 t260) ∧ Aside0 (Below w.heap.size w w'))
 case atStart => exact ⟨(0), sd_, H', ⟨Nat.le_refl _⟩, ⟨by (with_reducible repeat (first | apply Kd.R_alloc | apply Kd.R_drewN | apply Kd.R_drew)); exact HO262.out⟩, ⟨bel_ HB.out⟩⟩
 case round =>
  clear H'
  try clear p2
  try clear c3
  obtain ⟨x3_1, rfl, HA, HK1, HO_0, HB⟩ := hrel
  cases gk with
  | zero => exact absurd HA.out (by simp [tolllaw07_FilterMays.l0])
  | succ k1 =>
   have H := HA.out
   clear HA
   simp only [tolllaw07_FilterMays.l0] at H
   by_cases c4 : x3_1 < (t260.length : Int)
   ·rw [if_pos c4] at H
    have c4b0 : decide (x3_1 < (t260.length : Int)) = true := decide_eq_true c4
    clear c4
    by_cases c5 : 0 ≤ x3_1
    ·rw [if_pos c5] at H
     have c5b0 : decide (0 ≤ x3_1) = true := decide_eq_true c5
     clear c5
     replace H := Option.bind_eq_some_iff.mp H
     obtain ⟨t267, A60, H⟩ := H
     replace H : ((tollref07_May.f k1 ((rd_T26 t260 x3_1).f0) ((rd_T26 t260 x3_1).f1) ((rd_T26 t260 x3_1).f2) ((rd_T26 t260 x3_1).f3) ((rd_T26 t260 x3_1).f4) ((rd_T26 t260 x3_1).f5) ((rd_T26 t260 x3_1).f6) ((rd_T26 t260 x3_1).f7)).bind fun t269 => (if (t267 != t269) = true then (none) else (tolllaw07_FilterMays.l0 k1 t260 (wrap64 (x3_1 + 1))))) = some r := H
     have A6 := Aside0.mk A60
     clear A60
     replace H := Option.bind_eq_some_iff.mp H
     obtain ⟨t269, A70, H⟩ := H
     replace H : (if (t267 != t269) = true then (none) else (tolllaw07_FilterMays.l0 k1 t260 (wrap64 (x3_1 + 1)))) = some r := H
     have A7 := Aside0.mk A70
     clear A70
     by_cases c8 : (t267 != t269) = true
     ·rw [if_pos c8] at H
      exact absurd H (by simp)
     ·rw [if_neg c8] at H
      have c8b0 : (t267 != t269) = false := by simpa using c8
      (try (have c8b1 : decide (t267 = t269) = true := by simpa using c8))
      (try (have c8b2 : (t267 == t269) = true := by simpa using c8))
      clear c8
      have H' := Aside0.mk H
      clear H
      obtain ⟨Ao9, co9, eo9⟩ := Kd.R_slice HO_0.out
      subst eo9
      try go_wp2
      have n0_ := am_ (Kd.R_drew HO_0.out)
      have n1_ := am_ (below_drew1 HB.out)
      clear HO_0 HB
      have HO_0 := n0_
      have HB := n1_
      clear n0_ n1_
      have p266 : 0 ≤ (x3_1 : Int) := of_decide_eq_true as_
      have q266 : x3_1 < (t260.length : Int) := of_decide_eq_true as_
      obtain ⟨ad266, e266, hx266_0, hx266_1, hx266_2, hx266_3, hx266_4, hx266_5, hx266_6, hx266_7⟩ := at_T26 (Kd.R_reads' HO_0.out).2.2 x3_1 p266 q266
      cases e266
      replace p266 := eq_true p266
      replace q266 := eq_true q266
      have p268 : 0 ≤ (x3_1 : Int) := of_decide_eq_true as_
      have q268 : x3_1 < (t260.length : Int) := of_decide_eq_true as_
      obtain ⟨ad268, e268, hx268_0, hx268_1, hx268_2, hx268_3, hx268_4, hx268_5, hx268_6, hx268_7⟩ := at_T26 (Kd.R_reads' HO_0.out).2.2 x3_1 p268 q268
      obtain rfl : ad266 = ad268 := (by injection e268)
      replace p268 := eq_true p268
      replace q268 := eq_true q268
      refine start_ (n := 11) (S := fun w' => w'.cell? (ad266.add ((x3_1).toNat * 8)) = some (.int .i64 ((rd_T26 t260 x3_1).f0)) ∧ w'.cell? ⟨(ad266.add ((x3_1).toNat * 8)).block, (ad266.add ((x3_1).toNat * 8)).off + 1, none⟩ = some (.string ((rd_T26 t260 x3_1).f1)) ∧ w'.cell? ⟨(ad266.add ((x3_1).toNat * 8)).block, (ad266.add ((x3_1).toNat * 8)).off + 2, none⟩ = some (.string ((rd_T26 t260 x3_1).f2)) ∧ w'.cell? ⟨(ad266.add ((x3_1).toNat * 8)).block, (ad266.add ((x3_1).toNat * 8)).off + 3, none⟩ = some (.string ((rd_T26 t260 x3_1).f3)) ∧ w'.cell? ⟨(ad266.add ((x3_1).toNat * 8)).block, (ad266.add ((x3_1).toNat * 8)).off + 4, none⟩ = some (.int .i64 ((rd_T26 t260 x3_1).f4)) ∧ w'.cell? ⟨(ad266.add ((x3_1).toNat * 8)).block, (ad266.add ((x3_1).toNat * 8)).off + 5, none⟩ = some (.string ((rd_T26 t260 x3_1).f5)) ∧ w'.cell? ⟨(ad266.add ((x3_1).toNat * 8)).block, (ad266.add ((x3_1).toNat * 8)).off + 6, none⟩ = some (.bool ((rd_T26 t260 x3_1).f6)) ∧ w'.cell? ⟨(ad266.add ((x3_1).toNat * 8)).block, (ad266.add ((x3_1).toNat * 8)).off + 7, none⟩ = some (.int .i64 ((rd_T26 t260 x3_1).f7)) ∧ w'.cell? (ad266.add ((x3_1).toNat * 8)) = some (.int .i64 ((rd_T26 t260 x3_1).f0)) ∧ w'.cell? ⟨(ad266.add ((x3_1).toNat * 8)).block, (ad266.add ((x3_1).toNat * 8)).off + 1, none⟩ = some (.string ((rd_T26 t260 x3_1).f1)) ∧ w'.cell? ⟨(ad266.add ((x3_1).toNat * 8)).block, (ad266.add ((x3_1).toNat * 8)).off + 2, none⟩ = some (.string ((rd_T26 t260 x3_1).f2)) ∧ w'.cell? ⟨(ad266.add ((x3_1).toNat * 8)).block, (ad266.add ((x3_1).toNat * 8)).off + 3, none⟩ = some (.string ((rd_T26 t260 x3_1).f3)) ∧ w'.cell? ⟨(ad266.add ((x3_1).toNat * 8)).block, (ad266.add ((x3_1).toNat * 8)).off + 4, none⟩ = some (.int .i64 ((rd_T26 t260 x3_1).f4)) ∧ w'.cell? ⟨(ad266.add ((x3_1).toNat * 8)).block, (ad266.add ((x3_1).toNat * 8)).off + 5, none⟩ = some (.string ((rd_T26 t260 x3_1).f5)) ∧ w'.cell? ⟨(ad266.add ((x3_1).toNat * 8)).block, (ad266.add ((x3_1).toNat * 8)).off + 6, none⟩ = some (.bool ((rd_T26 t260 x3_1).f6)) ∧ w'.cell? ⟨(ad266.add ((x3_1).toNat * 8)).block, (ad266.add ((x3_1).toNat * 8)).off + 7, none⟩ = some (.int .i64 ((rd_T26 t260 x3_1).f7))) (ds := []) #[false, false, false, false, false, false, false, false, false, false, false] kr_ rfl rfl ⟨hx266_0, hx266_1, hx266_2, hx266_3, hx266_4, hx266_5, hx266_6, hx266_7, hx268_0, hx268_1, hx268_2, hx268_3, hx268_4, hx268_5, hx268_6, hx268_7⟩ (fun hHeld => ?_); refine with_tabW tolllaw07_FilterMays.tab5 tolllaw07_FilterMays.bits5 (fun HT_ HW_ => ?_)
      generalize wr.drew = w10 at HO_0 HB hx266_0 hx266_1 hx266_2 hx266_3 hx266_4 hx266_5 hx266_6 hx266_7 hx268_0 hx268_1 hx268_2 hx268_3 hx268_4 hx268_5 hx268_6 hx268_7 hHeld ⊢
      refine pure_ (i := 0) (N := some 12) (v := ?_) (a' := ?_) #[true, false, false, false, false, false, false, false, false, false, false] rfl rfl (any_of HT_.out kr_) (fun _ _ _ h => h) (Or.inl ⟨by rfl, ?_⟩) ?_ ?_
      rotate_left
      ·intro w'
       go_simp
       with_reducible rfl
      rotate_left
      ·simp only [Act.put, sx_, s0_, s1_, i64_w, i32_w]
       rfl
      refine pure_ (i := 1) (N := some 13) (v := ?_) (a' := ?_) #[true, true, false, false, false, false, false, false, false, false, false] rfl rfl (any_of HT_.out kr_) (fun _ _ _ h => h) (Or.inl ⟨by rfl, ?_⟩) ?_ ?_
      rotate_left
      ·intro w'
       go_simp
       with_reducible rfl
      rotate_left
      ·simp only [Act.put, sx_, s0_, s1_, i64_w, i32_w]
       rfl
      refine pure_ (i := 2) (N := some 14) (v := ?_) (a' := ?_) #[true, true, true, false, false, false, false, false, false, false, false] rfl rfl (any_of HT_.out kr_) (fun _ _ _ h => h) (Or.inl ⟨by rfl, ?_⟩) ?_ ?_
      rotate_left
      ·intro w'
       go_simp
       with_reducible rfl
      rotate_left
      ·simp only [Act.put, sx_, s0_, s1_, i64_w, i32_w]
       rfl
      refine pure_ (i := 5) (N := some 17) (v := ?_) (a' := ?_) #[true, true, true, false, false, true, false, false, false, false, false] rfl rfl (any_of HT_.out kr_) (fun _ _ _ h => h) (Or.inl ⟨by rfl, ?_⟩) ?_ ?_
      rotate_left
      ·intro w'
       go_simp
       with_reducible rfl
      rotate_left
      ·simp only [Act.put, sx_, s0_, s1_, i64_w, i32_w]
       rfl
      refine pure_ (i := 6) (N := some 18) (v := ?_) (a' := ?_) #[true, true, true, false, false, true, true, false, false, false, false] rfl rfl (any_of HT_.out kr_) (fun _ _ _ h => h) (Or.inl ⟨by rfl, ?_⟩) ?_ ?_
      rotate_left
      ·intro w'
       go_simp
       with_reducible rfl
      rotate_left
      ·simp only [Act.put, sx_, s0_, s1_, i64_w, i32_w]
       rfl
      refine pure_ (i := 7) (N := some 19) (v := ?_) (a' := ?_) #[true, true, true, false, false, true, true, true, false, false, false] rfl rfl (any_of HT_.out kr_) (fun _ _ _ h => h) (Or.inl ⟨by rfl, ?_⟩) ?_ ?_
      rotate_left
      ·intro w'
       go_simp
       with_reducible rfl
      rotate_left
      ·simp only [Act.put, sx_, s0_, s1_, i64_w, i32_w]
       rfl
      refine take_ (i := 3) (N := some 15) (v := ?_) (a' := ?_) #[true, true, true, true, false, true, true, true, false, false, false] rfl rfl (take_ofW HT_.out HW_.out kr_) (fun _ _ _ h => h) (Or.inl ⟨by rfl, ?_⟩) hHeld ?_ ?_
      rotate_left
      ·rintro w' ⟨s0, s1, s2, s3, s4, s5, s6, s7, s8, s9, s10, s11, s12, s13, s14, s15⟩
       go_simp
       with_reducible rfl
      rotate_left
      ·simp only [Act.put, sx_, s0_, s1_, i64_w, i32_w]
       rfl
      refine take_ (i := 8) (N := some 20) (v := ?_) (a' := ?_) #[true, true, true, true, false, true, true, true, true, false, false] rfl rfl (take_ofW HT_.out HW_.out kr_) (fun _ _ _ h => h) (Or.inl ⟨by rfl, ?_⟩) hHeld ?_ ?_
      rotate_left
      ·rintro w' ⟨s0, s1, s2, s3, s4, s5, s6, s7, s8, s9, s10, s11, s12, s13, s14, s15⟩
       go_simp
       with_reducible rfl
      rotate_left
      ·simp only [Act.put, sx_, s0_, s1_, i64_w, i32_w]
       rfl
      refine one_ (i := 4) (N := some 16) #[true, true, true, true, true, true, true, true, true, false, false] rfl rfl (one_of HT_.out kr_) (by decide) (fun K hK => ?_)
      refine goes_ Tryz.func10 kr_ rfl #[.agg #[.int .i64 ((rd_T26 t260 x3_1).f0), .string ((rd_T26 t260 x3_1).f1), .string ((rd_T26 t260 x3_1).f2), .string ((rd_T26 t260 x3_1).f3), .int .i64 ((rd_T26 t260 x3_1).f4), .string ((rd_T26 t260 x3_1).f5), .bool ((rd_T26 t260 x3_1).f6), .int .i64 ((rd_T26 t260 x3_1).f7)]] (by rfl) rfl rfl rl_ ?_
      with_reducible refine (filter_May.calls k1 ((rd_T26 t260 x3_1).f0) ((rd_T26 t260 x3_1).f1) ((rd_T26 t260 x3_1).f2) ((rd_T26 t260 x3_1).f3) ((rd_T26 t260 x3_1).f4) ((rd_T26 t260 x3_1).f5) ((rd_T26 t260 x3_1).f6) ((rd_T26 t260 x3_1).f7) t267 _ A6.out).mono ?_
      rintro e w11 ⟨rfl, hb⟩
      have HS0_ := (hb.cell (World.block_lt_of_cell? _ _ (hHeld.1))).trans (hHeld.1)
      have HS1_ := (hb.cell (World.block_lt_of_cell? _ _ (hHeld.2.1))).trans (hHeld.2.1)
      have HS2_ := (hb.cell (World.block_lt_of_cell? _ _ (hHeld.2.2.1))).trans (hHeld.2.2.1)
      have HS3_ := (hb.cell (World.block_lt_of_cell? _ _ (hHeld.2.2.2.1))).trans (hHeld.2.2.2.1)
      have HS4_ := (hb.cell (World.block_lt_of_cell? _ _ (hHeld.2.2.2.2.1))).trans (hHeld.2.2.2.2.1)
      have HS5_ := (hb.cell (World.block_lt_of_cell? _ _ (hHeld.2.2.2.2.2.1))).trans (hHeld.2.2.2.2.2.1)
      have HS6_ := (hb.cell (World.block_lt_of_cell? _ _ (hHeld.2.2.2.2.2.2.1))).trans (hHeld.2.2.2.2.2.2.1)
      have HS7_ := (hb.cell (World.block_lt_of_cell? _ _ (hHeld.2.2.2.2.2.2.2.1))).trans (hHeld.2.2.2.2.2.2.2.1)
      have HS8_ := (hb.cell (World.block_lt_of_cell? _ _ (hHeld.2.2.2.2.2.2.2.2.1))).trans (hHeld.2.2.2.2.2.2.2.2.1)
      have HS9_ := (hb.cell (World.block_lt_of_cell? _ _ (hHeld.2.2.2.2.2.2.2.2.2.1))).trans (hHeld.2.2.2.2.2.2.2.2.2.1)
      have HS10_ := (hb.cell (World.block_lt_of_cell? _ _ (hHeld.2.2.2.2.2.2.2.2.2.2.1))).trans (hHeld.2.2.2.2.2.2.2.2.2.2.1)
      have HS11_ := (hb.cell (World.block_lt_of_cell? _ _ (hHeld.2.2.2.2.2.2.2.2.2.2.2.1))).trans (hHeld.2.2.2.2.2.2.2.2.2.2.2.1)
      have HS12_ := (hb.cell (World.block_lt_of_cell? _ _ (hHeld.2.2.2.2.2.2.2.2.2.2.2.2.1))).trans (hHeld.2.2.2.2.2.2.2.2.2.2.2.2.1)
      have HS13_ := (hb.cell (World.block_lt_of_cell? _ _ (hHeld.2.2.2.2.2.2.2.2.2.2.2.2.2.1))).trans (hHeld.2.2.2.2.2.2.2.2.2.2.2.2.2.1)
      have HS14_ := (hb.cell (World.block_lt_of_cell? _ _ (hHeld.2.2.2.2.2.2.2.2.2.2.2.2.2.2.1))).trans (hHeld.2.2.2.2.2.2.2.2.2.2.2.2.2.2.1)
      have HS15_ := (hb.cell (World.block_lt_of_cell? _ _ (hHeld.2.2.2.2.2.2.2.2.2.2.2.2.2.2.2))).trans (hHeld.2.2.2.2.2.2.2.2.2.2.2.2.2.2.2)
      refine ⟨_, rfl, ?_⟩
      have n0_ := am_ (Kd.R_below (R_ HO_0.out) hb)
      have n1_ := am_ (below_step (bel_ HB.out) hb)
      clear HO_0 HB
      have HO_0 := n0_
      have HB := n1_
      clear n0_ n1_
      (try clear hb)
      (try clear hb2)
      (try clear hk)
      (try clear hi)
      refine hK.out _ _ ⟨HS0_, HS1_, HS2_, HS3_, HS4_, HS5_, HS6_, HS7_, HS8_, HS9_, HS10_, HS11_, HS12_, HS13_, HS14_, HS15_⟩ (fun hHeld => ?_)
      clear hK K
      refine norm_ (a' := ?_) ?_ ?_
      rotate_left
      ·show Act.put _ (some 16) _ = _
       simp only [Act.put, sx_, s0_, s1_, i64_w, i32_w]
       rfl
      refine one_ (i := 9) (N := some 21) #[true, true, true, true, true, true, true, true, true, true, false] rfl rfl (one_of HT_.out kr_) (by decide) (fun K hK => ?_)
      refine goes_ Tryz.func11 kr_ rfl #[.agg #[.int .i64 ((rd_T26 t260 x3_1).f0), .string ((rd_T26 t260 x3_1).f1), .string ((rd_T26 t260 x3_1).f2), .string ((rd_T26 t260 x3_1).f3), .int .i64 ((rd_T26 t260 x3_1).f4), .string ((rd_T26 t260 x3_1).f5), .bool ((rd_T26 t260 x3_1).f6), .int .i64 ((rd_T26 t260 x3_1).f7)]] (by rfl) rfl rfl rl_ ?_
      with_reducible refine (tollref07_May.calls k1 ((rd_T26 t260 x3_1).f0) ((rd_T26 t260 x3_1).f1) ((rd_T26 t260 x3_1).f2) ((rd_T26 t260 x3_1).f3) ((rd_T26 t260 x3_1).f4) ((rd_T26 t260 x3_1).f5) ((rd_T26 t260 x3_1).f6) ((rd_T26 t260 x3_1).f7) t269 _ A7.out).mono ?_
      rintro e w12 ⟨rfl, hb⟩
      have HS0_ := (hb.cell (World.block_lt_of_cell? _ _ (hHeld.1))).trans (hHeld.1)
      have HS1_ := (hb.cell (World.block_lt_of_cell? _ _ (hHeld.2.1))).trans (hHeld.2.1)
      have HS2_ := (hb.cell (World.block_lt_of_cell? _ _ (hHeld.2.2.1))).trans (hHeld.2.2.1)
      have HS3_ := (hb.cell (World.block_lt_of_cell? _ _ (hHeld.2.2.2.1))).trans (hHeld.2.2.2.1)
      have HS4_ := (hb.cell (World.block_lt_of_cell? _ _ (hHeld.2.2.2.2.1))).trans (hHeld.2.2.2.2.1)
      have HS5_ := (hb.cell (World.block_lt_of_cell? _ _ (hHeld.2.2.2.2.2.1))).trans (hHeld.2.2.2.2.2.1)
      have HS6_ := (hb.cell (World.block_lt_of_cell? _ _ (hHeld.2.2.2.2.2.2.1))).trans (hHeld.2.2.2.2.2.2.1)
      have HS7_ := (hb.cell (World.block_lt_of_cell? _ _ (hHeld.2.2.2.2.2.2.2.1))).trans (hHeld.2.2.2.2.2.2.2.1)
      have HS8_ := (hb.cell (World.block_lt_of_cell? _ _ (hHeld.2.2.2.2.2.2.2.2.1))).trans (hHeld.2.2.2.2.2.2.2.2.1)
      have HS9_ := (hb.cell (World.block_lt_of_cell? _ _ (hHeld.2.2.2.2.2.2.2.2.2.1))).trans (hHeld.2.2.2.2.2.2.2.2.2.1)
      have HS10_ := (hb.cell (World.block_lt_of_cell? _ _ (hHeld.2.2.2.2.2.2.2.2.2.2.1))).trans (hHeld.2.2.2.2.2.2.2.2.2.2.1)
      have HS11_ := (hb.cell (World.block_lt_of_cell? _ _ (hHeld.2.2.2.2.2.2.2.2.2.2.2.1))).trans (hHeld.2.2.2.2.2.2.2.2.2.2.2.1)
      have HS12_ := (hb.cell (World.block_lt_of_cell? _ _ (hHeld.2.2.2.2.2.2.2.2.2.2.2.2.1))).trans (hHeld.2.2.2.2.2.2.2.2.2.2.2.2.1)
      have HS13_ := (hb.cell (World.block_lt_of_cell? _ _ (hHeld.2.2.2.2.2.2.2.2.2.2.2.2.2.1))).trans (hHeld.2.2.2.2.2.2.2.2.2.2.2.2.2.1)
      have HS14_ := (hb.cell (World.block_lt_of_cell? _ _ (hHeld.2.2.2.2.2.2.2.2.2.2.2.2.2.2.1))).trans (hHeld.2.2.2.2.2.2.2.2.2.2.2.2.2.2.1)
      have HS15_ := (hb.cell (World.block_lt_of_cell? _ _ (hHeld.2.2.2.2.2.2.2.2.2.2.2.2.2.2.2))).trans (hHeld.2.2.2.2.2.2.2.2.2.2.2.2.2.2.2)
      refine ⟨_, rfl, ?_⟩
      have n0_ := am_ (Kd.R_below (R_ HO_0.out) hb)
      have n1_ := am_ (below_step (bel_ HB.out) hb)
      clear HO_0 HB
      have HO_0 := n0_
      have HB := n1_
      clear n0_ n1_
      (try clear hb)
      (try clear hb2)
      (try clear hk)
      (try clear hi)
      refine hK.out _ _ ⟨HS0_, HS1_, HS2_, HS3_, HS4_, HS5_, HS6_, HS7_, HS8_, HS9_, HS10_, HS11_, HS12_, HS13_, HS14_, HS15_⟩ (fun hHeld => ?_)
      clear hK K
      refine norm_ (a' := ?_) ?_ ?_
      rotate_left
      ·show Act.put _ (some 21) _ = _
       simp only [Act.put, sx_, s0_, s1_, i64_w, i32_w]
       rfl
      refine pure_ (i := 10) (N := some 22) (v := ?_) (a' := ?_) #[true, true, true, true, true, true, true, true, true, true, true] rfl rfl (any_of HT_.out kr_) (fun _ _ _ h => h) (Or.inl ⟨by rfl, ?_⟩) ?_ ?_
      rotate_left
      ·intro w'
       go_simp
       with_reducible rfl
      rotate_left
      ·simp only [Act.put, sx_, s0_, s1_, i64_w, i32_w]
       rfl
      refine done_ (done_of HT_.out kr_) ?_
      try go_wp2
      go_roundg k1
      case measure => have := HK1.out; omega
      case rel => exact ⟨(wrap64 (x3_1 + 1)), sd_, H', ⟨by have := HK1.out; omega⟩, ⟨by (with_reducible repeat (first | apply Kd.R_alloc | apply Kd.R_drewN | apply Kd.R_drew)); exact HO_0.out⟩, ⟨bel_ HB.out⟩⟩
    ·rw [if_neg c5] at H
     exact absurd H (by simp)
   ·rw [if_neg c4] at H
    have c4b0 : decide (x3_1 < (t260.length : Int)) = false := decide_eq_false c4
    clear c4
    replace H := Option.bind_eq_some_iff.mp H
    obtain ⟨t263, A130, H⟩ := H
    replace H : ((tollref07_All.f k1 t260).bind fun t264 => (if (t263 == t264) = true then ((tolllaw07_awake.f k1).bind fun t265 => (some t265)) else (none))) = some r := H
    have A13 := Aside0.mk A130
    clear A130
    replace H := Option.bind_eq_some_iff.mp H
    obtain ⟨t264, A140, H⟩ := H
    replace H : (if (t263 == t264) = true then ((tolllaw07_awake.f k1).bind fun t265 => (some t265)) else (none)) = some r := H
    have A14 := Aside0.mk A140
    clear A140
    by_cases c15 : (t263 == t264) = true
    ·rw [if_pos c15] at H
     have c15b0 : (t263 == t264) = true := c15
     (try (have c15b1 : decide (t263 = t264) = true := by simpa using c15))
     (try (have c15b2 : (t263 == t264) = true := by simpa using c15))
     clear c15
     replace H := Option.bind_eq_some_iff.mp H
     obtain ⟨t265, A160, H⟩ := H
     replace H : (some t265) = some r := H
     have A16 := Aside0.mk A160
     clear A160
     obtain rfl := Option.some.inj H
     obtain ⟨Ao17, co17, eo17⟩ := Kd.R_slice HO_0.out
     subst eo17
     go_wp2_with (first | ((with_reducible refine gate_callee (f := 12) rfl ?_); refine goesL_ (some 24) rfl rfl Tryz.func12 kr_ rfl #[.slice Ao17 t260.length co17] rfl rl_ ?_; (with_reducible refine (filter_All.calls k1 _ _ t260 t263 _ ?side1 ?side2 A13.out).mono ?_); (case side1 => exact C_ (Kd.R_reads' HO_0.out).2.2); (case side2 => exact (Kd.R_reads' HO_0.out).2.1); rintro e w18 ⟨rfl, hb⟩; refine ⟨_, rfl, ?_⟩; have n0_ := am_ (Kd.R_below (R_ HO_0.out) hb); have n1_ := am_ (below_step (bel_ HB.out) hb); clear HO_0 HB; have HO_0 := n0_; have HB := n1_; clear n0_ n1_; (try clear hb); (try clear hb2); (try clear hk); (try clear hi)) | ((with_reducible refine gate_callee (f := 13) rfl ?_); refine goesL_ (some 26) rfl rfl Tryz.func13 kr_ rfl #[.slice Ao17 t260.length co17] rfl rl_ ?_; (with_reducible refine (tollref07_All.calls k1 _ _ t260 t264 _ ?side1 ?side2 A14.out).mono ?_); (case side1 => exact C_ (Kd.R_reads' HO_0.out).2.2); (case side2 => exact (Kd.R_reads' HO_0.out).2.1); rintro e w19 ⟨rfl, hb⟩; refine ⟨_, rfl, ?_⟩; have n0_ := am_ (Kd.R_below (R_ HO_0.out) hb); have n1_ := am_ (below_step (bel_ HB.out) hb); clear HO_0 HB; have HO_0 := n0_; have HB := n1_; clear n0_ n1_; (try clear hb); (try clear hb2); (try clear hk); (try clear hi)) | (go_at_call 14; (with_reducible refine (tolllaw07_awake.calls k1  t265 _ (gm_ HGL.out (bel_ HB.out)) A16.out).mono ?_); rintro e w20 ⟨rfl, hb⟩; have n0_ := am_ (Kd.R_below (R_ HO_0.out) hb); have n1_ := am_ (below_step (bel_ HB.out) hb); clear HO_0 HB; have HO_0 := n0_; have HB := n1_; clear n0_ n1_; (try clear hb); (try clear hb2); (try clear hk); (try clear hi)))
     go_ret
     exact ⟨fi_, bel_ HB.out⟩
    ·rw [if_neg c15] at H
     exact absurd H (by simp)

/-- THE ONE PURE STATEMENT of tolllaw07_FilterMays. -/
def tolllaw07_FilterMays.Pure : Prop := ∀ (l0 : List (S26)), (l0.length ≤ maxLen ∧ l0.length * 96 ≤ 140737488351232 ∧ ∀ y ∈ l0, ((Lit.int .i64 y.f0).wf = true) ∧ (y.f1.size ≤ 140737488351232) ∧ (y.f2.size ≤ 140737488351232) ∧ (y.f3.size ≤ 140737488351232) ∧ ((Lit.int .i64 y.f4).wf = true) ∧ (y.f5.size ≤ 140737488351232) ∧ (True) ∧ ((Lit.int .i64 y.f7).wf = true)) → ∃ k, tolllaw07_FilterMays.f k l0 = some true

end Go.Proofs.YtfdopmjgiakcdaaGreatDoor.P
