-- written by wip/tool/hprint.py of this repo: the kit's print, with contracts by hand joined; Lean checks it.
import Derived.Test.YtglghmcdcdljoaaPx0
import Derived.Test.YtglghmcdcdljoaaPx2
namespace Go.Proofs.Ytglghmcdcdljoaa.P
open Go.RowKit Go.Proofs.YtglghmcdcdljoaaW.PrintWords Go.Proofs.YtglghmcdcdljoaaW.PrintLast Go.Proofs.YtglghmcdcdljoaaW.PrintMore
attribute [local go_sem] max2_int min2_int max_two min_two max_three min_three max_four min_four   -- for this text's walks alone
set_option linter.unusedVariables false
set_option linter.unusedSimpArgs false

/-! ### tolllaw05_awake: function 9 -/
def tolllaw05_awake.f (k : Nat)  : Option (Bool) := (pairs_Get.f (([(⟨(⟨#[104, 111, 115, 116]⟩ : ByteArray), (⟨#[97]⟩ : ByteArray)⟩ : S24)] : List (S24))) (⟨#[72, 111, 115, 116]⟩ : ByteArray)).bind fun bt121 => ((pairs_Set.f (([(⟨(⟨#[97]⟩ : ByteArray), (⟨#[49]⟩ : ByteArray)⟩ : S24), (⟨(⟨#[98]⟩ : ByteArray), (⟨#[50]⟩ : ByteArray)⟩ : S24), (⟨(⟨#[65]⟩ : ByteArray), (⟨#[52]⟩ : ByteArray)⟩ : S24)] : List (S24))) (⟨#[97]⟩ : ByteArray) (⟨#[51]⟩ : ByteArray)).bind fun t126 => ((some (([(⟨(⟨#[120]⟩ : ByteArray), (⟨#[49]⟩ : ByteArray)⟩ : S24)] : List (S24)) : List (S24))).bind fun y129 => ((some (([(⟨(⟨#[88]⟩ : ByteArray), (⟨#[49]⟩ : ByteArray)⟩ : S24)] : List (S24)) : List (S24))).bind fun y132 => (if bt121.1.toList = ([97] : List UInt8) then (if bt121.2 = true then ((tollref04_Same.f k t126 (([(⟨(⟨#[97]⟩ : ByteArray), (⟨#[51]⟩ : ByteArray)⟩ : S24), (⟨(⟨#[98]⟩ : ByteArray), (⟨#[50]⟩ : ByteArray)⟩ : S24)] : List (S24)))).bind fun t138 => (if t138 = true then ((pairs_Holds.f y129 y132 true).bind fun t139 => (if t139 = true then ((pairs_Holds.f y129 y132 false).bind fun t140 => (if t140 = true then (none) else (some true))) else (none))) else (none))) else (none)) else (none)))))
theorem tolllaw05_awake.mono : ∀ k, LeO (tolllaw05_awake.f k ) (tolllaw05_awake.f (k + 1) ) := by
 intro  k
 unfold tolllaw05_awake.f
 repeat' first
   | (with_reducible exact tollref04_Same.mono _ _ _)
   | (with_reducible exact LeO.refl _)
   | (with_reducible exact LeO.none _)
   | (with_reducible refine LeO.ite ?_ ?_)
   | (with_reducible refine LeO.bind ?_ (fun _ => ?_))
   | exact tollref04_Same.mono _ _ _
   | exact LeO.none _
   | refine LeO.ite ?_ ?_
   | refine LeO.bind ?_ (fun _ => ?_)
set_option maxHeartbeats 8000000 in
set_option maxRecDepth 100000 in
theorem tolllaw05_awake.calls (k : Nat)  (r : Bool) (w : World) (h : tolllaw05_awake.f k  = some r) :
  Calls Try.prog 9 #[] w fun e w' => e = .returned (.bool r) ∧ Below w.heap.size w w' := by
 have hu24 := Try.underlying24
 have HB := am_ (Below.refl w.heap.size w)
 have H : ((pairs_Get.f (([(⟨(⟨#[104, 111, 115, 116]⟩ : ByteArray), (⟨#[97]⟩ : ByteArray)⟩ : S24)] : List (S24))) (⟨#[72, 111, 115, 116]⟩ : ByteArray)).bind fun bt121 => ((pairs_Set.f (([(⟨(⟨#[97]⟩ : ByteArray), (⟨#[49]⟩ : ByteArray)⟩ : S24), (⟨(⟨#[98]⟩ : ByteArray), (⟨#[50]⟩ : ByteArray)⟩ : S24), (⟨(⟨#[65]⟩ : ByteArray), (⟨#[52]⟩ : ByteArray)⟩ : S24)] : List (S24))) (⟨#[97]⟩ : ByteArray) (⟨#[51]⟩ : ByteArray)).bind fun t126 => ((some (([(⟨(⟨#[120]⟩ : ByteArray), (⟨#[49]⟩ : ByteArray)⟩ : S24)] : List (S24)) : List (S24))).bind fun y129 => ((some (([(⟨(⟨#[88]⟩ : ByteArray), (⟨#[49]⟩ : ByteArray)⟩ : S24)] : List (S24)) : List (S24))).bind fun y132 => (if bt121.1.toList = ([97] : List UInt8) then (if bt121.2 = true then ((tollref04_Same.f k t126 (([(⟨(⟨#[97]⟩ : ByteArray), (⟨#[51]⟩ : ByteArray)⟩ : S24), (⟨(⟨#[98]⟩ : ByteArray), (⟨#[50]⟩ : ByteArray)⟩ : S24)] : List (S24)))).bind fun t138 => (if t138 = true then ((pairs_Holds.f y129 y132 true).bind fun t139 => (if t139 = true then ((pairs_Holds.f y129 y132 false).bind fun t140 => (if t140 = true then (none) else (some true))) else (none))) else (none))) else (none)) else (none)))))) = some r := h
 clear h
 obtain ⟨y118, hy118⟩ : ∃ y_ : List (S24), y_ = (([(⟨(⟨#[104, 111, 115, 116]⟩ : ByteArray), (⟨#[97]⟩ : ByteArray)⟩ : S24)] : List (S24))) := ⟨_, rfl⟩
 replace H : ((pairs_Get.f y118 (⟨#[72, 111, 115, 116]⟩ : ByteArray)).bind fun bt121 => ((pairs_Set.f (([(⟨(⟨#[97]⟩ : ByteArray), (⟨#[49]⟩ : ByteArray)⟩ : S24), (⟨(⟨#[98]⟩ : ByteArray), (⟨#[50]⟩ : ByteArray)⟩ : S24), (⟨(⟨#[65]⟩ : ByteArray), (⟨#[52]⟩ : ByteArray)⟩ : S24)] : List (S24))) (⟨#[97]⟩ : ByteArray) (⟨#[51]⟩ : ByteArray)).bind fun t126 => ((some (([(⟨(⟨#[120]⟩ : ByteArray), (⟨#[49]⟩ : ByteArray)⟩ : S24)] : List (S24)) : List (S24))).bind fun y129 => ((some (([(⟨(⟨#[88]⟩ : ByteArray), (⟨#[49]⟩ : ByteArray)⟩ : S24)] : List (S24)) : List (S24))).bind fun y132 => (if bt121.1.toList = ([97] : List UInt8) then (if bt121.2 = true then ((tollref04_Same.f k t126 (([(⟨(⟨#[97]⟩ : ByteArray), (⟨#[51]⟩ : ByteArray)⟩ : S24), (⟨(⟨#[98]⟩ : ByteArray), (⟨#[50]⟩ : ByteArray)⟩ : S24)] : List (S24)))).bind fun t138 => (if t138 = true then ((pairs_Holds.f y129 y132 true).bind fun t139 => (if t139 = true then ((pairs_Holds.f y129 y132 false).bind fun t140 => (if t140 = true then (none) else (some true))) else (none))) else (none))) else (none)) else (none)))))) = some r := by first | (rw [hy118]; with_reducible exact H) | (have H2_ := (Option.bind_some _ _).symm.trans H; rw [hy118]; with_reducible exact H2_) | (have H2_ := (Option.bind_some _ _).symm.trans H; with_reducible exact H2_) | with_reducible exact H | (rw [hy118]; exact H) | exact H
 have Ny118 := Aside0.mk hy118
 clear hy118
 replace H := Option.bind_eq_some_iff.mp H
 obtain ⟨⟨t121, t122⟩, A10, H⟩ := H
 replace H : ((pairs_Set.f (([(⟨(⟨#[97]⟩ : ByteArray), (⟨#[49]⟩ : ByteArray)⟩ : S24), (⟨(⟨#[98]⟩ : ByteArray), (⟨#[50]⟩ : ByteArray)⟩ : S24), (⟨(⟨#[65]⟩ : ByteArray), (⟨#[52]⟩ : ByteArray)⟩ : S24)] : List (S24))) (⟨#[97]⟩ : ByteArray) (⟨#[51]⟩ : ByteArray)).bind fun t126 => ((some (([(⟨(⟨#[120]⟩ : ByteArray), (⟨#[49]⟩ : ByteArray)⟩ : S24)] : List (S24)) : List (S24))).bind fun y129 => ((some (([(⟨(⟨#[88]⟩ : ByteArray), (⟨#[49]⟩ : ByteArray)⟩ : S24)] : List (S24)) : List (S24))).bind fun y132 => (if t121.toList = ([97] : List UInt8) then (if t122 = true then ((tollref04_Same.f k t126 (([(⟨(⟨#[97]⟩ : ByteArray), (⟨#[51]⟩ : ByteArray)⟩ : S24), (⟨(⟨#[98]⟩ : ByteArray), (⟨#[50]⟩ : ByteArray)⟩ : S24)] : List (S24)))).bind fun t138 => (if t138 = true then ((pairs_Holds.f y129 y132 true).bind fun t139 => (if t139 = true then ((pairs_Holds.f y129 y132 false).bind fun t140 => (if t140 = true then (none) else (some true))) else (none))) else (none))) else (none)) else (none))))) = some r := H
 have A1 := Aside0.mk A10
 clear A10
 obtain ⟨y123, hy123⟩ : ∃ y_ : List (S24), y_ = (([(⟨(⟨#[97]⟩ : ByteArray), (⟨#[49]⟩ : ByteArray)⟩ : S24), (⟨(⟨#[98]⟩ : ByteArray), (⟨#[50]⟩ : ByteArray)⟩ : S24), (⟨(⟨#[65]⟩ : ByteArray), (⟨#[52]⟩ : ByteArray)⟩ : S24)] : List (S24))) := ⟨_, rfl⟩
 replace H : ((pairs_Set.f y123 (⟨#[97]⟩ : ByteArray) (⟨#[51]⟩ : ByteArray)).bind fun t126 => ((some (([(⟨(⟨#[120]⟩ : ByteArray), (⟨#[49]⟩ : ByteArray)⟩ : S24)] : List (S24)) : List (S24))).bind fun y129 => ((some (([(⟨(⟨#[88]⟩ : ByteArray), (⟨#[49]⟩ : ByteArray)⟩ : S24)] : List (S24)) : List (S24))).bind fun y132 => (if t121.toList = ([97] : List UInt8) then (if t122 = true then ((tollref04_Same.f k t126 (([(⟨(⟨#[97]⟩ : ByteArray), (⟨#[51]⟩ : ByteArray)⟩ : S24), (⟨(⟨#[98]⟩ : ByteArray), (⟨#[50]⟩ : ByteArray)⟩ : S24)] : List (S24)))).bind fun t138 => (if t138 = true then ((pairs_Holds.f y129 y132 true).bind fun t139 => (if t139 = true then ((pairs_Holds.f y129 y132 false).bind fun t140 => (if t140 = true then (none) else (some true))) else (none))) else (none))) else (none)) else (none))))) = some r := by first | (rw [hy123]; with_reducible exact H) | (have H2_ := (Option.bind_some _ _).symm.trans H; rw [hy123]; with_reducible exact H2_) | (have H2_ := (Option.bind_some _ _).symm.trans H; with_reducible exact H2_) | with_reducible exact H | (rw [hy123]; exact H) | exact H
 have Ny123 := Aside0.mk hy123
 clear hy123
 replace H := Option.bind_eq_some_iff.mp H
 obtain ⟨t126, A20, H⟩ := H
 replace H : ((some (([(⟨(⟨#[120]⟩ : ByteArray), (⟨#[49]⟩ : ByteArray)⟩ : S24)] : List (S24)) : List (S24))).bind fun y129 => ((some (([(⟨(⟨#[88]⟩ : ByteArray), (⟨#[49]⟩ : ByteArray)⟩ : S24)] : List (S24)) : List (S24))).bind fun y132 => (if t121.toList = ([97] : List UInt8) then (if t122 = true then ((tollref04_Same.f k t126 (([(⟨(⟨#[97]⟩ : ByteArray), (⟨#[51]⟩ : ByteArray)⟩ : S24), (⟨(⟨#[98]⟩ : ByteArray), (⟨#[50]⟩ : ByteArray)⟩ : S24)] : List (S24)))).bind fun t138 => (if t138 = true then ((pairs_Holds.f y129 y132 true).bind fun t139 => (if t139 = true then ((pairs_Holds.f y129 y132 false).bind fun t140 => (if t140 = true then (none) else (some true))) else (none))) else (none))) else (none)) else (none)))) = some r := H
 have A2 := Aside0.mk A20
 clear A20
 obtain ⟨y129, hy129⟩ : ∃ y_ : List (S24), y_ = (([(⟨(⟨#[120]⟩ : ByteArray), (⟨#[49]⟩ : ByteArray)⟩ : S24)] : List (S24))) := ⟨_, rfl⟩
 replace H : ((some (([(⟨(⟨#[88]⟩ : ByteArray), (⟨#[49]⟩ : ByteArray)⟩ : S24)] : List (S24)) : List (S24))).bind fun y132 => (if t121.toList = ([97] : List UInt8) then (if t122 = true then ((tollref04_Same.f k t126 (([(⟨(⟨#[97]⟩ : ByteArray), (⟨#[51]⟩ : ByteArray)⟩ : S24), (⟨(⟨#[98]⟩ : ByteArray), (⟨#[50]⟩ : ByteArray)⟩ : S24)] : List (S24)))).bind fun t138 => (if t138 = true then ((pairs_Holds.f y129 y132 true).bind fun t139 => (if t139 = true then ((pairs_Holds.f y129 y132 false).bind fun t140 => (if t140 = true then (none) else (some true))) else (none))) else (none))) else (none)) else (none))) = some r := by first | (rw [hy129]; with_reducible exact H) | (have H2_ := (Option.bind_some _ _).symm.trans H; rw [hy129]; with_reducible exact H2_) | (have H2_ := (Option.bind_some _ _).symm.trans H; with_reducible exact H2_) | with_reducible exact H | (rw [hy129]; exact H) | exact H
 have Ny129 := Aside0.mk hy129
 clear hy129
 obtain ⟨y132, hy132⟩ : ∃ y_ : List (S24), y_ = (([(⟨(⟨#[88]⟩ : ByteArray), (⟨#[49]⟩ : ByteArray)⟩ : S24)] : List (S24))) := ⟨_, rfl⟩
 replace H : (if t121.toList = ([97] : List UInt8) then (if t122 = true then ((tollref04_Same.f k t126 (([(⟨(⟨#[97]⟩ : ByteArray), (⟨#[51]⟩ : ByteArray)⟩ : S24), (⟨(⟨#[98]⟩ : ByteArray), (⟨#[50]⟩ : ByteArray)⟩ : S24)] : List (S24)))).bind fun t138 => (if t138 = true then ((pairs_Holds.f y129 y132 true).bind fun t139 => (if t139 = true then ((pairs_Holds.f y129 y132 false).bind fun t140 => (if t140 = true then (none) else (some true))) else (none))) else (none))) else (none)) else (none)) = some r := by first | (rw [hy132]; with_reducible exact H) | (have H2_ := (Option.bind_some _ _).symm.trans H; rw [hy132]; with_reducible exact H2_) | (have H2_ := (Option.bind_some _ _).symm.trans H; with_reducible exact H2_) | with_reducible exact H | (rw [hy132]; exact H) | exact H
 have Ny132 := Aside0.mk hy132
 clear hy132
 by_cases c3 : t121.toList = ([97] : List UInt8)
 ·rw [if_pos c3] at H
  have c3b0 : (t121.toList == ([97] : List UInt8)) = true := beq_iff_eq.mpr c3
  have c3b1 : (t121.toList != ([97] : List UInt8)) = false := bne_eq_false_iff_eq.mpr c3
  clear c3
  by_cases c4 : t122 = true
  ·subst c4
   have H1 : ((tollref04_Same.f k t126 (([(⟨(⟨#[97]⟩ : ByteArray), (⟨#[51]⟩ : ByteArray)⟩ : S24), (⟨(⟨#[98]⟩ : ByteArray), (⟨#[50]⟩ : ByteArray)⟩ : S24)] : List (S24)))).bind fun t138 => (if t138 = true then ((pairs_Holds.f y129 y132 true).bind fun t139 => (if t139 = true then ((pairs_Holds.f y129 y132 false).bind fun t140 => (if t140 = true then (none) else (some true))) else (none))) else (none))) = some r := by rw [if_pos rfl] at H; exact H
   clear H
   have H := H1
   clear H1
   obtain ⟨y135, hy135⟩ : ∃ y_ : List (S24), y_ = (([(⟨(⟨#[97]⟩ : ByteArray), (⟨#[51]⟩ : ByteArray)⟩ : S24), (⟨(⟨#[98]⟩ : ByteArray), (⟨#[50]⟩ : ByteArray)⟩ : S24)] : List (S24))) := ⟨_, rfl⟩
   replace H : ((tollref04_Same.f k t126 y135).bind fun t138 => (if t138 = true then ((pairs_Holds.f y129 y132 true).bind fun t139 => (if t139 = true then ((pairs_Holds.f y129 y132 false).bind fun t140 => (if t140 = true then (none) else (some true))) else (none))) else (none))) = some r := by first | (rw [hy135]; with_reducible exact H) | (have H2_ := (Option.bind_some _ _).symm.trans H; rw [hy135]; with_reducible exact H2_) | (have H2_ := (Option.bind_some _ _).symm.trans H; with_reducible exact H2_) | with_reducible exact H | (rw [hy135]; exact H) | exact H
   have Ny135 := Aside0.mk hy135
   clear hy135
   replace H := Option.bind_eq_some_iff.mp H
   obtain ⟨t138, A50, H⟩ := H
   replace H : (if t138 = true then ((pairs_Holds.f y129 y132 true).bind fun t139 => (if t139 = true then ((pairs_Holds.f y129 y132 false).bind fun t140 => (if t140 = true then (none) else (some true))) else (none))) else (none)) = some r := H
   have A5 := Aside0.mk A50
   clear A50
   by_cases c6 : t138 = true
   ·subst c6
    have H1 : ((pairs_Holds.f y129 y132 true).bind fun t139 => (if t139 = true then ((pairs_Holds.f y129 y132 false).bind fun t140 => (if t140 = true then (none) else (some true))) else (none))) = some r := by rw [if_pos rfl] at H; exact H
    clear H
    have H := H1
    clear H1
    replace H := Option.bind_eq_some_iff.mp H
    obtain ⟨t139, A70, H⟩ := H
    replace H : (if t139 = true then ((pairs_Holds.f y129 y132 false).bind fun t140 => (if t140 = true then (none) else (some true))) else (none)) = some r := H
    have A7 := Aside0.mk A70
    clear A70
    by_cases c8 : t139 = true
    ·subst c8
     have H1 : ((pairs_Holds.f y129 y132 false).bind fun t140 => (if t140 = true then (none) else (some true))) = some r := by rw [if_pos rfl] at H; exact H
     clear H
     have H := H1
     clear H1
     replace H := Option.bind_eq_some_iff.mp H
     obtain ⟨t140, A90, H⟩ := H
     replace H : (if t140 = true then (none) else (some true)) = some r := H
     have A9 := Aside0.mk A90
     clear A90
     by_cases c10 : t140 = true
     ·subst c10
      have H1 : (none) = some r := by rw [if_pos rfl] at H; exact H
      clear H
      have H := H1
      clear H1
      exact absurd H (by simp)
     ·replace c10 := Bool.eq_false_iff.mpr c10
      subst c10
      have H1 : (some true) = some r := by rw [if_neg (show ¬ (false = true) by decide)] at H; exact H
      clear H
      have H := H1
      clear H1
      obtain rfl := Option.some.inj H
      go_enter Try.func9, Try.ntmps9
      go_wp2_with (first | ((with_reducible refine gate_dst (N := 8) rfl ?_); (try (refine gate_guard (by rfl) ?_; dsimp only)); refine Kd.R_lit k24 _ 24 ?hg (N := 8) ?hd (xs := ([(⟨(⟨#[104, 111, 115, 116]⟩ : ByteArray), (⟨#[97]⟩ : ByteArray)⟩ : S24)] : List (S24))) (inner := [.string (⟨#[104, 111, 115, 116]⟩ : ByteArray), .string (⟨#[97]⟩ : ByteArray)]) (ok := fun _ => True) (okp := fun _ => True) ?hr ?hp (fun _ hk => hk) trivial (Below.refl _ _) (Nat.le_refl _) (by simp) ?_; (case hd => rfl); (case hg => rfl); (case hr => first | (go_simp; done) | (go_simp; rfl)); (case hp => exact (Reps.c2 (show Kd.M k24 _ _ _ (⟨(⟨#[104, 111, 115, 116]⟩ : ByteArray), (⟨#[97]⟩ : ByteArray)⟩ : S24) [.string (⟨#[104, 111, 115, 116]⟩ : ByteArray), .string (⟨#[97]⟩ : ByteArray)] from (k24_mkM _ _ _ (⟨(⟨#[104, 111, 115, 116]⟩ : ByteArray), (⟨#[97]⟩ : ByteArray)⟩ : S24) )) (Reps.none _ _))); intro v119 w11 ho12 hb hg_ hnew_; clear hg_ hnew_; (first | rw [← Ny118.out] at ho12 | (simp only [Int.reduceToNat] at ho12; rw [← Ny118.out] at ho12)); have n0_ := am_ (Kd.R_lower ho12 (below_size (bel_ HB.out))); have n1_ := am_ (below_step (bel_ HB.out) hb); clear HB; have HO120 := n0_; have HB := n1_; clear n0_ n1_ hb ho12; obtain ⟨Ao13, co13, eo13⟩ := Kd.R_slice HO120.out; subst eo13) | ((with_reducible refine gate_callee (f := 10) rfl ?_); refine goesL_ (some 9) rfl rfl Try.func10 kr_ rfl #[.slice Ao13 y118.length co13, .string (⟨#[72, 111, 115, 116]⟩ : ByteArray)] rfl rl_ ?_; (with_reducible refine (pairs_Get.calls _ _ y118 (⟨#[72, 111, 115, 116]⟩ : ByteArray) t121 true _ ?side1 ?side2 A1.out).mono ?_); (case side1 => exact C_ (Kd.R_reads' HO120.out).2.2); (case side2 => exact (Kd.R_reads' HO120.out).2.1); rintro e w14 ⟨rfl, hb⟩; refine ⟨_, rfl, ?_⟩; have n0_ := am_ (Kd.R_below (R_ HO120.out) hb); have n1_ := am_ (below_step (bel_ HB.out) hb); clear HO120 HB; have HO120 := n0_; have HB := n1_; clear n0_ n1_; (try clear hb); (try clear hb2); (try clear hk); (try clear hi)) | ((with_reducible refine gate_dst (N := 15) rfl ?_); (try (refine gate_guard (by rfl) ?_; dsimp only)); refine Kd.R_lit k24 _ 24 ?hg (N := 15) ?hd (xs := ([(⟨(⟨#[97]⟩ : ByteArray), (⟨#[49]⟩ : ByteArray)⟩ : S24), (⟨(⟨#[98]⟩ : ByteArray), (⟨#[50]⟩ : ByteArray)⟩ : S24), (⟨(⟨#[65]⟩ : ByteArray), (⟨#[52]⟩ : ByteArray)⟩ : S24)] : List (S24))) (inner := [.string (⟨#[97]⟩ : ByteArray), .string (⟨#[49]⟩ : ByteArray), .string (⟨#[98]⟩ : ByteArray), .string (⟨#[50]⟩ : ByteArray), .string (⟨#[65]⟩ : ByteArray), .string (⟨#[52]⟩ : ByteArray)]) (ok := fun _ => True) (okp := fun _ => True) ?hr ?hp (fun _ hk => hk) trivial (Below.refl _ _) (Nat.le_refl _) (by simp) ?_; (case hd => rfl); (case hg => rfl); (case hr => first | (go_simp; done) | (go_simp; rfl)); (case hp => exact (Reps.c2 (show Kd.M k24 _ _ _ (⟨(⟨#[97]⟩ : ByteArray), (⟨#[49]⟩ : ByteArray)⟩ : S24) [.string (⟨#[97]⟩ : ByteArray), .string (⟨#[49]⟩ : ByteArray)] from (k24_mkM _ _ _ (⟨(⟨#[97]⟩ : ByteArray), (⟨#[49]⟩ : ByteArray)⟩ : S24) )) (Reps.c2 (show Kd.M k24 _ _ _ (⟨(⟨#[98]⟩ : ByteArray), (⟨#[50]⟩ : ByteArray)⟩ : S24) [.string (⟨#[98]⟩ : ByteArray), .string (⟨#[50]⟩ : ByteArray)] from (k24_mkM _ _ _ (⟨(⟨#[98]⟩ : ByteArray), (⟨#[50]⟩ : ByteArray)⟩ : S24) )) (Reps.c2 (show Kd.M k24 _ _ _ (⟨(⟨#[65]⟩ : ByteArray), (⟨#[52]⟩ : ByteArray)⟩ : S24) [.string (⟨#[65]⟩ : ByteArray), .string (⟨#[52]⟩ : ByteArray)] from (k24_mkM _ _ _ (⟨(⟨#[65]⟩ : ByteArray), (⟨#[52]⟩ : ByteArray)⟩ : S24) )) (Reps.none _ _))))); intro v124 w15 ho16 hb hg_ hnew_; clear hg_ hnew_; (first | rw [← Ny123.out] at ho16 | (simp only [Int.reduceToNat] at ho16; rw [← Ny123.out] at ho16)); have n0_ := am_ (Kd.R_elder' (R_ HO120.out) (Kd.R_base ho16) hb); have n1_ := am_ (Kd.R_lower (Kd.R_new' ho16 (Kd.R_lt (R_ HO120.out))) (below_size (bel_ HB.out))); have n2_ := am_ (below_step (bel_ HB.out) hb); clear HO120 HB; have HO120 := n0_; have HO125 := n1_; have HB := n2_; clear n0_ n1_ n2_ hb ho16; obtain ⟨Ao17, co17, eo17⟩ := Kd.R_slice HO125.out; subst eo17) | ((with_reducible refine gate_callee (f := 5) rfl ?_); refine goesL_ (some 16) rfl rfl Try.func5 kr_ rfl #[.slice Ao17 y123.length co17, .string (⟨#[97]⟩ : ByteArray), .string (⟨#[51]⟩ : ByteArray)] rfl rl_ ?_; (with_reducible refine (pairs_Set.calls _ _ y123 (⟨#[97]⟩ : ByteArray) (⟨#[51]⟩ : ByteArray) t126 _ ?side1 ?side2 A2.out).mono ?_); (case side1 => exact C_ (Kd.R_reads' HO125.out).2.2); (case side2 => exact (Kd.R_reads' HO125.out).2.1); rintro e w18 ⟨v127, rfl, ho0, hb⟩; refine ⟨_, rfl, ?_⟩; have n0_ := am_ (Kd.R_elder' (R_ HO120.out) (Kd.R_base ho0) hb); have n1_ := am_ (Kd.R_elder' (R_ HO125.out) (Kd.R_base ho0) hb); have n2_ := am_ (Kd.R_lower (Kd.R_new' (Kd.R_new' ho0 (Kd.R_lt (R_ HO120.out))) (Kd.R_lt (R_ HO125.out))) (below_size (bel_ HB.out))); have n3_ := am_ (below_step (bel_ HB.out) hb); clear HO120 HO125 HB; have HO120 := n0_; have HO125 := n1_; have HO128 := n2_; have HB := n3_; clear n0_ n1_ n2_ n3_; (try clear hb); (try clear hb2); (try clear hk); (try clear hi); (try clear ho0)) | ((with_reducible refine gate_dst (N := 18) rfl ?_); (try (refine gate_guard (by rfl) ?_; dsimp only)); refine Kd.R_lit k24 _ 24 ?hg (N := 18) ?hd (xs := ([(⟨(⟨#[120]⟩ : ByteArray), (⟨#[49]⟩ : ByteArray)⟩ : S24)] : List (S24))) (inner := [.string (⟨#[120]⟩ : ByteArray), .string (⟨#[49]⟩ : ByteArray)]) (ok := fun _ => True) (okp := fun _ => True) ?hr ?hp (fun _ hk => hk) trivial (Below.refl _ _) (Nat.le_refl _) (by simp) ?_; (case hd => rfl); (case hg => rfl); (case hr => first | (go_simp; done) | (go_simp; rfl)); (case hp => exact (Reps.c2 (show Kd.M k24 _ _ _ (⟨(⟨#[120]⟩ : ByteArray), (⟨#[49]⟩ : ByteArray)⟩ : S24) [.string (⟨#[120]⟩ : ByteArray), .string (⟨#[49]⟩ : ByteArray)] from (k24_mkM _ _ _ (⟨(⟨#[120]⟩ : ByteArray), (⟨#[49]⟩ : ByteArray)⟩ : S24) )) (Reps.none _ _))); intro v130 w19 ho20 hb hg_ hnew_; clear hg_ hnew_; (first | rw [← Ny129.out] at ho20 | (simp only [Int.reduceToNat] at ho20; rw [← Ny129.out] at ho20)); have n0_ := am_ (Kd.R_elder' (R_ HO120.out) (Kd.R_base ho20) hb); have n1_ := am_ (Kd.R_elder' (R_ HO125.out) (Kd.R_base ho20) hb); have n2_ := am_ (Kd.R_elder' (R_ HO128.out) (Kd.R_base ho20) hb); have n3_ := am_ (Kd.R_lower (Kd.R_new' (Kd.R_new' (Kd.R_new' ho20 (Kd.R_lt (R_ HO120.out))) (Kd.R_lt (R_ HO125.out))) (Kd.R_lt (R_ HO128.out))) (below_size (bel_ HB.out))); have n4_ := am_ (below_step (bel_ HB.out) hb); clear HO120 HO125 HO128 HB; have HO120 := n0_; have HO125 := n1_; have HO128 := n2_; have HO131 := n3_; have HB := n4_; clear n0_ n1_ n2_ n3_ n4_ hb ho20) | ((with_reducible refine gate_dst (N := 20) rfl ?_); (try (refine gate_guard (by rfl) ?_; dsimp only)); refine Kd.R_lit k24 _ 24 ?hg (N := 20) ?hd (xs := ([(⟨(⟨#[88]⟩ : ByteArray), (⟨#[49]⟩ : ByteArray)⟩ : S24)] : List (S24))) (inner := [.string (⟨#[88]⟩ : ByteArray), .string (⟨#[49]⟩ : ByteArray)]) (ok := fun _ => True) (okp := fun _ => True) ?hr ?hp (fun _ hk => hk) trivial (Below.refl _ _) (Nat.le_refl _) (by simp) ?_; (case hd => rfl); (case hg => rfl); (case hr => first | (go_simp; done) | (go_simp; rfl)); (case hp => exact (Reps.c2 (show Kd.M k24 _ _ _ (⟨(⟨#[88]⟩ : ByteArray), (⟨#[49]⟩ : ByteArray)⟩ : S24) [.string (⟨#[88]⟩ : ByteArray), .string (⟨#[49]⟩ : ByteArray)] from (k24_mkM _ _ _ (⟨(⟨#[88]⟩ : ByteArray), (⟨#[49]⟩ : ByteArray)⟩ : S24) )) (Reps.none _ _))); intro v133 w21 ho22 hb hg_ hnew_; clear hg_ hnew_; (first | rw [← Ny132.out] at ho22 | (simp only [Int.reduceToNat] at ho22; rw [← Ny132.out] at ho22)); have n0_ := am_ (Kd.R_elder' (R_ HO120.out) (Kd.R_base ho22) hb); have n1_ := am_ (Kd.R_elder' (R_ HO125.out) (Kd.R_base ho22) hb); have n2_ := am_ (Kd.R_elder' (R_ HO128.out) (Kd.R_base ho22) hb); have n3_ := am_ (Kd.R_elder' (R_ HO131.out) (Kd.R_base ho22) hb); have n4_ := am_ (Kd.R_lower (Kd.R_new' (Kd.R_new' (Kd.R_new' (Kd.R_new' ho22 (Kd.R_lt (R_ HO120.out))) (Kd.R_lt (R_ HO125.out))) (Kd.R_lt (R_ HO128.out))) (Kd.R_lt (R_ HO131.out))) (below_size (bel_ HB.out))); have n5_ := am_ (below_step (bel_ HB.out) hb); clear HO120 HO125 HO128 HO131 HB; have HO120 := n0_; have HO125 := n1_; have HO128 := n2_; have HO131 := n3_; have HO134 := n4_; have HB := n5_; clear n0_ n1_ n2_ n3_ n4_ n5_ hb ho22) | ((with_reducible refine gate_dst (N := 30) rfl ?_); (try (refine gate_guard (by rfl) ?_; dsimp only)); refine Kd.R_lit k24 _ 24 ?hg (N := 30) ?hd (xs := ([(⟨(⟨#[97]⟩ : ByteArray), (⟨#[51]⟩ : ByteArray)⟩ : S24), (⟨(⟨#[98]⟩ : ByteArray), (⟨#[50]⟩ : ByteArray)⟩ : S24)] : List (S24))) (inner := [.string (⟨#[97]⟩ : ByteArray), .string (⟨#[51]⟩ : ByteArray), .string (⟨#[98]⟩ : ByteArray), .string (⟨#[50]⟩ : ByteArray)]) (ok := fun _ => True) (okp := fun _ => True) ?hr ?hp (fun _ hk => hk) trivial (Below.refl _ _) (Nat.le_refl _) (by simp) ?_; (case hd => rfl); (case hg => rfl); (case hr => first | (go_simp; done) | (go_simp; rfl)); (case hp => exact (Reps.c2 (show Kd.M k24 _ _ _ (⟨(⟨#[97]⟩ : ByteArray), (⟨#[51]⟩ : ByteArray)⟩ : S24) [.string (⟨#[97]⟩ : ByteArray), .string (⟨#[51]⟩ : ByteArray)] from (k24_mkM _ _ _ (⟨(⟨#[97]⟩ : ByteArray), (⟨#[51]⟩ : ByteArray)⟩ : S24) )) (Reps.c2 (show Kd.M k24 _ _ _ (⟨(⟨#[98]⟩ : ByteArray), (⟨#[50]⟩ : ByteArray)⟩ : S24) [.string (⟨#[98]⟩ : ByteArray), .string (⟨#[50]⟩ : ByteArray)] from (k24_mkM _ _ _ (⟨(⟨#[98]⟩ : ByteArray), (⟨#[50]⟩ : ByteArray)⟩ : S24) )) (Reps.none _ _)))); intro v136 w23 ho24 hb hg_ hnew_; clear hg_ hnew_; (first | rw [← Ny135.out] at ho24 | (simp only [Int.reduceToNat] at ho24; rw [← Ny135.out] at ho24)); have n0_ := am_ (Kd.R_elder' (R_ HO120.out) (Kd.R_base ho24) hb); have n1_ := am_ (Kd.R_elder' (R_ HO125.out) (Kd.R_base ho24) hb); have n2_ := am_ (Kd.R_elder' (R_ HO128.out) (Kd.R_base ho24) hb); have n3_ := am_ (Kd.R_elder' (R_ HO131.out) (Kd.R_base ho24) hb); have n4_ := am_ (Kd.R_elder' (R_ HO134.out) (Kd.R_base ho24) hb); have n5_ := am_ (Kd.R_lower (Kd.R_new' (Kd.R_new' (Kd.R_new' (Kd.R_new' (Kd.R_new' ho24 (Kd.R_lt (R_ HO120.out))) (Kd.R_lt (R_ HO125.out))) (Kd.R_lt (R_ HO128.out))) (Kd.R_lt (R_ HO131.out))) (Kd.R_lt (R_ HO134.out))) (below_size (bel_ HB.out))); have n6_ := am_ (below_step (bel_ HB.out) hb); clear HO120 HO125 HO128 HO131 HO134 HB; have HO120 := n0_; have HO125 := n1_; have HO128 := n2_; have HO131 := n3_; have HO134 := n4_; have HO137 := n5_; have HB := n6_; clear n0_ n1_ n2_ n3_ n4_ n5_ n6_ hb ho24; obtain ⟨Ao25, co25, eo25⟩ := Kd.R_slice HO128.out; subst eo25; obtain ⟨Ao26, co26, eo26⟩ := Kd.R_slice HO137.out; subst eo26) | (go_at_call 6; (with_reducible refine (tollref04_Same.calls k _ _ t126 _ _ y135 true _ ?side1 ?side2 ?side3 ?side4 A5.out).mono ?_); (case side1 => exact C_ (Kd.R_reads' HO128.out).2.2); (case side2 => exact (Kd.R_reads' HO128.out).2.1); (case side3 => exact C_ (Kd.R_reads' HO137.out).2.2); (case side4 => exact (Kd.R_reads' HO137.out).2.1); rintro e w' ⟨rfl, ⟨nd, rfl⟩⟩; obtain ⟨Ao27, co27, eo27⟩ := Kd.R_slice HO131.out; subst eo27; obtain ⟨Ao28, co28, eo28⟩ := Kd.R_slice HO134.out; subst eo28) | (go_at_call 19; (with_reducible refine (pairs_Holds.calls _ _ y129 _ _ y132 true true _ ?side1 ?side2 ?side3 ?side4 A7.out).mono ?_); (case side1 => exact C_ (Kd.R_reads' HO131.out).2.2); (case side2 => exact (Kd.R_reads' HO131.out).2.1); (case side3 => exact C_ (Kd.R_reads' HO134.out).2.2); (case side4 => exact (Kd.R_reads' HO134.out).2.1); rintro e w29 ⟨rfl, hb⟩; have n0_ := am_ (Kd.R_below (R_ HO120.out) hb); have n1_ := am_ (Kd.R_below (R_ HO125.out) hb); have n2_ := am_ (Kd.R_below (R_ HO128.out) hb); have n3_ := am_ (Kd.R_below (R_ HO131.out) hb); have n4_ := am_ (Kd.R_below (R_ HO134.out) hb); have n5_ := am_ (Kd.R_below (R_ HO137.out) hb); have n6_ := am_ (below_step (bel_ HB.out) hb); clear HO120 HO125 HO128 HO131 HO134 HO137 HB; have HO120 := n0_; have HO125 := n1_; have HO128 := n2_; have HO131 := n3_; have HO134 := n4_; have HO137 := n5_; have HB := n6_; clear n0_ n1_ n2_ n3_ n4_ n5_ n6_; (try clear hb); (try clear hb2); (try clear hk); (try clear hi)) | (go_at_call 19; (with_reducible refine (pairs_Holds.calls _ _ y129 _ _ y132 false false _ ?side1 ?side2 ?side3 ?side4 A9.out).mono ?_); (case side1 => exact C_ (Kd.R_reads' HO131.out).2.2); (case side2 => exact (Kd.R_reads' HO131.out).2.1); (case side3 => exact C_ (Kd.R_reads' HO134.out).2.2); (case side4 => exact (Kd.R_reads' HO134.out).2.1); rintro e w30 ⟨rfl, hb⟩; have n0_ := am_ (Kd.R_below (R_ HO120.out) hb); have n1_ := am_ (Kd.R_below (R_ HO125.out) hb); have n2_ := am_ (Kd.R_below (R_ HO128.out) hb); have n3_ := am_ (Kd.R_below (R_ HO131.out) hb); have n4_ := am_ (Kd.R_below (R_ HO134.out) hb); have n5_ := am_ (Kd.R_below (R_ HO137.out) hb); have n6_ := am_ (below_step (bel_ HB.out) hb); clear HO120 HO125 HO128 HO131 HO134 HO137 HB; have HO120 := n0_; have HO125 := n1_; have HO128 := n2_; have HO131 := n3_; have HO134 := n4_; have HO137 := n5_; have HB := n6_; clear n0_ n1_ n2_ n3_ n4_ n5_ n6_; (try clear hb); (try clear hb2); (try clear hk); (try clear hi)))
      go_ret
      exact ⟨fi_, bel_ HB.out⟩
    ·replace c8 := Bool.eq_false_iff.mpr c8
     subst c8
     have H1 : (none) = some r := by rw [if_neg (show ¬ (false = true) by decide)] at H; exact H
     clear H
     have H := H1
     clear H1
     exact absurd H (by simp)
   ·replace c6 := Bool.eq_false_iff.mpr c6
    subst c6
    have H1 : (none) = some r := by rw [if_neg (show ¬ (false = true) by decide)] at H; exact H
    clear H
    have H := H1
    clear H1
    exact absurd H (by simp)
  ·replace c4 := Bool.eq_false_iff.mpr c4
   subst c4
   have H1 : (none) = some r := by rw [if_neg (show ¬ (false = true) by decide)] at H; exact H
   clear H
   have H := H1
   clear H1
   exact absurd H (by simp)
 ·rw [if_neg c3] at H
  exact absurd H (by simp)

end Go.Proofs.Ytglghmcdcdljoaa.P
