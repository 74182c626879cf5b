-- written by wip/tool/hprint.py of this repo: the kit's print, with contracts by hand joined; Lean checks it.
import Derived.Test.YtnldeohdojemlaaPx0
import Derived.Test.YtnldeohdojemlaaPx1
import Derived.Test.YtnldeohdojemlaaPx2
import Derived.Test.YtnldeohdojemlaaPx3
import Derived.Test.YtnldeohdojemlaaPx4
import Derived.Test.YtnldeohdojemlaaPx5
import Derived.Test.YtnldeohdojemlaaPx8
namespace Go.Proofs.Ytnldeohdojemlaa.P
open Go.RowKit Go.Proofs.YtnldeohdojemlaaW.PrintWords Go.Proofs.YtnldeohdojemlaaW.PrintLast Go.Proofs.YtnldeohdojemlaaW.PrintMore
attribute [local go_sem] max2_int min2_int max_two min_two max_three min_three max_four min_four   -- for this text's walks alone
set_option linter.unusedVariables false
set_option linter.unusedSimpArgs false

attribute [local go_sem high] eqA29
/-! ### tolllaw05_PairsAdds: function 8 -/
def tolllaw05_PairsAdds.j0 : Nat → ByteArray → ByteArray → List ByteArray → List (S29) → Bool → Option (Bool)
  | 0, _, _, _, _, _ => none
  | k + 1, x1, x2, x7, x8, x75 => if x75 = true then (none) else ((pairs_All.f k x8 x1).bind fun t375 => ((some (([] : List ByteArray) : List ByteArray)).bind fun y378 => (if y378.length + x7.length < 8796093022208 then ((some (y378 ++ x7 : List ByteArray)).bind fun y381 => (if y381.length < 8796093022208 then ((tollref01_Same.f k t375 (y381 ++ [x2])).bind fun t387 => (if t387 = true then ((tolllaw05_awake.f k).bind fun t388 => (some t388)) else (none))) else (none))) else (none))))
def tolllaw05_PairsAdds.f (k : Nat) (l0 : List (S29)) (a1 : ByteArray) (a2 : ByteArray) : Option (Bool) := (tolllaw05_Few.f k l0).bind fun t359 => ((tolllaw01_Few.f a1).bind fun t362 => ((tolllaw01_Few.f a2).bind fun t363 => ((pairs_All.f k t359 t362).bind fun t364 => ((pairs_Add.f t359 t362 t363).bind fun t367 => ((pairs_Get.f t359 t362).bind fun bt370 => ((pairs_Get.f t367 t362).bind fun bt372 => (if (t367.length : Int) = (wrap64 ((t359.length : Int) + 1)) then (if 0 ≤ (t359.length : Int) then (if (t359.length : Int) < (t367.length : Int) then (if (!((((rd_T29 t367 (t359.length : Int)).f0).toList) == t362.toList) || (!((((rd_T29 t367 (t359.length : Int)).f1).toList) == t363.toList))) = true then (tolllaw05_PairsAdds.j0 k t362 t363 t364 t367 true) else (if bt372.2 = true then (if bt370.2 = true then (if bt372.1.toList = bt370.1.toList then (tolllaw05_PairsAdds.j0 k t362 t363 t364 t367 false) else (tolllaw05_PairsAdds.j0 k t362 t363 t364 t367 true)) else (tolllaw05_PairsAdds.j0 k t362 t363 t364 t367 (bt372.1.toList != t363.toList))) else (tolllaw05_PairsAdds.j0 k t362 t363 t364 t367 true))) else (none)) else (none)) else (tolllaw05_PairsAdds.j0 k t362 t363 t364 t367 true))))))))
theorem tolllaw05_PairsAdds.mono_l : ∀ k, (∀ y0 y1 y2 y3 y4, LeO (tolllaw05_PairsAdds.j0 k y0 y1 y2 y3 y4) (tolllaw05_PairsAdds.j0 (k + 1) y0 y1 y2 y3 y4))
  | 0 => fun _ _ _ _ _ r h => by simp [tolllaw05_PairsAdds.j0] at h
  | k + 1 => by
    have ih0 := tolllaw05_PairsAdds.mono_l k
    · intro y0 y1 y2 y3 y4
      unfold tolllaw05_PairsAdds.j0
      repeat' first
      | (with_reducible exact ih0 _ _ _ _ _)
      | (with_reducible exact pairs_All.mono _ _ _)
      | (with_reducible exact tolllaw05_Few.mono _ _)
      | (with_reducible exact tolllaw05_awake.mono _)
      | (with_reducible exact tollref01_Same.mono _ _ _)
      | (with_reducible exact LeO.refl _)
      | (with_reducible exact LeO.none _)
      | (with_reducible refine LeO.ite ?_ ?_)
      | (with_reducible refine LeO.bind ?_ (fun _ => ?_))
      | exact ih0 _ _ _ _ _
      | exact pairs_All.mono _ _ _
      | exact tolllaw05_Few.mono _ _
      | exact tolllaw05_awake.mono _
      | exact tollref01_Same.mono _ _ _
      | exact LeO.none _
      | refine LeO.ite ?_ ?_
      | refine LeO.bind ?_ (fun _ => ?_)
theorem tolllaw05_PairsAdds.mono : ∀ a0 a1 a2 k, LeO (tolllaw05_PairsAdds.f k a0 a1 a2) (tolllaw05_PairsAdds.f (k + 1) a0 a1 a2) := by
  intro a0 a1 a2 k
  have ih0 := tolllaw05_PairsAdds.mono_l k
  unfold tolllaw05_PairsAdds.f
  repeat' first
      | (with_reducible exact ih0 _ _ _ _ _)
      | (with_reducible exact pairs_All.mono _ _ _)
      | (with_reducible exact tolllaw05_Few.mono _ _)
      | (with_reducible exact tolllaw05_awake.mono _)
      | (with_reducible exact tollref01_Same.mono _ _ _)
      | (with_reducible exact LeO.refl _)
      | (with_reducible exact LeO.none _)
      | (with_reducible refine LeO.ite ?_ ?_)
      | (with_reducible refine LeO.bind ?_ (fun _ => ?_))
      | exact ih0 _ _ _ _ _
      | exact pairs_All.mono _ _ _
      | exact tolllaw05_Few.mono _ _
      | exact tolllaw05_awake.mono _
      | exact tollref01_Same.mono _ _ _
      | exact LeO.none _
      | refine LeO.ite ?_ ?_
      | refine LeO.bind ?_ (fun _ => ?_)
set_option maxHeartbeats 8000000 in
set_option maxRecDepth 100000 in
theorem tolllaw05_PairsAdds.calls (k : Nat) (A0 : Option Addr) (c0 : Nat) (l0 : List (S29)) (a1 : ByteArray) (a2 : ByteArray) (r : Bool) (w : World) (hr0 : Kd.C k29 w A0 l0.length l0) (hc0 : l0.length ≤ c0) (h : tolllaw05_PairsAdds.f k l0 a1 a2 = some r) :
    Calls Try.prog 8 #[.slice A0 l0.length c0, .string a1, .string a2] w fun e w' => e = .returned (.bool r) ∧ Below w.heap.size w w' := by
  have hu29 := Try.underlying29
  have HR0 := Aside0.mk hr0
  have HC0 := Aside0.mk hc0
  clear hr0 hc0
  have HB := Aside0.mk (Below.refl w.heap.size w)
  have H : ((tolllaw05_Few.f k l0).bind fun t359 => ((tolllaw01_Few.f a1).bind fun t362 => ((tolllaw01_Few.f a2).bind fun t363 => ((pairs_All.f k t359 t362).bind fun t364 => ((pairs_Add.f t359 t362 t363).bind fun t367 => ((pairs_Get.f t359 t362).bind fun bt370 => ((pairs_Get.f t367 t362).bind fun bt372 => (if (t367.length : Int) = (wrap64 ((t359.length : Int) + 1)) then (if 0 ≤ (t359.length : Int) then (if (t359.length : Int) < (t367.length : Int) then (if (!((((rd_T29 t367 (t359.length : Int)).f0).toList) == t362.toList) || (!((((rd_T29 t367 (t359.length : Int)).f1).toList) == t363.toList))) = true then (tolllaw05_PairsAdds.j0 k t362 t363 t364 t367 true) else (if bt372.2 = true then (if bt370.2 = true then (if bt372.1.toList = bt370.1.toList then (tolllaw05_PairsAdds.j0 k t362 t363 t364 t367 false) else (tolllaw05_PairsAdds.j0 k t362 t363 t364 t367 true)) else (tolllaw05_PairsAdds.j0 k t362 t363 t364 t367 (bt372.1.toList != t363.toList))) else (tolllaw05_PairsAdds.j0 k t362 t363 t364 t367 true))) else (none)) else (none)) else (tolllaw05_PairsAdds.j0 k t362 t363 t364 t367 true))))))))) = some r := h
  clear h
  replace H := Option.bind_eq_some_iff.mp H
  obtain ⟨t359, A40, H⟩ := H
  replace H : ((tolllaw01_Few.f a1).bind fun t362 => ((tolllaw01_Few.f a2).bind fun t363 => ((pairs_All.f k t359 t362).bind fun t364 => ((pairs_Add.f t359 t362 t363).bind fun t367 => ((pairs_Get.f t359 t362).bind fun bt370 => ((pairs_Get.f t367 t362).bind fun bt372 => (if (t367.length : Int) = (wrap64 ((t359.length : Int) + 1)) then (if 0 ≤ (t359.length : Int) then (if (t359.length : Int) < (t367.length : Int) then (if (!((((rd_T29 t367 (t359.length : Int)).f0).toList) == t362.toList) || (!((((rd_T29 t367 (t359.length : Int)).f1).toList) == t363.toList))) = true then (tolllaw05_PairsAdds.j0 k t362 t363 t364 t367 true) else (if bt372.2 = true then (if bt370.2 = true then (if bt372.1.toList = bt370.1.toList then (tolllaw05_PairsAdds.j0 k t362 t363 t364 t367 false) else (tolllaw05_PairsAdds.j0 k t362 t363 t364 t367 true)) else (tolllaw05_PairsAdds.j0 k t362 t363 t364 t367 (bt372.1.toList != t363.toList))) else (tolllaw05_PairsAdds.j0 k t362 t363 t364 t367 true))) else (none)) else (none)) else (tolllaw05_PairsAdds.j0 k t362 t363 t364 t367 true)))))))) = some r := H
  have A4 := Aside0.mk A40
  clear A40
  replace H := Option.bind_eq_some_iff.mp H
  obtain ⟨t362, A50, H⟩ := H
  replace H : ((tolllaw01_Few.f a2).bind fun t363 => ((pairs_All.f k t359 t362).bind fun t364 => ((pairs_Add.f t359 t362 t363).bind fun t367 => ((pairs_Get.f t359 t362).bind fun bt370 => ((pairs_Get.f t367 t362).bind fun bt372 => (if (t367.length : Int) = (wrap64 ((t359.length : Int) + 1)) then (if 0 ≤ (t359.length : Int) then (if (t359.length : Int) < (t367.length : Int) then (if (!((((rd_T29 t367 (t359.length : Int)).f0).toList) == t362.toList) || (!((((rd_T29 t367 (t359.length : Int)).f1).toList) == t363.toList))) = true then (tolllaw05_PairsAdds.j0 k t362 t363 t364 t367 true) else (if bt372.2 = true then (if bt370.2 = true then (if bt372.1.toList = bt370.1.toList then (tolllaw05_PairsAdds.j0 k t362 t363 t364 t367 false) else (tolllaw05_PairsAdds.j0 k t362 t363 t364 t367 true)) else (tolllaw05_PairsAdds.j0 k t362 t363 t364 t367 (bt372.1.toList != t363.toList))) else (tolllaw05_PairsAdds.j0 k t362 t363 t364 t367 true))) else (none)) else (none)) else (tolllaw05_PairsAdds.j0 k t362 t363 t364 t367 true))))))) = some r := H
  have A5 := Aside0.mk A50
  clear A50
  replace H := Option.bind_eq_some_iff.mp H
  obtain ⟨t363, A60, H⟩ := H
  replace H : ((pairs_All.f k t359 t362).bind fun t364 => ((pairs_Add.f t359 t362 t363).bind fun t367 => ((pairs_Get.f t359 t362).bind fun bt370 => ((pairs_Get.f t367 t362).bind fun bt372 => (if (t367.length : Int) = (wrap64 ((t359.length : Int) + 1)) then (if 0 ≤ (t359.length : Int) then (if (t359.length : Int) < (t367.length : Int) then (if (!((((rd_T29 t367 (t359.length : Int)).f0).toList) == t362.toList) || (!((((rd_T29 t367 (t359.length : Int)).f1).toList) == t363.toList))) = true then (tolllaw05_PairsAdds.j0 k t362 t363 t364 t367 true) else (if bt372.2 = true then (if bt370.2 = true then (if bt372.1.toList = bt370.1.toList then (tolllaw05_PairsAdds.j0 k t362 t363 t364 t367 false) else (tolllaw05_PairsAdds.j0 k t362 t363 t364 t367 true)) else (tolllaw05_PairsAdds.j0 k t362 t363 t364 t367 (bt372.1.toList != t363.toList))) else (tolllaw05_PairsAdds.j0 k t362 t363 t364 t367 true))) else (none)) else (none)) else (tolllaw05_PairsAdds.j0 k t362 t363 t364 t367 true)))))) = some r := H
  have A6 := Aside0.mk A60
  clear A60
  replace H := Option.bind_eq_some_iff.mp H
  obtain ⟨t364, A70, H⟩ := H
  replace H : ((pairs_Add.f t359 t362 t363).bind fun t367 => ((pairs_Get.f t359 t362).bind fun bt370 => ((pairs_Get.f t367 t362).bind fun bt372 => (if (t367.length : Int) = (wrap64 ((t359.length : Int) + 1)) then (if 0 ≤ (t359.length : Int) then (if (t359.length : Int) < (t367.length : Int) then (if (!((((rd_T29 t367 (t359.length : Int)).f0).toList) == t362.toList) || (!((((rd_T29 t367 (t359.length : Int)).f1).toList) == t363.toList))) = true then (tolllaw05_PairsAdds.j0 k t362 t363 t364 t367 true) else (if bt372.2 = true then (if bt370.2 = true then (if bt372.1.toList = bt370.1.toList then (tolllaw05_PairsAdds.j0 k t362 t363 t364 t367 false) else (tolllaw05_PairsAdds.j0 k t362 t363 t364 t367 true)) else (tolllaw05_PairsAdds.j0 k t362 t363 t364 t367 (bt372.1.toList != t363.toList))) else (tolllaw05_PairsAdds.j0 k t362 t363 t364 t367 true))) else (none)) else (none)) else (tolllaw05_PairsAdds.j0 k t362 t363 t364 t367 true))))) = some r := H
  have A7 := Aside0.mk A70
  clear A70
  replace H := Option.bind_eq_some_iff.mp H
  obtain ⟨t367, A80, H⟩ := H
  replace H : ((pairs_Get.f t359 t362).bind fun bt370 => ((pairs_Get.f t367 t362).bind fun bt372 => (if (t367.length : Int) = (wrap64 ((t359.length : Int) + 1)) then (if 0 ≤ (t359.length : Int) then (if (t359.length : Int) < (t367.length : Int) then (if (!((((rd_T29 t367 (t359.length : Int)).f0).toList) == t362.toList) || (!((((rd_T29 t367 (t359.length : Int)).f1).toList) == t363.toList))) = true then (tolllaw05_PairsAdds.j0 k t362 t363 t364 t367 true) else (if bt372.2 = true then (if bt370.2 = true then (if bt372.1.toList = bt370.1.toList then (tolllaw05_PairsAdds.j0 k t362 t363 t364 t367 false) else (tolllaw05_PairsAdds.j0 k t362 t363 t364 t367 true)) else (tolllaw05_PairsAdds.j0 k t362 t363 t364 t367 (bt372.1.toList != t363.toList))) else (tolllaw05_PairsAdds.j0 k t362 t363 t364 t367 true))) else (none)) else (none)) else (tolllaw05_PairsAdds.j0 k t362 t363 t364 t367 true)))) = some r := H
  have A8 := Aside0.mk A80
  clear A80
  replace H := Option.bind_eq_some_iff.mp H
  obtain ⟨⟨t370, t371⟩, A90, H⟩ := H
  replace H : ((pairs_Get.f t367 t362).bind fun bt372 => (if (t367.length : Int) = (wrap64 ((t359.length : Int) + 1)) then (if 0 ≤ (t359.length : Int) then (if (t359.length : Int) < (t367.length : Int) then (if (!((((rd_T29 t367 (t359.length : Int)).f0).toList) == t362.toList) || (!((((rd_T29 t367 (t359.length : Int)).f1).toList) == t363.toList))) = true then (tolllaw05_PairsAdds.j0 k t362 t363 t364 t367 true) else (if bt372.2 = true then (if t371 = true then (if bt372.1.toList = t370.toList then (tolllaw05_PairsAdds.j0 k t362 t363 t364 t367 false) else (tolllaw05_PairsAdds.j0 k t362 t363 t364 t367 true)) else (tolllaw05_PairsAdds.j0 k t362 t363 t364 t367 (bt372.1.toList != t363.toList))) else (tolllaw05_PairsAdds.j0 k t362 t363 t364 t367 true))) else (none)) else (none)) else (tolllaw05_PairsAdds.j0 k t362 t363 t364 t367 true))) = some r := H
  have A9 := Aside0.mk A90
  clear A90
  replace H := Option.bind_eq_some_iff.mp H
  obtain ⟨⟨t372, t373⟩, A100, H⟩ := H
  replace H : (if (t367.length : Int) = (wrap64 ((t359.length : Int) + 1)) then (if 0 ≤ (t359.length : Int) then (if (t359.length : Int) < (t367.length : Int) then (if (!((((rd_T29 t367 (t359.length : Int)).f0).toList) == t362.toList) || (!((((rd_T29 t367 (t359.length : Int)).f1).toList) == t363.toList))) = true then (tolllaw05_PairsAdds.j0 k t362 t363 t364 t367 true) else (if t373 = true then (if t371 = true then (if t372.toList = t370.toList then (tolllaw05_PairsAdds.j0 k t362 t363 t364 t367 false) else (tolllaw05_PairsAdds.j0 k t362 t363 t364 t367 true)) else (tolllaw05_PairsAdds.j0 k t362 t363 t364 t367 (t372.toList != t363.toList))) else (tolllaw05_PairsAdds.j0 k t362 t363 t364 t367 true))) else (none)) else (none)) else (tolllaw05_PairsAdds.j0 k t362 t363 t364 t367 true)) = some r := H
  have A10 := Aside0.mk A100
  clear A100
  have HC11 := Aside0.mk H
  clear H
  go_enter Try.func8, Try.ntmps8
  go_upto_region 5 with (first | ((with_reducible refine gate_callee (f := 9) rfl ?_); refine goesL_ (some 14) rfl rfl Try.func9 (by kernel_rfl) rfl #[.slice A0 l0.length c0] rfl (by (try simp only [List.map_toArray, List.map_cons, List.map_nil]); first | done | rfl | (simp only [List.length_drop, List.length_take]; rfl)) ?_; (with_reducible refine (tolllaw05_Few.calls k _ _ l0 t359 _ ?side1 ?side2 A4.out).mono ?_); (case side1 => repeat (first | exact HR0.out | (with_reducible refine Kd.C_alloc ?_ _) | (with_reducible refine Kd.C_drewN ?_ _) | (with_reducible refine Kd.C_drew ?_))); (case side2 => exact HC0.out); rintro e w12 ⟨v360, rfl, ho0, hb⟩; refine ⟨_, rfl, ?_⟩; have n0_ := Aside0.mk (Kd.R_lower ho0 (below_size (by repeat (first | (with_reducible first | exact HB.out | apply below_alloc | apply pw_below_drewN | apply below_drew1) | exact HB.out)))); have n1_ := Aside0.mk (below_step (by repeat (first | (with_reducible first | exact HB.out | apply below_alloc | apply pw_below_drewN | apply below_drew1) | exact HB.out)) hb); clear HB; have HO361 := n0_; have HB := n1_; clear n0_ n1_; (try clear hb); (try clear hb2); (try clear hk); (try clear hi); (try clear ho0)) | ((with_reducible refine gate_callee (f := 10) rfl ?_); refine goesL_ (some 16) rfl rfl Try.func10 (by kernel_rfl) rfl #[.string a1] rfl (by (try simp only [List.map_toArray, List.map_cons, List.map_nil]); first | done | rfl | (simp only [List.length_drop, List.length_take]; rfl)) ?_; (with_reducible refine (tolllaw01_Few.calls a1 t362 _ A5.out).mono ?_); rintro e w' ⟨rfl, ⟨nd, rfl⟩⟩; refine ⟨_, rfl, ?_⟩) | ((with_reducible refine gate_callee (f := 10) rfl ?_); refine goesL_ (some 18) rfl rfl Try.func10 (by kernel_rfl) rfl #[.string a2] rfl (by (try simp only [List.map_toArray, List.map_cons, List.map_nil]); first | done | rfl | (simp only [List.length_drop, List.length_take]; rfl)) ?_; (with_reducible refine (tolllaw01_Few.calls a2 t363 _ A6.out).mono ?_); rintro e w' ⟨rfl, ⟨nd, rfl⟩⟩; refine ⟨_, rfl, ?_⟩; obtain ⟨Ao13, co13, eo13⟩ := Kd.R_slice HO361.out; subst eo13) | ((with_reducible refine gate_callee (f := 22) rfl ?_); refine goesL_ (some 21) rfl rfl Try.func22 (by kernel_rfl) rfl #[.slice Ao13 t359.length co13, .string t362] rfl (by (try simp only [List.map_toArray, List.map_cons, List.map_nil]); first | done | rfl | (simp only [List.length_drop, List.length_take]; rfl)) ?_; (with_reducible refine (pairs_All.calls k _ _ t359 t362 t364 _ ?side1 ?side2 A7.out).mono ?_); (case side1 => repeat (first | exact (Kd.R_reads' HO361.out).2.2 | (with_reducible refine Kd.C_alloc ?_ _) | (with_reducible refine Kd.C_drewN ?_ _) | (with_reducible refine Kd.C_drew ?_))); (case side2 => exact (Kd.R_reads' HO361.out).2.1); rintro e w14 ⟨v365, rfl, ho0, hb⟩; refine ⟨_, rfl, ?_⟩; have n0_ := Aside0.mk (Kd.R_below (by (with_reducible repeat (first | apply Kd.R_alloc | apply Kd.R_drewN | apply Kd.R_drew)); exact HO361.out) hb); have n1_ := Aside0.mk (Kd.R_lower ho0 (below_size (by repeat (first | (with_reducible first | exact HB.out | apply below_alloc | apply pw_below_drewN | apply below_drew1) | exact HB.out)))); have n2_ := Aside0.mk (below_step (by repeat (first | (with_reducible first | exact HB.out | apply below_alloc | apply pw_below_drewN | apply below_drew1) | exact HB.out)) hb); clear HO361; clear HB; have HO361 := n0_; have HO366 := n1_; have HB := n2_; clear n0_ n1_ n2_; (try clear hb); (try clear hb2); (try clear hk); (try clear hi); (try clear ho0)) | ((with_reducible refine gate_callee (f := 16) rfl ?_); refine goesL_ (some 25) rfl rfl Try.func16 (by kernel_rfl) rfl #[.slice Ao13 t359.length co13, .string t362, .string t363] rfl (by (try simp only [List.map_toArray, List.map_cons, List.map_nil]); first | done | rfl | (simp only [List.length_drop, List.length_take]; rfl)) ?_; (with_reducible refine (pairs_Add.calls _ _ t359 t362 t363 t367 _ ?side1 ?side2 A8.out).mono ?_); (case side1 => repeat (first | exact (Kd.R_reads' HO361.out).2.2 | (with_reducible refine Kd.C_alloc ?_ _) | (with_reducible refine Kd.C_drewN ?_ _) | (with_reducible refine Kd.C_drew ?_))); (case side2 => exact (Kd.R_reads' HO361.out).2.1); rintro e w15 ⟨v368, rfl, ho0, hb⟩; refine ⟨_, rfl, ?_⟩; have n0_ := Aside0.mk (Kd.R_elder' (by (with_reducible repeat (first | apply Kd.R_alloc | apply Kd.R_drewN | apply Kd.R_drew)); exact HO361.out) (Kd.R_base ho0) hb); have n1_ := Aside0.mk (Kd.R_below (by (with_reducible repeat (first | apply Kd.R_alloc | apply Kd.R_drewN | apply Kd.R_drew)); exact HO366.out) hb); have n2_ := Aside0.mk (Kd.R_lower (Kd.R_new' ho0 (Kd.R_lt (by (with_reducible repeat (first | apply Kd.R_alloc | apply Kd.R_drewN | apply Kd.R_drew)); exact HO361.out))) (below_size (by repeat (first | (with_reducible first | exact HB.out | apply below_alloc | apply pw_below_drewN | apply below_drew1) | exact HB.out)))); have n3_ := Aside0.mk (below_step (by repeat (first | (with_reducible first | exact HB.out | apply below_alloc | apply pw_below_drewN | apply below_drew1) | exact HB.out)) hb); clear HO361; clear HO366; clear HB; have HO361 := n0_; have HO366 := n1_; have HO369 := n2_; have HB := n3_; clear n0_ n1_ n2_ n3_; (try clear hb); (try clear hb2); (try clear hk); (try clear hi); (try clear ho0)) | ((with_reducible refine gate_callee (f := 21) rfl ?_); refine goesL_ (some 29) rfl rfl Try.func21 (by kernel_rfl) rfl #[.slice Ao13 t359.length co13, .string t362] rfl (by (try simp only [List.map_toArray, List.map_cons, List.map_nil]); first | done | rfl | (simp only [List.length_drop, List.length_take]; rfl)) ?_; (with_reducible refine (pairs_Get.calls _ _ t359 t362 t370 t371 _ ?side1 ?side2 A9.out).mono ?_); (case side1 => repeat (first | exact (Kd.R_reads' HO361.out).2.2 | (with_reducible refine Kd.C_alloc ?_ _) | (with_reducible refine Kd.C_drewN ?_ _) | (with_reducible refine Kd.C_drew ?_))); (case side2 => exact (Kd.R_reads' HO361.out).2.1); rintro e w16 ⟨rfl, hb⟩; refine ⟨_, rfl, ?_⟩; have n0_ := Aside0.mk (Kd.R_below (by (with_reducible repeat (first | apply Kd.R_alloc | apply Kd.R_drewN | apply Kd.R_drew)); exact HO361.out) hb); have n1_ := Aside0.mk (Kd.R_below (by (with_reducible repeat (first | apply Kd.R_alloc | apply Kd.R_drewN | apply Kd.R_drew)); exact HO366.out) hb); have n2_ := Aside0.mk (Kd.R_below (by (with_reducible repeat (first | apply Kd.R_alloc | apply Kd.R_drewN | apply Kd.R_drew)); exact HO369.out) hb); have n3_ := Aside0.mk (below_step (by repeat (first | (with_reducible first | exact HB.out | apply below_alloc | apply pw_below_drewN | apply below_drew1) | exact HB.out)) hb); clear HO361; clear HO366; clear HO369; clear HB; have HO361 := n0_; have HO366 := n1_; have HO369 := n2_; have HB := n3_; clear n0_ n1_ n2_ n3_; (try clear hb); (try clear hb2); (try clear hk); (try clear hi); obtain ⟨Ao17, co17, eo17⟩ := Kd.R_slice HO369.out; subst eo17) | ((with_reducible refine gate_callee (f := 21) rfl ?_); refine goesL_ (some 35) rfl rfl Try.func21 (by kernel_rfl) rfl #[.slice Ao17 t367.length co17, .string t362] rfl (by (try simp only [List.map_toArray, List.map_cons, List.map_nil]); first | done | rfl | (simp only [List.length_drop, List.length_take]; rfl)) ?_; (with_reducible refine (pairs_Get.calls _ _ t367 t362 t372 t373 _ ?side1 ?side2 A10.out).mono ?_); (case side1 => repeat (first | exact (Kd.R_reads' HO369.out).2.2 | (with_reducible refine Kd.C_alloc ?_ _) | (with_reducible refine Kd.C_drewN ?_ _) | (with_reducible refine Kd.C_drew ?_))); (case side2 => exact (Kd.R_reads' HO369.out).2.1); rintro e w18 ⟨rfl, hb⟩; refine ⟨_, rfl, ?_⟩; have n0_ := Aside0.mk (Kd.R_below (by (with_reducible repeat (first | apply Kd.R_alloc | apply Kd.R_drewN | apply Kd.R_drew)); exact HO361.out) hb); have n1_ := Aside0.mk (Kd.R_below (by (with_reducible repeat (first | apply Kd.R_alloc | apply Kd.R_drewN | apply Kd.R_drew)); exact HO366.out) hb); have n2_ := Aside0.mk (Kd.R_below (by (with_reducible repeat (first | apply Kd.R_alloc | apply Kd.R_drewN | apply Kd.R_drew)); exact HO369.out) hb); have n3_ := Aside0.mk (below_step (by repeat (first | (with_reducible first | exact HB.out | apply below_alloc | apply pw_below_drewN | apply below_drew1) | exact HB.out)) hb); clear HO361; clear HO366; clear HO369; clear HB; have HO361 := n0_; have HO366 := n1_; have HO369 := n2_; have HB := n3_; clear n0_ n1_ n2_ n3_; (try clear hb); (try clear hb2); (try clear hk); (try clear hi)))
  (try simp only [Act.put, List.setIfInBounds_toArray, List.set_cons_zero, List.set_cons_succ])
  go_cut [75] (fun v75 wc => ∃ (kq : Nat) (x75_10 : Bool), v75 = .bool x75_10 ∧ Aside0 (tolllaw05_PairsAdds.j0 kq t362 t363 t364 t367 x75_10 = some r) ∧ Aside0 (kq ≤ k) ∧ Aside0 (Kd.R Kd.string 9 wc w.heap.size (fun _ => True) v365 t364) ∧ Aside0 (Kd.R k29 29 wc w.heap.size (fun _ => True) (.slice Ao17 t367.length co17) t367) ∧ Aside0 (Below w.heap.size w wc))
  case first =>
    have H := HC11.out
    clear HC11
    by_cases c19 : (t367.length : Int) = (wrap64 ((t359.length : Int) + 1))
    · rw [if_pos c19] at H
      have c19b0 : ((t367.length : Int) == (wrap64 ((t359.length : Int) + 1))) = true := beq_iff_eq.mpr c19
      have c19b1 : ((t367.length : Int) != (wrap64 ((t359.length : Int) + 1))) = false := bne_eq_false_iff_eq.mpr c19
      clear c19
      (first | rw [c19b0] | rw [c19b1] | rw [c19b2] | (simp only [i64_w, i32_w]; rw [c19b0]) | skip)
      by_cases c20 : 0 ≤ (t359.length : Int)
      · rw [if_pos c20] at H
        have c20b0 : decide (0 ≤ (t359.length : Int)) = true := decide_eq_true c20
        have c20b1 : decide (0 ≤ t359.length) = true := decide_eq_true (by omega)
        clear c20
        by_cases c21 : (t359.length : Int) < (t367.length : Int)
        · rw [if_pos c21] at H
          have c21b0 : decide ((t359.length : Int) < (t367.length : Int)) = true := decide_eq_true c21
          have c21b1 : decide (t359.length < t367.length) = true := decide_eq_true (Int.ofNat_lt.mp c21)
          clear c21
          by_cases c22 : (!((((rd_T29 t367 (t359.length : Int)).f0).toList) == t362.toList) || (!((((rd_T29 t367 (t359.length : Int)).f1).toList) == t363.toList))) = true
          · rw [if_pos c22] at H
            have c22b0 : (!((((rd_T29 t367 (t359.length : Int)).f0).toList) == t362.toList) || (!((((rd_T29 t367 (t359.length : Int)).f1).toList) == t363.toList))) = true := c22
            clear c22
            have H' := Aside0.mk H
            clear H
            have p374 : 0 ≤ ((t359.length : Int) : Int) := of_decide_eq_true (by first | (with_reducible assumption) | assumption)
            have q374 : (t359.length : Int) < (t367.length : Int) := of_decide_eq_true (by first | (with_reducible assumption) | assumption)
            obtain ⟨ad374, e374, hx374_0, hx374_1⟩ := at_T29 (Kd.R_reads' HO369.out).2.2 (t359.length : Int) p374 q374
            cases e374
            (try simp only [Go.IntWalk.toNatUp] at hx374_0)
            (try simp only [Go.IntWalk.toNatUp] at hx374_1)
            replace p374 := eq_true p374
            replace q374 := eq_true q374
            go_wp2
            go_meet
            case rel => exact ⟨_, (true), (by first | rfl | (simp; done) | (simp [*]; done)), H', ⟨by first | omega | exact Nat.le_refl _⟩, ⟨by (with_reducible repeat (first | apply Kd.R_alloc | apply Kd.R_drewN | apply Kd.R_drew)); exact HO366.out⟩, ⟨by (with_reducible repeat (first | apply Kd.R_alloc | apply Kd.R_drewN | apply Kd.R_drew)); exact Kd.R_mono HO369.out (fun _ hk => trivial)⟩, ⟨by repeat (first | (with_reducible first | exact HB.out | apply below_alloc | apply pw_below_drewN | apply below_drew1) | exact HB.out)⟩⟩
          · rw [if_neg c22] at H
            have c22b0 : (!((((rd_T29 t367 (t359.length : Int)).f0).toList) == t362.toList) || (!((((rd_T29 t367 (t359.length : Int)).f1).toList) == t363.toList))) = false := by simpa using c22
            clear c22
            by_cases c23 : t373 = true
            · subst c23
              have H1 : (if t371 = true then (if t372.toList = t370.toList then (tolllaw05_PairsAdds.j0 k t362 t363 t364 t367 false) else (tolllaw05_PairsAdds.j0 k t362 t363 t364 t367 true)) else (tolllaw05_PairsAdds.j0 k t362 t363 t364 t367 (t372.toList != t363.toList))) = some r := by rw [if_pos rfl] at H; exact H
              clear H
              have H := H1
              clear H1
              by_cases c24 : t371 = true
              · subst c24
                have H1 : (if t372.toList = t370.toList then (tolllaw05_PairsAdds.j0 k t362 t363 t364 t367 false) else (tolllaw05_PairsAdds.j0 k t362 t363 t364 t367 true)) = some r := by rw [if_pos rfl] at H; exact H
                clear H
                have H := H1
                clear H1
                by_cases c25 : t372.toList = t370.toList
                · rw [if_pos c25] at H
                  have c25b0 : (t372.toList == t370.toList) = true := beq_iff_eq.mpr c25
                  have c25b1 : (t372.toList != t370.toList) = false := bne_eq_false_iff_eq.mpr c25
                  clear c25
                  have H' := Aside0.mk H
                  clear H
                  have p374 : 0 ≤ ((t359.length : Int) : Int) := of_decide_eq_true (by first | (with_reducible assumption) | assumption)
                  have q374 : (t359.length : Int) < (t367.length : Int) := of_decide_eq_true (by first | (with_reducible assumption) | assumption)
                  obtain ⟨ad374, e374, hx374_0, hx374_1⟩ := at_T29 (Kd.R_reads' HO369.out).2.2 (t359.length : Int) p374 q374
                  cases e374
                  (try simp only [Go.IntWalk.toNatUp] at hx374_0)
                  (try simp only [Go.IntWalk.toNatUp] at hx374_1)
                  replace p374 := eq_true p374
                  replace q374 := eq_true q374
                  go_wp2
                  go_meet
                  case rel => exact ⟨_, (false), (by first | rfl | (simp; done) | (simp [*]; done)), H', ⟨by first | omega | exact Nat.le_refl _⟩, ⟨by (with_reducible repeat (first | apply Kd.R_alloc | apply Kd.R_drewN | apply Kd.R_drew)); exact HO366.out⟩, ⟨by (with_reducible repeat (first | apply Kd.R_alloc | apply Kd.R_drewN | apply Kd.R_drew)); exact Kd.R_mono HO369.out (fun _ hk => trivial)⟩, ⟨by repeat (first | (with_reducible first | exact HB.out | apply below_alloc | apply pw_below_drewN | apply below_drew1) | exact HB.out)⟩⟩
                · rw [if_neg c25] at H
                  have c25b0 : (t372.toList == t370.toList) = false := beq_eq_false_iff_ne.mpr c25
                  have c25b1 : (t372.toList != t370.toList) = true := bne_iff_ne.mpr c25
                  have H' := Aside0.mk H
                  clear H
                  have p374 : 0 ≤ ((t359.length : Int) : Int) := of_decide_eq_true (by first | (with_reducible assumption) | assumption)
                  have q374 : (t359.length : Int) < (t367.length : Int) := of_decide_eq_true (by first | (with_reducible assumption) | assumption)
                  obtain ⟨ad374, e374, hx374_0, hx374_1⟩ := at_T29 (Kd.R_reads' HO369.out).2.2 (t359.length : Int) p374 q374
                  cases e374
                  (try simp only [Go.IntWalk.toNatUp] at hx374_0)
                  (try simp only [Go.IntWalk.toNatUp] at hx374_1)
                  replace p374 := eq_true p374
                  replace q374 := eq_true q374
                  go_wp2
                  go_meet
                  case rel => exact ⟨_, (true), (by first | rfl | (simp; done) | (simp [*]; done)), H', ⟨by first | omega | exact Nat.le_refl _⟩, ⟨by (with_reducible repeat (first | apply Kd.R_alloc | apply Kd.R_drewN | apply Kd.R_drew)); exact HO366.out⟩, ⟨by (with_reducible repeat (first | apply Kd.R_alloc | apply Kd.R_drewN | apply Kd.R_drew)); exact Kd.R_mono HO369.out (fun _ hk => trivial)⟩, ⟨by repeat (first | (with_reducible first | exact HB.out | apply below_alloc | apply pw_below_drewN | apply below_drew1) | exact HB.out)⟩⟩
              · replace c24 := Bool.eq_false_iff.mpr c24
                subst c24
                have H1 : (tolllaw05_PairsAdds.j0 k t362 t363 t364 t367 (t372.toList != t363.toList)) = some r := by rw [if_neg (show ¬ (false = true) by decide)] at H; exact H
                clear H
                have H := H1
                clear H1
                have H' := Aside0.mk H
                clear H
                have p374 : 0 ≤ ((t359.length : Int) : Int) := of_decide_eq_true (by first | (with_reducible assumption) | assumption)
                have q374 : (t359.length : Int) < (t367.length : Int) := of_decide_eq_true (by first | (with_reducible assumption) | assumption)
                obtain ⟨ad374, e374, hx374_0, hx374_1⟩ := at_T29 (Kd.R_reads' HO369.out).2.2 (t359.length : Int) p374 q374
                cases e374
                (try simp only [Go.IntWalk.toNatUp] at hx374_0)
                (try simp only [Go.IntWalk.toNatUp] at hx374_1)
                replace p374 := eq_true p374
                replace q374 := eq_true q374
                go_wp2
                go_meet
                case rel => exact ⟨_, ((t372.toList != t363.toList)), (by first | rfl | (simp; done) | (simp [*]; done)), H', ⟨by first | omega | exact Nat.le_refl _⟩, ⟨by (with_reducible repeat (first | apply Kd.R_alloc | apply Kd.R_drewN | apply Kd.R_drew)); exact HO366.out⟩, ⟨by (with_reducible repeat (first | apply Kd.R_alloc | apply Kd.R_drewN | apply Kd.R_drew)); exact Kd.R_mono HO369.out (fun _ hk => trivial)⟩, ⟨by repeat (first | (with_reducible first | exact HB.out | apply below_alloc | apply pw_below_drewN | apply below_drew1) | exact HB.out)⟩⟩
            · replace c23 := Bool.eq_false_iff.mpr c23
              subst c23
              have H1 : (tolllaw05_PairsAdds.j0 k t362 t363 t364 t367 true) = some r := by rw [if_neg (show ¬ (false = true) by decide)] at H; exact H
              clear H
              have H := H1
              clear H1
              have H' := Aside0.mk H
              clear H
              have p374 : 0 ≤ ((t359.length : Int) : Int) := of_decide_eq_true (by first | (with_reducible assumption) | assumption)
              have q374 : (t359.length : Int) < (t367.length : Int) := of_decide_eq_true (by first | (with_reducible assumption) | assumption)
              obtain ⟨ad374, e374, hx374_0, hx374_1⟩ := at_T29 (Kd.R_reads' HO369.out).2.2 (t359.length : Int) p374 q374
              cases e374
              (try simp only [Go.IntWalk.toNatUp] at hx374_0)
              (try simp only [Go.IntWalk.toNatUp] at hx374_1)
              replace p374 := eq_true p374
              replace q374 := eq_true q374
              go_wp2
              go_meet
              case rel => exact ⟨_, (true), (by first | rfl | (simp; done) | (simp [*]; done)), H', ⟨by first | omega | exact Nat.le_refl _⟩, ⟨by (with_reducible repeat (first | apply Kd.R_alloc | apply Kd.R_drewN | apply Kd.R_drew)); exact HO366.out⟩, ⟨by (with_reducible repeat (first | apply Kd.R_alloc | apply Kd.R_drewN | apply Kd.R_drew)); exact Kd.R_mono HO369.out (fun _ hk => trivial)⟩, ⟨by repeat (first | (with_reducible first | exact HB.out | apply below_alloc | apply pw_below_drewN | apply below_drew1) | exact HB.out)⟩⟩
        · rw [if_neg c21] at H
          exact absurd H (by simp)
      · rw [if_neg c20] at H
        exact absurd H (by simp)
    · rw [if_neg c19] at H
      have c19b0 : ((t367.length : Int) == (wrap64 ((t359.length : Int) + 1))) = false := beq_eq_false_iff_ne.mpr c19
      have c19b1 : ((t367.length : Int) != (wrap64 ((t359.length : Int) + 1))) = true := bne_iff_ne.mpr c19
      (first | rw [c19b0] | rw [c19b1] | rw [c19b2] | (simp only [i64_w, i32_w]; rw [c19b0]) | skip)
      have H' := Aside0.mk H
      clear H
      go_wp2
      go_meet
      case rel => exact ⟨_, (true), (by first | rfl | (simp; done) | (simp [*]; done)), H', ⟨by first | omega | exact Nat.le_refl _⟩, ⟨by (with_reducible repeat (first | apply Kd.R_alloc | apply Kd.R_drewN | apply Kd.R_drew)); exact HO366.out⟩, ⟨by (with_reducible repeat (first | apply Kd.R_alloc | apply Kd.R_drewN | apply Kd.R_drew)); exact Kd.R_mono HO369.out (fun _ hk => trivial)⟩, ⟨by repeat (first | (with_reducible first | exact HB.out | apply below_alloc | apply pw_below_drewN | apply below_drew1) | exact HB.out)⟩⟩
  case rest =>
    clear HC11
    try clear c1
    try clear c2
    try clear p2
    try clear p3
    try clear q3
    try clear hx3
    try clear p6
    try clear c8
    try clear c9
    try clear c10
    try clear c16
    try clear c19
    try clear c19b0
    try clear c19b1
    try clear c19b2
    try clear c20
    try clear c20b0
    try clear c20b1
    try clear c21
    try clear c21b0
    try clear c21b1
    try clear c22
    try clear c22b0
    try clear c23
    try clear c24
    try clear c25
    try clear c25b0
    try clear c25b1
    try clear hx374_0
    try clear hx374_1
    try clear p374
    try clear q374
    obtain ⟨kq, x75_10, rfl, HA, HJ10, HO_7, HO_8, HB⟩ := hcut
    cases kq with
    | zero => exact absurd HA.out (by simp [tolllaw05_PairsAdds.j0])
    | succ kj10 =>
      have H := HA.out
      clear HA
      simp only [tolllaw05_PairsAdds.j0] at H
      by_cases c26 : x75_10 = true
      · subst c26
        have H1 : (none) = some r := by rw [if_pos rfl] at H; exact H
        clear H
        have H := H1
        clear H1
        exact absurd H (by simp)
      · replace c26 := Bool.eq_false_iff.mpr c26
        subst c26
        have H1 : ((pairs_All.f kj10 t367 t362).bind fun t375 => ((some (([] : List ByteArray) : List ByteArray)).bind fun y378 => (if y378.length + t364.length < 8796093022208 then ((some (y378 ++ t364 : List ByteArray)).bind fun y381 => (if y381.length < 8796093022208 then ((tollref01_Same.f kj10 t375 (y381 ++ [t363])).bind fun t387 => (if t387 = true then ((tolllaw05_awake.f kj10).bind fun t388 => (some t388)) else (none))) else (none))) else (none)))) = some r := by rw [if_neg (show ¬ (false = true) by decide)] at H; exact H
        clear H
        have H := H1
        clear H1
        replace H := Option.bind_eq_some_iff.mp H
        obtain ⟨t375, A270, H⟩ := H
        replace H : ((some (([] : List ByteArray) : List ByteArray)).bind fun y378 => (if y378.length + t364.length < 8796093022208 then ((some (y378 ++ t364 : List ByteArray)).bind fun y381 => (if y381.length < 8796093022208 then ((tollref01_Same.f kj10 t375 (y381 ++ [t363])).bind fun t387 => (if t387 = true then ((tolllaw05_awake.f kj10).bind fun t388 => (some t388)) else (none))) else (none))) else (none))) = some r := H
        have A27 := Aside0.mk A270
        clear A270
        obtain ⟨y378, hy378⟩ : ∃ y_ : List ByteArray, y_ = (([] : List ByteArray)) := ⟨_, rfl⟩
        replace H : (if y378.length + t364.length < 8796093022208 then ((some (y378 ++ t364 : List ByteArray)).bind fun y381 => (if y381.length < 8796093022208 then ((tollref01_Same.f kj10 t375 (y381 ++ [t363])).bind fun t387 => (if t387 = true then ((tolllaw05_awake.f kj10).bind fun t388 => (some t388)) else (none))) else (none))) else (none)) = some r := by first | (rw [hy378]; with_reducible exact H) | (have H2_ := (Option.bind_some _ _).symm.trans H; rw [hy378]; with_reducible exact H2_) | (have H2_ := (Option.bind_some _ _).symm.trans H; with_reducible exact H2_) | with_reducible exact H | (rw [hy378]; exact H) | exact H
        have Ny378 := Aside0.mk hy378
        clear hy378
        by_cases c28 : y378.length + t364.length < 8796093022208
        · rw [if_pos c28] at H
          have LMc28 := Aside0.mk c28
          clear c28
          obtain ⟨y381, hy381⟩ : ∃ y_ : List ByteArray, y_ = (y378 ++ t364) := ⟨_, rfl⟩
          replace H : (if y381.length < 8796093022208 then ((tollref01_Same.f kj10 t375 (y381 ++ [t363])).bind fun t387 => (if t387 = true then ((tolllaw05_awake.f kj10).bind fun t388 => (some t388)) else (none))) else (none)) = some r := by first | (rw [hy381]; with_reducible exact H) | (have H2_ := (Option.bind_some _ _).symm.trans H; rw [hy381]; with_reducible exact H2_) | (have H2_ := (Option.bind_some _ _).symm.trans H; with_reducible exact H2_) | with_reducible exact H | (rw [hy381]; exact H) | exact H
          have Ny381 := Aside0.mk hy381
          clear hy381
          by_cases c29 : y381.length < 8796093022208
          · rw [if_pos c29] at H
            have LMc29 := Aside0.mk c29
            clear c29
            obtain ⟨y384, hy384⟩ : ∃ y_ : List ByteArray, y_ = (y381 ++ [t363]) := ⟨_, rfl⟩
            replace H : ((tollref01_Same.f kj10 t375 y384).bind fun t387 => (if t387 = true then ((tolllaw05_awake.f kj10).bind fun t388 => (some t388)) else (none))) = some r := by first | (rw [hy384]; with_reducible exact H) | (have H2_ := (Option.bind_some _ _).symm.trans H; rw [hy384]; with_reducible exact H2_) | (have H2_ := (Option.bind_some _ _).symm.trans H; with_reducible exact H2_) | with_reducible exact H | (rw [hy384]; exact H) | exact H
            have Ny384 := Aside0.mk hy384
            clear hy384
            replace H := Option.bind_eq_some_iff.mp H
            obtain ⟨t387, A300, H⟩ := H
            replace H : (if t387 = true then ((tolllaw05_awake.f kj10).bind fun t388 => (some t388)) else (none)) = some r := H
            have A30 := Aside0.mk A300
            clear A300
            by_cases c31 : t387 = true
            · subst c31
              have H1 : ((tolllaw05_awake.f kj10).bind fun t388 => (some t388)) = some r := by rw [if_pos rfl] at H; exact H
              clear H
              have H := H1
              clear H1
              replace H := Option.bind_eq_some_iff.mp H
              obtain ⟨t388, A320, H⟩ := H
              replace H : (some t388) = some r := H
              have A32 := Aside0.mk A320
              clear A320
              obtain rfl := Option.some.inj H
              go_wp2_with (first | ((with_reducible refine gate_callee (f := 22) rfl ?_); refine goesL_ (some 78) rfl rfl Try.func22 (by kernel_rfl) rfl #[.slice Ao17 t367.length co17, .string t362] rfl (by (try simp only [List.map_toArray, List.map_cons, List.map_nil]); first | done | rfl | (simp only [List.length_drop, List.length_take]; rfl)) ?_; (with_reducible refine (pairs_All.calls kj10 _ _ t367 t362 t375 _ ?side1 ?side2 A27.out).mono ?_); (case side1 => repeat (first | exact (Kd.R_reads' HO_8.out).2.2 | (with_reducible refine Kd.C_alloc ?_ _) | (with_reducible refine Kd.C_drewN ?_ _) | (with_reducible refine Kd.C_drew ?_))); (case side2 => exact (Kd.R_reads' HO_8.out).2.1); rintro e w33 ⟨v376, rfl, ho0, hb⟩; refine ⟨_, rfl, ?_⟩; have n0_ := Aside0.mk (Kd.R_elder' (by (with_reducible repeat (first | apply Kd.R_alloc | apply Kd.R_drewN | apply Kd.R_drew)); exact HO_7.out) (Kd.R_base ho0) hb); have n1_ := Aside0.mk (Kd.R_below (by (with_reducible repeat (first | apply Kd.R_alloc | apply Kd.R_drewN | apply Kd.R_drew)); exact HO_8.out) hb); have n2_ := Aside0.mk (Kd.R_lower (Kd.R_new' ho0 (Kd.R_lt (by (with_reducible repeat (first | apply Kd.R_alloc | apply Kd.R_drewN | apply Kd.R_drew)); exact HO_7.out))) (below_size (by repeat (first | (with_reducible first | exact HB.out | apply below_alloc | apply pw_below_drewN | apply below_drew1) | exact HB.out)))); have n3_ := Aside0.mk (below_step (by repeat (first | (with_reducible first | exact HB.out | apply below_alloc | apply pw_below_drewN | apply below_drew1) | exact HB.out)) hb); clear HO_7; clear HO_8; clear HB; have HO_7 := n0_; have HO_8 := n1_; have HO377 := n2_; have HB := n3_; clear n0_ n1_ n2_ n3_; (try clear hb); (try clear hb2); (try clear hk); (try clear hi); (try clear ho0)) | ((with_reducible refine gate_dst (N := 79) rfl ?_); (try (refine gate_guard (by rfl) ?_; dsimp only)); refine Kd.R_lit Kd.string _ 9 ?hg (N := 79) ?hd (xs := ([] : List ByteArray)) (inner := []) (ok := fun _ => True) (okp := fun _ => True) ?hr ?hp (fun _ hk => hk) trivial (Below.refl _ _) (Nat.le_refl _) (by simp) ?_; (case hd => rfl); (case hg => rfl); (case hr => first | (go_simp; done) | (go_simp; rfl)); (case hp => exact (Reps.none _ _)); intro v379 w34 ho35 hb hg_ hnew_; clear hg_ hnew_; (first | rw [← Ny378.out] at ho35 | (simp only [Int.reduceToNat] at ho35; rw [← Ny378.out] at ho35)); have n0_ := Aside0.mk (Kd.R_elder' (by (with_reducible repeat (first | apply Kd.R_alloc | apply Kd.R_drewN | apply Kd.R_drew)); exact HO_7.out) (Kd.R_base ho35) hb); have n1_ := Aside0.mk (Kd.R_below (by (with_reducible repeat (first | apply Kd.R_alloc | apply Kd.R_drewN | apply Kd.R_drew)); exact HO_8.out) hb); have n2_ := Aside0.mk (Kd.R_elder' (by (with_reducible repeat (first | apply Kd.R_alloc | apply Kd.R_drewN | apply Kd.R_drew)); exact HO377.out) (Kd.R_base ho35) hb); have n3_ := Aside0.mk (Kd.R_lower (Kd.R_new' (Kd.R_new' ho35 (Kd.R_lt (by (with_reducible repeat (first | apply Kd.R_alloc | apply Kd.R_drewN | apply Kd.R_drew)); exact HO_7.out))) (Kd.R_lt (by (with_reducible repeat (first | apply Kd.R_alloc | apply Kd.R_drewN | apply Kd.R_drew)); exact HO377.out))) (below_size (by repeat (first | (with_reducible first | exact HB.out | apply below_alloc | apply pw_below_drewN | apply below_drew1) | exact HB.out)))); have n4_ := Aside0.mk (below_step (by repeat (first | (with_reducible first | exact HB.out | apply below_alloc | apply pw_below_drewN | apply below_drew1) | exact HB.out)) hb); clear HO_7; clear HO_8; clear HO377; clear HB; have HO_7 := n0_; have HO_8 := n1_; have HO377 := n2_; have HO380 := n3_; have HB := n4_; clear n0_ n1_ n2_ n3_ n4_; clear hb ho35; obtain ⟨Ao37, co37, eo37⟩ := Kd.R_slice HO_7.out; subst eo37) | ((with_reducible refine gate_builtin (b := .append) (xs := #[.tmp 79, .tmp 80]) rfl ?_); (try (refine gate_guard (by rfl) ?_; dsimp only)); at_builtin; refine Kd.R_append_rows Kd.string (w0 := w) w.heap.size rfl (.tmp 79) (.tmp 80) 41 9 (.string ⟨#[]⟩) 16 rfl Try.underlying41 info9 rfl (by decide) (by omega) v379 y378 t364 _ _ _ (fun k_ => some k_ ≠ (.slice Ao37 t364.length co37 : Value).ownBlock ∧ some k_ ≠ (v376 : Value).ownBlock) (fun _ => False) rfl rfl ?aO ?aR (fun _ _ h => h) (fun _ h => h.elim) ?aF ?aB ?aS ?aL ?_; (case aR => repeat (first | exact (Kd.R_reads' HO_7.out).2.2 | (with_reducible refine Kd.C_alloc ?_ _) | (with_reducible refine Kd.C_drewN ?_ _) | (with_reducible refine Kd.C_drew ?_))); (case aB => exact (by repeat (first | (with_reducible first | exact HB.out | apply below_alloc | apply pw_below_drewN | apply below_drew1) | exact HB.out))); (case aF => exact (fun k_ hk => ⟨Kd.fresh' (Kd.R_lt (by (with_reducible repeat (first | apply Kd.R_alloc | apply Kd.R_drewN | apply Kd.R_drew)); exact HO_7.out)) k_ hk, Kd.fresh' (Kd.R_lt (by (with_reducible repeat (first | apply Kd.R_alloc | apply Kd.R_drewN | apply Kd.R_drew)); exact HO377.out)) k_ hk⟩)); (case aO => exact (by (with_reducible repeat (first | apply Kd.R_alloc | apply Kd.R_drewN | apply Kd.R_drew)); exact Kd.R_mono HO380.out (fun _ hk => ⟨hk.1.2, hk.2⟩))); (case aS => exact (below_size (by repeat (first | (with_reducible first | exact HB.out | apply below_alloc | apply pw_below_drewN | apply below_drew1) | exact HB.out)))); (case aL => have := LMc28.out; omega); intro v382 w36 ho hb hg hat; rw [← Ny381.out] at ho; have n0_ := Aside0.mk (Kd.R_after (ok := (fun k_ => some k_ ≠ (v376 : Value).ownBlock)) (by (with_reducible repeat (first | apply Kd.R_alloc | apply Kd.R_drewN | apply Kd.R_drew)); exact Kd.R_mono HO_7.out (fun _ hk => ⟨hk.1.2, hk.2⟩)) hg hat); have n1_ := Aside0.mk (Kd.R_over' (by (with_reducible repeat (first | apply Kd.R_alloc | apply Kd.R_drewN | apply Kd.R_drew)); exact HO_8.out) (Kd.R_typed (by (with_reducible repeat (first | apply Kd.R_alloc | apply Kd.R_drewN | apply Kd.R_drew)); exact HO380.out)) (by decide) hg); have n2_ := Aside0.mk (Kd.R_after (ok := (fun k_ => some k_ ≠ (.slice Ao37 t364.length co37 : Value).ownBlock)) (by (with_reducible repeat (first | apply Kd.R_alloc | apply Kd.R_drewN | apply Kd.R_drew)); exact Kd.R_mono HO377.out (fun _ hk => ⟨hk.1.2, hk.2⟩)) hg hat); have n3_ := Aside0.mk (hb); have n4_ := Aside0.mk (ho); clear HO_7; clear HO_8; clear HO377; clear HB; clear HO380; have HO_7 := n0_; have HO_8 := n1_; have HO377 := n2_; have HB := n3_; have HO383 := n4_; clear n0_ n1_ n2_ n3_ n4_; clear ho hb hg hat) | ((with_reducible refine gate_builtin (b := .append) (xs := #[.tmp 81, .tmp 83]) rfl ?_); (try (refine gate_guard (by rfl) ?_; dsimp only)); at_builtin; refine Kd.R_append Kd.string (w0 := w) w.heap.size rfl (.tmp 81) (.tmp 83) 41 9 (.string ⟨#[]⟩) 16 rfl Try.underlying41 info9 rfl (by decide) (by omega) v382 y381 t363 [.string t363] (fun k_ => some k_ ≠ (.slice Ao37 t364.length co37 : Value).ownBlock ∧ some k_ ≠ (v376 : Value).ownBlock) (fun _ => False) rfl rfl ?aP (fun _ hk => hk.elim) ?aF ?aO ?aB ?aS ?aL ?_; (case aP => exact rfl); (case aB => exact (by repeat (first | (with_reducible first | exact HB.out | apply below_alloc | apply pw_below_drewN | apply below_drew1) | exact HB.out))); (case aF => exact (fun k_ hk => ⟨Kd.fresh' (Kd.R_lt (by (with_reducible repeat (first | apply Kd.R_alloc | apply Kd.R_drewN | apply Kd.R_drew)); exact HO_7.out)) k_ hk, Kd.fresh' (Kd.R_lt (by (with_reducible repeat (first | apply Kd.R_alloc | apply Kd.R_drewN | apply Kd.R_drew)); exact HO377.out)) k_ hk⟩)); (case aO => exact (by (with_reducible repeat (first | apply Kd.R_alloc | apply Kd.R_drewN | apply Kd.R_drew)); exact HO383.out)); (case aS => exact (below_size (by repeat (first | (with_reducible first | exact HB.out | apply below_alloc | apply pw_below_drewN | apply below_drew1) | exact HB.out)))); (case aL => have := LMc29.out; omega); intro v385 w38 ho hb hg hat; rw [← Ny384.out] at ho; have n0_ := Aside0.mk (Kd.R_after (ok := (fun k_ => some k_ ≠ (v376 : Value).ownBlock)) (by (with_reducible repeat (first | apply Kd.R_alloc | apply Kd.R_drewN | apply Kd.R_drew)); exact HO_7.out) hg hat); have n1_ := Aside0.mk (Kd.R_over' (by (with_reducible repeat (first | apply Kd.R_alloc | apply Kd.R_drewN | apply Kd.R_drew)); exact HO_8.out) (Kd.R_typed (by (with_reducible repeat (first | apply Kd.R_alloc | apply Kd.R_drewN | apply Kd.R_drew)); exact HO383.out)) (by decide) hg); have n2_ := Aside0.mk (Kd.R_after (ok := (fun k_ => some k_ ≠ (.slice Ao37 t364.length co37 : Value).ownBlock)) (by (with_reducible repeat (first | apply Kd.R_alloc | apply Kd.R_drewN | apply Kd.R_drew)); exact HO377.out) hg hat); have n3_ := Aside0.mk (hb); have n4_ := Aside0.mk (ho); clear HO_7; clear HO_8; clear HO377; clear HB; clear HO383; have HO_7 := n0_; have HO_8 := n1_; have HO377 := n2_; have HB := n3_; have HO386 := n4_; clear n0_ n1_ n2_ n3_ n4_; clear ho hb hg hat; obtain ⟨Ao39, co39, eo39⟩ := Kd.R_slice HO377.out; subst eo39; obtain ⟨Ao40, co40, eo40⟩ := Kd.R_slice HO386.out; subst eo40) | ((with_reducible refine gate_callee (f := 23) rfl ?_); refine goesL_ (some 85) rfl rfl Try.func23 (by kernel_rfl) rfl #[.slice Ao39 t375.length co39, .slice Ao40 y384.length co40] rfl (by (try simp only [List.map_toArray, List.map_cons, List.map_nil]); first | done | rfl | (simp only [List.length_drop, List.length_take]; rfl)) ?_; (with_reducible refine (tollref01_Same.calls kj10 _ _ t375 _ _ y384 true _ ?side1 ?side2 ?side3 ?side4 A30.out).mono ?_); (case side1 => repeat (first | exact (Kd.R_reads' HO377.out).2.2 | (with_reducible refine Kd.C_alloc ?_ _) | (with_reducible refine Kd.C_drewN ?_ _) | (with_reducible refine Kd.C_drew ?_))); (case side2 => exact (Kd.R_reads' HO377.out).2.1); (case side3 => repeat (first | exact (Kd.R_reads' HO386.out).2.2 | (with_reducible refine Kd.C_alloc ?_ _) | (with_reducible refine Kd.C_drewN ?_ _) | (with_reducible refine Kd.C_drew ?_))); (case side4 => exact (Kd.R_reads' HO386.out).2.1); rintro e w' ⟨rfl, ⟨nd, rfl⟩⟩; refine ⟨_, rfl, ?_⟩) | (go_at_call 17; (with_reducible refine (tolllaw05_awake.calls kj10  t388 _ A32.out).mono ?_); rintro e w41 ⟨rfl, hb⟩; have n0_ := Aside0.mk (Kd.R_below (by (with_reducible repeat (first | apply Kd.R_alloc | apply Kd.R_drewN | apply Kd.R_drew)); exact HO_7.out) hb); have n1_ := Aside0.mk (Kd.R_below (by (with_reducible repeat (first | apply Kd.R_alloc | apply Kd.R_drewN | apply Kd.R_drew)); exact HO_8.out) hb); have n2_ := Aside0.mk (Kd.R_below (by (with_reducible repeat (first | apply Kd.R_alloc | apply Kd.R_drewN | apply Kd.R_drew)); exact HO377.out) hb); have n3_ := Aside0.mk (Kd.R_below (by (with_reducible repeat (first | apply Kd.R_alloc | apply Kd.R_drewN | apply Kd.R_drew)); exact HO386.out) hb); have n4_ := Aside0.mk (below_step (by repeat (first | (with_reducible first | exact HB.out | apply below_alloc | apply pw_below_drewN | apply below_drew1) | exact HB.out)) hb); clear HO_7; clear HO_8; clear HO377; clear HO386; clear HB; have HO_7 := n0_; have HO_8 := n1_; have HO377 := n2_; have HO386 := n3_; have HB := n4_; clear n0_ n1_ n2_ n3_ n4_; (try clear hb); (try clear hb2); (try clear hk); (try clear hi)))
              go_ret
              exact ⟨by first | rfl | (simp [errW_none, errW_some] <;> rfl) | (simp [*, errW_none, errW_some] <;> rfl), by repeat (first | (with_reducible first | exact HB.out | apply below_alloc | apply pw_below_drewN | apply below_drew1) | exact HB.out)⟩
            · replace c31 := Bool.eq_false_iff.mpr c31
              subst c31
              have H1 : (none) = some r := by rw [if_neg (show ¬ (false = true) by decide)] at H; exact H
              clear H
              have H := H1
              clear H1
              exact absurd H (by simp)
          · rw [if_neg c29] at H
            exact absurd H (by simp)
        · rw [if_neg c28] at H
          exact absurd H (by simp)

/-- THE ONE PURE STATEMENT of tolllaw05_PairsAdds. -/
def tolllaw05_PairsAdds.Pure : Prop := ∀ (l0 : List (S29)) (a1 : ByteArray) (a2 : ByteArray), (l0.length ≤ maxLen ∧ l0.length * 32 ≤ 140737488351232 ∧ ∀ y ∈ l0, (y.f0.size ≤ 140737488351232) ∧ (y.f1.size ≤ 140737488351232)) → (a1.size ≤ 140737488351232) → (a2.size ≤ 140737488351232) → ∃ k, tolllaw05_PairsAdds.f k l0 a1 a2 = some true

end Go.Proofs.Ytnldeohdojemlaa.P
