-- written by wip/tool/hprint.py of this repo: the kit's print, with contracts by hand joined; Lean checks it.
import Derived.Test.YtpmllmfamjpinaaGreatDoorPx0
import Derived.Test.YtpmllmfamjpinaaGreatDoorPx2
import Derived.Test.YtpmllmfamjpinaaGreatDoorPx3
import Derived.Test.YtpmllmfamjpinaaGreatDoorPx6
import Derived.Test.YtpmllmfamjpinaaGreatDoorPx7
import Derived.Test.YtpmllmfamjpinaaGreatDoorPx8
namespace Go.Proofs.YtpmllmfamjpinaaGreatDoor.P
open Go.RowKit Go.Proofs.YtpmllmfamjpinaaGreatDoorW.PrintWords Go.Proofs.YtpmllmfamjpinaaGreatDoorW.PrintLast Go.Proofs.YtpmllmfamjpinaaGreatDoorW.PrintMore
attribute [local go_sem] max2_int min2_int max_two min_two max_three min_three max_four min_four   -- for this text's walks alone
set_option linter.unusedVariables false
set_option linter.unusedSimpArgs false

/-! ### tollref18_Lay: function 7 -/
mutual
def tollref18_Lay.j0 : Nat → Bool → ByteArray → ByteArray → ByteArray → List (S51) → List (S51) → Option (ByteArray × Int)
 | 0, _, _, _, _, _, _ => none
 | k + 1, x45, x226000, x226001, x226002, x226003, x226004 => if x45 = true then (some ((⟨#[]⟩ : ByteArray), 1)) else (if x226000.size + 1 ≤ 9223372036854775807 then (if (x226000 ++ (⟨#[32]⟩ : ByteArray)).size + x226002.size ≤ 9223372036854775807 then (if (x226003.length : Int) > 0 then ((tollref04_Text.f k x226003).bind fun t231 => (if 1 + t231.size ≤ 9223372036854775807 then (if ((x226000 ++ (⟨#[32]⟩ : ByteArray)) ++ x226002).size + ((⟨#[63]⟩ : ByteArray) ++ t231).size ≤ 9223372036854775807 then (tollref18_Lay.j1 k (((x226000 ++ (⟨#[32]⟩ : ByteArray)) ++ x226002) ++ ((⟨#[63]⟩ : ByteArray) ++ t231)) x226000 x226001 x226002 x226003 x226004) else (none)) else (none))) else (tollref18_Lay.j1 k ((x226000 ++ (⟨#[32]⟩ : ByteArray)) ++ x226002) x226000 x226001 x226002 x226003 x226004)) else (none)) else (none))
def tollref18_Lay.j1 : Nat → ByteArray → ByteArray → ByteArray → ByteArray → List (S51) → List (S51) → Option (ByteArray × Int)
 | 0, _, _, _, _, _, _ => none
 | k + 1, x6, x226000, x226001, x226002, x226003, x226004 => if x6.size + 11 ≤ 9223372036854775807 then (tollref18_Lay.l0 k (x6 ++ (⟨#[32, 72, 84, 84, 80, 47, 49, 46, 49, 13, 10]⟩ : ByteArray)) 0 x226000 x226001 x226002 x226003 x226004) else (none)
def tollref18_Lay.l0 : Nat → ByteArray → Int → ByteArray → ByteArray → ByteArray → List (S51) → List (S51) → Option (ByteArray × Int)
 | 0, _, _, _, _, _, _, _ => none
 | k + 1, x6, x7, x226000, x226001, x226002, x226003, x226004 => if x7 < (x226004.length : Int) then (if 0 ≤ x7 then ((tollref05_Token.f k ((rd_T51 x226004 x7).f0)).bind fun t233 => (if t233 = true then ((tollref05_Value.f k ((rd_T51 x226004 x7).f1)).bind fun t235 => (if t235 = true then (if ((rd_T51 x226004 x7).f0).size + 2 ≤ 9223372036854775807 then (if (((rd_T51 x226004 x7).f0) ++ (⟨#[58, 32]⟩ : ByteArray)).size + ((rd_T51 x226004 x7).f1).size ≤ 9223372036854775807 then (if ((((rd_T51 x226004 x7).f0) ++ (⟨#[58, 32]⟩ : ByteArray)) ++ ((rd_T51 x226004 x7).f1)).size + 2 ≤ 9223372036854775807 then (if x6.size + (((((rd_T51 x226004 x7).f0) ++ (⟨#[58, 32]⟩ : ByteArray)) ++ ((rd_T51 x226004 x7).f1)) ++ (⟨#[13, 10]⟩ : ByteArray)).size ≤ 9223372036854775807 then (tollref18_Lay.l0 k (x6 ++ (((((rd_T51 x226004 x7).f0) ++ (⟨#[58, 32]⟩ : ByteArray)) ++ ((rd_T51 x226004 x7).f1)) ++ (⟨#[13, 10]⟩ : ByteArray))) (wrap64 (x7 + 1)) x226000 x226001 x226002 x226003 x226004) else (none)) else (none)) else (none)) else (none)) else (some ((⟨#[]⟩ : ByteArray), 1)))) else (some ((⟨#[]⟩ : ByteArray), 1)))) else (none)) else (if x6.size + 2 ≤ 9223372036854775807 then (if ((x6 ++ (⟨#[13, 10]⟩ : ByteArray)).size : Int) > 1000 then (some ((⟨#[]⟩ : ByteArray), 5)) else (some (x6 ++ (⟨#[13, 10]⟩ : ByteArray), 0))) else (none))
end
def tollref18_Lay.f (k : Nat) (a0_0 : ByteArray) (a0_1 : ByteArray) (a0_2 : ByteArray) (l0_3 : List (S51)) (l0_4 : List (S51)) : Option (ByteArray × Int) := (tollref18_Host.f k l0_4).bind fun bt226 => (if bt226.2 = true then (if bt226.1.toList = a0_1.toList then ((tollref06_Method.f k a0_0).bind fun t228 => (if t228 = true then ((tollref03_Is.f k a0_2).bind fun t229 => (if t229 = true then ((tollref04_May.f k l0_3).bind fun t230 => (if t230 = true then (tollref18_Lay.j0 k (decide ((l0_4.length : Int) > 30)) a0_0 a0_1 a0_2 l0_3 l0_4) else (tollref18_Lay.j0 k true a0_0 a0_1 a0_2 l0_3 l0_4))) else (tollref18_Lay.j0 k true a0_0 a0_1 a0_2 l0_3 l0_4))) else (tollref18_Lay.j0 k true a0_0 a0_1 a0_2 l0_3 l0_4))) else (tollref18_Lay.j0 k true a0_0 a0_1 a0_2 l0_3 l0_4)) else (tollref18_Lay.j0 k true a0_0 a0_1 a0_2 l0_3 l0_4))
theorem tollref18_Lay.mono_l : ∀ k, (∀ y0 y1 y2 y3 y4 y5, LeO (tollref18_Lay.j0 k y0 y1 y2 y3 y4 y5) (tollref18_Lay.j0 (k + 1) y0 y1 y2 y3 y4 y5)) ∧ (∀ y0 y1 y2 y3 y4 y5, LeO (tollref18_Lay.j1 k y0 y1 y2 y3 y4 y5) (tollref18_Lay.j1 (k + 1) y0 y1 y2 y3 y4 y5)) ∧ (∀ y0 y1 y2 y3 y4 y5 y6, LeO (tollref18_Lay.l0 k y0 y1 y2 y3 y4 y5 y6) (tollref18_Lay.l0 (k + 1) y0 y1 y2 y3 y4 y5 y6))
 | 0 => ⟨fun _ _ _ _ _ _ r h => by simp [tollref18_Lay.j0] at h, fun _ _ _ _ _ _ r h => by simp [tollref18_Lay.j1] at h, fun _ _ _ _ _ _ _ r h => by simp [tollref18_Lay.l0] at h⟩
 | k + 1 => by
  obtain ⟨ih0, ih1, ih2⟩ := tollref18_Lay.mono_l k
  refine ⟨?_, ?_, ?_⟩
  ·intro y0 y1 y2 y3 y4 y5
   unfold tollref18_Lay.j0
   repeat' first
   | (with_reducible exact ih0 _ _ _ _ _ _)
   | (with_reducible exact ih1 _ _ _ _ _ _)
   | (with_reducible exact ih2 _ _ _ _ _ _ _)
   | (with_reducible exact tollref03_Is.mono _ _)
   | (with_reducible exact tollref04_May.mono _ _)
   | (with_reducible exact tollref04_Text.mono _ _)
   | (with_reducible exact tollref05_Token.mono _ _)
   | (with_reducible exact tollref05_Value.mono _ _)
   | (with_reducible exact tollref06_Method.mono _ _)
   | (with_reducible exact tollref18_Host.mono _ _)
   | (with_reducible exact LeO.refl _)
   | (with_reducible exact LeO.none _)
   | (with_reducible refine LeO.ite ?_ ?_)
   | (with_reducible refine LeO.bind ?_ (fun _ => ?_))
   | exact ih0 _ _ _ _ _ _
   | exact ih1 _ _ _ _ _ _
   | exact ih2 _ _ _ _ _ _ _
   | exact tollref03_Is.mono _ _
   | exact tollref04_May.mono _ _
   | exact tollref04_Text.mono _ _
   | exact tollref05_Token.mono _ _
   | exact tollref05_Value.mono _ _
   | exact tollref06_Method.mono _ _
   | exact tollref18_Host.mono _ _
   | exact LeO.none _
   | refine LeO.ite ?_ ?_
   | refine LeO.bind ?_ (fun _ => ?_)
  ·intro y0 y1 y2 y3 y4 y5
   unfold tollref18_Lay.j1
   repeat' first
   | (with_reducible exact ih0 _ _ _ _ _ _)
   | (with_reducible exact ih1 _ _ _ _ _ _)
   | (with_reducible exact ih2 _ _ _ _ _ _ _)
   | (with_reducible exact tollref03_Is.mono _ _)
   | (with_reducible exact tollref04_May.mono _ _)
   | (with_reducible exact tollref04_Text.mono _ _)
   | (with_reducible exact tollref05_Token.mono _ _)
   | (with_reducible exact tollref05_Value.mono _ _)
   | (with_reducible exact tollref06_Method.mono _ _)
   | (with_reducible exact tollref18_Host.mono _ _)
   | (with_reducible exact LeO.refl _)
   | (with_reducible exact LeO.none _)
   | (with_reducible refine LeO.ite ?_ ?_)
   | (with_reducible refine LeO.bind ?_ (fun _ => ?_))
   | exact ih0 _ _ _ _ _ _
   | exact ih1 _ _ _ _ _ _
   | exact ih2 _ _ _ _ _ _ _
   | exact tollref03_Is.mono _ _
   | exact tollref04_May.mono _ _
   | exact tollref04_Text.mono _ _
   | exact tollref05_Token.mono _ _
   | exact tollref05_Value.mono _ _
   | exact tollref06_Method.mono _ _
   | exact tollref18_Host.mono _ _
   | exact LeO.none _
   | refine LeO.ite ?_ ?_
   | refine LeO.bind ?_ (fun _ => ?_)
  ·intro y0 y1 y2 y3 y4 y5 y6
   unfold tollref18_Lay.l0
   repeat' first
   | (with_reducible exact ih0 _ _ _ _ _ _)
   | (with_reducible exact ih1 _ _ _ _ _ _)
   | (with_reducible exact ih2 _ _ _ _ _ _ _)
   | (with_reducible exact tollref03_Is.mono _ _)
   | (with_reducible exact tollref04_May.mono _ _)
   | (with_reducible exact tollref04_Text.mono _ _)
   | (with_reducible exact tollref05_Token.mono _ _)
   | (with_reducible exact tollref05_Value.mono _ _)
   | (with_reducible exact tollref06_Method.mono _ _)
   | (with_reducible exact tollref18_Host.mono _ _)
   | (with_reducible exact LeO.refl _)
   | (with_reducible exact LeO.none _)
   | (with_reducible refine LeO.ite ?_ ?_)
   | (with_reducible refine LeO.bind ?_ (fun _ => ?_))
   | exact ih0 _ _ _ _ _ _
   | exact ih1 _ _ _ _ _ _
   | exact ih2 _ _ _ _ _ _ _
   | exact tollref03_Is.mono _ _
   | exact tollref04_May.mono _ _
   | exact tollref04_Text.mono _ _
   | exact tollref05_Token.mono _ _
   | exact tollref05_Value.mono _ _
   | exact tollref06_Method.mono _ _
   | exact tollref18_Host.mono _ _
   | exact LeO.none _
   | refine LeO.ite ?_ ?_
   | refine LeO.bind ?_ (fun _ => ?_)
theorem tollref18_Lay.mono : ∀ a0 a1 a2 a3 a4 k, LeO (tollref18_Lay.f k a0 a1 a2 a3 a4) (tollref18_Lay.f (k + 1) a0 a1 a2 a3 a4) := by
 intro a0 a1 a2 a3 a4 k
 obtain ⟨ih0, ih1, ih2⟩ := tollref18_Lay.mono_l k
 unfold tollref18_Lay.f
 repeat' first
   | (with_reducible exact ih0 _ _ _ _ _ _)
   | (with_reducible exact ih1 _ _ _ _ _ _)
   | (with_reducible exact ih2 _ _ _ _ _ _ _)
   | (with_reducible exact tollref03_Is.mono _ _)
   | (with_reducible exact tollref04_May.mono _ _)
   | (with_reducible exact tollref04_Text.mono _ _)
   | (with_reducible exact tollref05_Token.mono _ _)
   | (with_reducible exact tollref05_Value.mono _ _)
   | (with_reducible exact tollref06_Method.mono _ _)
   | (with_reducible exact tollref18_Host.mono _ _)
   | (with_reducible exact LeO.refl _)
   | (with_reducible exact LeO.none _)
   | (with_reducible refine LeO.ite ?_ ?_)
   | (with_reducible refine LeO.bind ?_ (fun _ => ?_))
   | exact ih0 _ _ _ _ _ _
   | exact ih1 _ _ _ _ _ _
   | exact ih2 _ _ _ _ _ _ _
   | exact tollref03_Is.mono _ _
   | exact tollref04_May.mono _ _
   | exact tollref04_Text.mono _ _
   | exact tollref05_Token.mono _ _
   | exact tollref05_Value.mono _ _
   | exact tollref06_Method.mono _ _
   | exact tollref18_Host.mono _ _
   | exact LeO.none _
   | refine LeO.ite ?_ ?_
   | refine LeO.bind ?_ (fun _ => ?_)
set_option maxHeartbeats 6000000 in
set_option maxRecDepth 100000 in
theorem tollref18_Lay.calls (k : Nat) (a0_0 : ByteArray) (a0_1 : ByteArray) (a0_2 : ByteArray) (pm : Option Addr) (c0_3 : Nat) (l0_3 : List (S51)) (pn : Option Addr) (c0_4 : Nat) (l0_4 : List (S51)) (r1 : ByteArray) (r2 : Int) (w : World) (hr0_3 : Kd.C k51 w pm l0_3.length l0_3) (hc0_3 : l0_3.length ≤ c0_3) (hr0_4 : Kd.C k51 w pn l0_4.length l0_4) (hc0_4 : l0_4.length ≤ c0_4) (h : tollref18_Lay.f k a0_0 a0_1 a0_2 l0_3 l0_4 = some (r1, r2)) :
  Calls Tryz.prog 7 #[.agg #[.string a0_0, .string a0_1, .string a0_2, .slice pm l0_3.length c0_3, .slice pn l0_4.length c0_4]] w fun e w' => e = .returned (.tuple #[.string r1, .int .i64 r2]) ∧ Below w.heap.size w w' := by
 have hu24 := Tryz.underlying24;have pk := Aside0.mk hr0_3;have pl := Aside0.mk hc0_3;clear hr0_3 hc0_3;have pc := Aside0.mk hr0_4;have pw := Aside0.mk hc0_4;clear hr0_4 hc0_4;have HB := am_ (Below.refl w.heap.size w);have H : ((tollref18_Host.f k l0_4).bind fun bt226 => (if bt226.2 = true then (if bt226.1.toList = a0_1.toList then ((tollref06_Method.f k a0_0).bind fun po => (if po = true then ((tollref03_Is.f k a0_2).bind fun pg => (if pg = true then ((tollref04_May.f k l0_3).bind fun pe => (if pe = true then (tollref18_Lay.j0 k (decide ((l0_4.length : Int) > 30)) a0_0 a0_1 a0_2 l0_3 l0_4) else (tollref18_Lay.j0 k true a0_0 a0_1 a0_2 l0_3 l0_4))) else (tollref18_Lay.j0 k true a0_0 a0_1 a0_2 l0_3 l0_4))) else (tollref18_Lay.j0 k true a0_0 a0_1 a0_2 l0_3 l0_4))) else (tollref18_Lay.j0 k true a0_0 a0_1 a0_2 l0_3 l0_4)) else (tollref18_Lay.j0 k true a0_0 a0_1 a0_2 l0_3 l0_4))) = some (r1, r2) := h;clear h;replace H := Option.bind_eq_some_iff.mp H;obtain ⟨⟨pj, pt⟩, A20, H⟩ := H;replace H : (if pt = true then (if pj.toList = a0_1.toList then ((tollref06_Method.f k a0_0).bind fun po => (if po = true then ((tollref03_Is.f k a0_2).bind fun pg => (if pg = true then ((tollref04_May.f k l0_3).bind fun pe => (if pe = true then (tollref18_Lay.j0 k (decide ((l0_4.length : Int) > 30)) a0_0 a0_1 a0_2 l0_3 l0_4) else (tollref18_Lay.j0 k true a0_0 a0_1 a0_2 l0_3 l0_4))) else (tollref18_Lay.j0 k true a0_0 a0_1 a0_2 l0_3 l0_4))) else (tollref18_Lay.j0 k true a0_0 a0_1 a0_2 l0_3 l0_4))) else (tollref18_Lay.j0 k true a0_0 a0_1 a0_2 l0_3 l0_4)) else (tollref18_Lay.j0 k true a0_0 a0_1 a0_2 l0_3 l0_4)) = some (r1, r2) := H;have A2 := Aside0.mk A20;clear A20;have HC3 := Aside0.mk H;clear H;go_enter Tryz.func7, Tryz.ntmps7
 go_upto_region 2 with (first | ((with_reducible refine gate_dst (N := 1) rfl ?_); (try (refine gate_guard (by rfl) ?_; dsimp only)); refine box_event ?hg (N := 1) ?hd (cs := #[.string a0_0, .string a0_1, .string a0_2, .slice pm l0_3.length c0_3, .slice pn l0_4.length c0_4]) (t := 24) ?hr ?_; (case hd => rfl); (case hg => rfl); (case hr => first | (go_simp; done) | (go_simp; rfl)); intro ph hg w4 hbox hb; have n0_ := am_ (below_step (bel_ HB.out) hb); have n1_ := am_ (hbox); have n2_ := am_ ((by rw [hg]; exact (below_size (bel_ HB.out)) : w.heap.size ≤ ph)); have n3_ := am_ ((by rw [hg]; exact (below_size (bel_ HB.out)) : w.heap.size ≤ ph)); clear HB; have HB := n0_; have pa := n1_; have GW225 := n2_; have GE225 := n3_; clear n0_ n1_ n2_ n3_ hb hbox hg; obtain ⟨hcz5_0, hcz5_1, hcz5_2, hcz5_3, hcz5_4, hfz5_0, hfz5_1, hfz5_2, hfz5_3, hfz5_4⟩ := blk5 pa.out) | (go_at_call 22; (with_reducible refine (tollref18_Host.calls k _ _ l0_4 pj pt _ ?side1 ?side2 A2.out).mono ?_); (case side1 => exact C_ (Kd.C_below pc.out HB.out)); (case side2 => exact pw.out); rintro e w6 ⟨rfl, hb⟩; have n0_ := am_ (blk_below pa.out hb); have n1_ := am_ (below_step (bel_ HB.out) hb); clear pa HB; have pa := n0_; have HB := n1_; clear n0_ n1_; (try clear hb); (try clear hb2); (try clear hk); (try clear hi)))
 repeat (go_quiet (first | ((with_reducible refine gate_dst (N := 1) rfl ?_); (try (refine gate_guard (by rfl) ?_; dsimp only)); refine box_event ?hg (N := 1) ?hd (cs := #[.string a0_0, .string a0_1, .string a0_2, .slice pm l0_3.length c0_3, .slice pn l0_4.length c0_4]) (t := 24) ?hr ?_; (case hd => rfl); (case hg => rfl); (case hr => first | (go_simp; done) | (go_simp; rfl)); intro ph hg w4 hbox hb; have n0_ := am_ (below_step (bel_ HB.out) hb); have n1_ := am_ (hbox); have n2_ := am_ ((by rw [hg]; exact (below_size (bel_ HB.out)) : w.heap.size ≤ ph)); have n3_ := am_ ((by rw [hg]; exact (below_size (bel_ HB.out)) : w.heap.size ≤ ph)); clear HB; have HB := n0_; have pa := n1_; have GW225 := n2_; have GE225 := n3_; clear n0_ n1_ n2_ n3_ hb hbox hg; obtain ⟨hcz5_0, hcz5_1, hcz5_2, hcz5_3, hcz5_4, hfz5_0, hfz5_1, hfz5_2, hfz5_3, hfz5_4⟩ := blk5 pa.out) | (go_at_call 22; (with_reducible refine (tollref18_Host.calls k _ _ l0_4 pj pt _ ?side1 ?side2 A2.out).mono ?_); (case side1 => exact C_ (Kd.C_below pc.out HB.out)); (case side2 => exact pw.out); rintro e w6 ⟨rfl, hb⟩; have n0_ := am_ (blk_below pa.out hb); have n1_ := am_ (below_step (bel_ HB.out) hb); clear pa HB; have pa := n0_; have HB := n1_; clear n0_ n1_; (try clear hb); (try clear hb2); (try clear hk); (try clear hi))); go_upto_region 2 with (first | ((with_reducible refine gate_dst (N := 1) rfl ?_); (try (refine gate_guard (by rfl) ?_; dsimp only)); refine box_event ?hg (N := 1) ?hd (cs := #[.string a0_0, .string a0_1, .string a0_2, .slice pm l0_3.length c0_3, .slice pn l0_4.length c0_4]) (t := 24) ?hr ?_; (case hd => rfl); (case hg => rfl); (case hr => first | (go_simp; done) | (go_simp; rfl)); intro ph hg w4 hbox hb; have n0_ := am_ (below_step (bel_ HB.out) hb); have n1_ := am_ (hbox); have n2_ := am_ ((by rw [hg]; exact (below_size (bel_ HB.out)) : w.heap.size ≤ ph)); have n3_ := am_ ((by rw [hg]; exact (below_size (bel_ HB.out)) : w.heap.size ≤ ph)); clear HB; have HB := n0_; have pa := n1_; have GW225 := n2_; have GE225 := n3_; clear n0_ n1_ n2_ n3_ hb hbox hg; obtain ⟨hcz5_0, hcz5_1, hcz5_2, hcz5_3, hcz5_4, hfz5_0, hfz5_1, hfz5_2, hfz5_3, hfz5_4⟩ := blk5 pa.out) | (go_at_call 22; (with_reducible refine (tollref18_Host.calls k _ _ l0_4 pj pt _ ?side1 ?side2 A2.out).mono ?_); (case side1 => exact C_ (Kd.C_below pc.out HB.out)); (case side2 => exact pw.out); rintro e w6 ⟨rfl, hb⟩; have n0_ := am_ (blk_below pa.out hb); have n1_ := am_ (below_step (bel_ HB.out) hb); clear pa HB; have pa := n0_; have HB := n1_; clear n0_ n1_; (try clear hb); (try clear hb2); (try clear hk); (try clear hi))))
 (try simp only [Act.put, List.setIfInBounds_toArray, List.set_cons_zero, List.set_cons_succ]);go_cut [45] (fun pC wc => ∃ (kq : Nat) (x45_2 : Bool), pC = .bool x45_2 ∧ Aside0 (tollref18_Lay.j0 kq x45_2 a0_0 a0_1 a0_2 l0_3 l0_4 = some (r1, r2)) ∧ Aside0 (kq ≤ k) ∧ Aside0 (wc.heap[ph]? = some (.cells #[.string a0_0, .string a0_1, .string a0_2, (.slice pm l0_3.length c0_3), (.slice pn l0_4.length c0_4)] 24 (0, 0))) ∧ Aside0 (Below w.heap.size w wc))
 case first =>
  have H := HC3.out;clear HC3;by_cases c7 : pt = true
  ·subst c7
   have H1 : (if pj.toList = a0_1.toList then ((tollref06_Method.f k a0_0).bind fun po => (if po = true then ((tollref03_Is.f k a0_2).bind fun pg => (if pg = true then ((tollref04_May.f k l0_3).bind fun pe => (if pe = true then (tollref18_Lay.j0 k (decide ((l0_4.length : Int) > 30)) a0_0 a0_1 a0_2 l0_3 l0_4) else (tollref18_Lay.j0 k true a0_0 a0_1 a0_2 l0_3 l0_4))) else (tollref18_Lay.j0 k true a0_0 a0_1 a0_2 l0_3 l0_4))) else (tollref18_Lay.j0 k true a0_0 a0_1 a0_2 l0_3 l0_4))) else (tollref18_Lay.j0 k true a0_0 a0_1 a0_2 l0_3 l0_4)) = some (r1, r2) := by rw [if_pos rfl] at H; exact H
   clear H;have H := H1;clear H1;by_cases c8 : pj.toList = a0_1.toList
   ·rw [if_pos c8] at H
    have c8b0 : (pj.toList == a0_1.toList) = true := beq_iff_eq.mpr c8;have c8b1 : (pj.toList != a0_1.toList) = false := bne_eq_false_iff_eq.mpr c8;clear c8;(first | rw [c8b0] | rw [c8b1] | rw [c8b2] | (simp only [i64_w, i32_w]; rw [c8b0]) | skip);replace H := Option.bind_eq_some_iff.mp H;obtain ⟨po, A90, H⟩ := H;replace H : (if po = true then ((tollref03_Is.f k a0_2).bind fun pg => (if pg = true then ((tollref04_May.f k l0_3).bind fun pe => (if pe = true then (tollref18_Lay.j0 k (decide ((l0_4.length : Int) > 30)) a0_0 a0_1 a0_2 l0_3 l0_4) else (tollref18_Lay.j0 k true a0_0 a0_1 a0_2 l0_3 l0_4))) else (tollref18_Lay.j0 k true a0_0 a0_1 a0_2 l0_3 l0_4))) else (tollref18_Lay.j0 k true a0_0 a0_1 a0_2 l0_3 l0_4)) = some (r1, r2) := H;have A9 := Aside0.mk A90;clear A90;by_cases c10 : po = true
    ·subst c10
     have H1 : ((tollref03_Is.f k a0_2).bind fun pg => (if pg = true then ((tollref04_May.f k l0_3).bind fun pe => (if pe = true then (tollref18_Lay.j0 k (decide ((l0_4.length : Int) > 30)) a0_0 a0_1 a0_2 l0_3 l0_4) else (tollref18_Lay.j0 k true a0_0 a0_1 a0_2 l0_3 l0_4))) else (tollref18_Lay.j0 k true a0_0 a0_1 a0_2 l0_3 l0_4))) = some (r1, r2) := by rw [if_pos rfl] at H; exact H
     clear H;have H := H1;clear H1;replace H := Option.bind_eq_some_iff.mp H;obtain ⟨pg, A110, H⟩ := H;replace H : (if pg = true then ((tollref04_May.f k l0_3).bind fun pe => (if pe = true then (tollref18_Lay.j0 k (decide ((l0_4.length : Int) > 30)) a0_0 a0_1 a0_2 l0_3 l0_4) else (tollref18_Lay.j0 k true a0_0 a0_1 a0_2 l0_3 l0_4))) else (tollref18_Lay.j0 k true a0_0 a0_1 a0_2 l0_3 l0_4)) = some (r1, r2) := H;have A11 := Aside0.mk A110;clear A110;by_cases c12 : pg = true
     ·subst c12
      have H1 : ((tollref04_May.f k l0_3).bind fun pe => (if pe = true then (tollref18_Lay.j0 k (decide ((l0_4.length : Int) > 30)) a0_0 a0_1 a0_2 l0_3 l0_4) else (tollref18_Lay.j0 k true a0_0 a0_1 a0_2 l0_3 l0_4))) = some (r1, r2) := by rw [if_pos rfl] at H; exact H
      clear H;have H := H1;clear H1;replace H := Option.bind_eq_some_iff.mp H;obtain ⟨pe, A130, H⟩ := H;replace H : (if pe = true then (tollref18_Lay.j0 k (decide ((l0_4.length : Int) > 30)) a0_0 a0_1 a0_2 l0_3 l0_4) else (tollref18_Lay.j0 k true a0_0 a0_1 a0_2 l0_3 l0_4)) = some (r1, r2) := H;have A13 := Aside0.mk A130;clear A130;by_cases c14 : pe = true
      ·subst c14
       have H1 : (tollref18_Lay.j0 k (decide ((l0_4.length : Int) > 30)) a0_0 a0_1 a0_2 l0_3 l0_4) = some (r1, r2) := by rw [if_pos rfl] at H; exact H
       clear H;have H := H1;clear H1;have H' := Aside0.mk H;clear H;obtain ⟨hcz15_0, hcz15_1, hcz15_2, hcz15_3, hcz15_4, hfz15_0, hfz15_1, hfz15_2, hfz15_3, hfz15_4⟩ := blk5 pa.out;go_wp2_with (first | (go_at_call 23; (with_reducible refine (tollref06_Method.calls k a0_0 true _ A9.out).mono ?_); rintro e w' ⟨rfl, ⟨nd, rfl⟩⟩; (try first | exact ⟨rfl, _, World.drewN_drewN _ _ _⟩ | exact ⟨rfl, _, Eq.trans (World.drewN_drewN _ _ _) (congrArg (World.drewN _) (Nat.add_assoc _ _ _))⟩)) | (go_at_call 24; (with_reducible refine (tollref03_Is.calls k a0_2 true _ A11.out).mono ?_); rintro e w' ⟨rfl, ⟨nd, rfl⟩⟩; (try first | exact ⟨rfl, _, World.drewN_drewN _ _ _⟩ | exact ⟨rfl, _, Eq.trans (World.drewN_drewN _ _ _) (congrArg (World.drewN _) (Nat.add_assoc _ _ _))⟩)) | (go_at_call 25; (with_reducible refine (tollref04_May.calls k _ _ l0_3 true _ ?side1 ?side2 A13.out).mono ?_); (case side1 => exact C_ (Kd.C_below pk.out (bel_ HB.out))); (case side2 => exact pl.out); rintro e w' ⟨rfl, ⟨nd, rfl⟩⟩; (try first | exact ⟨rfl, _, World.drewN_drewN _ _ _⟩ | exact ⟨rfl, _, Eq.trans (World.drewN_drewN _ _ _) (congrArg (World.drewN _) (Nat.add_assoc _ _ _))⟩)))
       repeat (go_quiet (first | (go_at_call 23; (with_reducible refine (tollref06_Method.calls k a0_0 true _ A9.out).mono ?_); rintro e w' ⟨rfl, ⟨nd, rfl⟩⟩; (try first | exact ⟨rfl, _, World.drewN_drewN _ _ _⟩ | exact ⟨rfl, _, Eq.trans (World.drewN_drewN _ _ _) (congrArg (World.drewN _) (Nat.add_assoc _ _ _))⟩)) | (go_at_call 24; (with_reducible refine (tollref03_Is.calls k a0_2 true _ A11.out).mono ?_); rintro e w' ⟨rfl, ⟨nd, rfl⟩⟩; (try first | exact ⟨rfl, _, World.drewN_drewN _ _ _⟩ | exact ⟨rfl, _, Eq.trans (World.drewN_drewN _ _ _) (congrArg (World.drewN _) (Nat.add_assoc _ _ _))⟩)) | (go_at_call 25; (with_reducible refine (tollref04_May.calls k _ _ l0_3 true _ ?side1 ?side2 A13.out).mono ?_); (case side1 => exact C_ (Kd.C_below pk.out (bel_ HB.out))); (case side2 => exact pl.out); rintro e w' ⟨rfl, ⟨nd, rfl⟩⟩; (try first | exact ⟨rfl, _, World.drewN_drewN _ _ _⟩ | exact ⟨rfl, _, Eq.trans (World.drewN_drewN _ _ _) (congrArg (World.drewN _) (Nat.add_assoc _ _ _))⟩))); try go_wp2_with (first | (go_at_call 23; (with_reducible refine (tollref06_Method.calls k a0_0 true _ A9.out).mono ?_); rintro e w' ⟨rfl, ⟨nd, rfl⟩⟩; (try first | exact ⟨rfl, _, World.drewN_drewN _ _ _⟩ | exact ⟨rfl, _, Eq.trans (World.drewN_drewN _ _ _) (congrArg (World.drewN _) (Nat.add_assoc _ _ _))⟩)) | (go_at_call 24; (with_reducible refine (tollref03_Is.calls k a0_2 true _ A11.out).mono ?_); rintro e w' ⟨rfl, ⟨nd, rfl⟩⟩; (try first | exact ⟨rfl, _, World.drewN_drewN _ _ _⟩ | exact ⟨rfl, _, Eq.trans (World.drewN_drewN _ _ _) (congrArg (World.drewN _) (Nat.add_assoc _ _ _))⟩)) | (go_at_call 25; (with_reducible refine (tollref04_May.calls k _ _ l0_3 true _ ?side1 ?side2 A13.out).mono ?_); (case side1 => exact C_ (Kd.C_below pk.out (bel_ HB.out))); (case side2 => exact pl.out); rintro e w' ⟨rfl, ⟨nd, rfl⟩⟩; (try first | exact ⟨rfl, _, World.drewN_drewN _ _ _⟩ | exact ⟨rfl, _, Eq.trans (World.drewN_drewN _ _ _) (congrArg (World.drewN _) (Nat.add_assoc _ _ _))⟩))))
       go_meet
       case rel => exact ⟨_, (decide ((l0_4.length : Int) > 30)), sd_, H', ⟨by first | omega | exact Nat.le_refl _⟩, ⟨by (with_reducible repeat (first | refine blk_drewN ?_ _ | refine blk_drew ?_ | refine blk_alloc ?_ _)); exact pa.out⟩, ⟨bel_ HB.out⟩⟩
      ·replace c14 := Bool.eq_false_iff.mpr c14
       subst c14;have H1 : (tollref18_Lay.j0 k true a0_0 a0_1 a0_2 l0_3 l0_4) = some (r1, r2) := by rw [if_neg (show ¬ (false = true) by decide)] at H; exact H
       clear H;have H := H1;clear H1;have H' := Aside0.mk H;clear H;obtain ⟨hcz16_0, hcz16_1, hcz16_2, hcz16_3, hcz16_4, hfz16_0, hfz16_1, hfz16_2, hfz16_3, hfz16_4⟩ := blk5 pa.out;go_wp2_with (first | (go_at_call 23; (with_reducible refine (tollref06_Method.calls k a0_0 true _ A9.out).mono ?_); rintro e w' ⟨rfl, ⟨nd, rfl⟩⟩; (try first | exact ⟨rfl, _, World.drewN_drewN _ _ _⟩ | exact ⟨rfl, _, Eq.trans (World.drewN_drewN _ _ _) (congrArg (World.drewN _) (Nat.add_assoc _ _ _))⟩)) | (go_at_call 24; (with_reducible refine (tollref03_Is.calls k a0_2 true _ A11.out).mono ?_); rintro e w' ⟨rfl, ⟨nd, rfl⟩⟩; (try first | exact ⟨rfl, _, World.drewN_drewN _ _ _⟩ | exact ⟨rfl, _, Eq.trans (World.drewN_drewN _ _ _) (congrArg (World.drewN _) (Nat.add_assoc _ _ _))⟩)) | (go_at_call 25; (with_reducible refine (tollref04_May.calls k _ _ l0_3 false _ ?side1 ?side2 A13.out).mono ?_); (case side1 => exact C_ (Kd.C_below pk.out (bel_ HB.out))); (case side2 => exact pl.out); rintro e w' ⟨rfl, ⟨nd, rfl⟩⟩; (try first | exact ⟨rfl, _, World.drewN_drewN _ _ _⟩ | exact ⟨rfl, _, Eq.trans (World.drewN_drewN _ _ _) (congrArg (World.drewN _) (Nat.add_assoc _ _ _))⟩)))
       repeat (go_quiet (first | (go_at_call 23; (with_reducible refine (tollref06_Method.calls k a0_0 true _ A9.out).mono ?_); rintro e w' ⟨rfl, ⟨nd, rfl⟩⟩; (try first | exact ⟨rfl, _, World.drewN_drewN _ _ _⟩ | exact ⟨rfl, _, Eq.trans (World.drewN_drewN _ _ _) (congrArg (World.drewN _) (Nat.add_assoc _ _ _))⟩)) | (go_at_call 24; (with_reducible refine (tollref03_Is.calls k a0_2 true _ A11.out).mono ?_); rintro e w' ⟨rfl, ⟨nd, rfl⟩⟩; (try first | exact ⟨rfl, _, World.drewN_drewN _ _ _⟩ | exact ⟨rfl, _, Eq.trans (World.drewN_drewN _ _ _) (congrArg (World.drewN _) (Nat.add_assoc _ _ _))⟩)) | (go_at_call 25; (with_reducible refine (tollref04_May.calls k _ _ l0_3 false _ ?side1 ?side2 A13.out).mono ?_); (case side1 => exact C_ (Kd.C_below pk.out (bel_ HB.out))); (case side2 => exact pl.out); rintro e w' ⟨rfl, ⟨nd, rfl⟩⟩; (try first | exact ⟨rfl, _, World.drewN_drewN _ _ _⟩ | exact ⟨rfl, _, Eq.trans (World.drewN_drewN _ _ _) (congrArg (World.drewN _) (Nat.add_assoc _ _ _))⟩))); try go_wp2_with (first | (go_at_call 23; (with_reducible refine (tollref06_Method.calls k a0_0 true _ A9.out).mono ?_); rintro e w' ⟨rfl, ⟨nd, rfl⟩⟩; (try first | exact ⟨rfl, _, World.drewN_drewN _ _ _⟩ | exact ⟨rfl, _, Eq.trans (World.drewN_drewN _ _ _) (congrArg (World.drewN _) (Nat.add_assoc _ _ _))⟩)) | (go_at_call 24; (with_reducible refine (tollref03_Is.calls k a0_2 true _ A11.out).mono ?_); rintro e w' ⟨rfl, ⟨nd, rfl⟩⟩; (try first | exact ⟨rfl, _, World.drewN_drewN _ _ _⟩ | exact ⟨rfl, _, Eq.trans (World.drewN_drewN _ _ _) (congrArg (World.drewN _) (Nat.add_assoc _ _ _))⟩)) | (go_at_call 25; (with_reducible refine (tollref04_May.calls k _ _ l0_3 false _ ?side1 ?side2 A13.out).mono ?_); (case side1 => exact C_ (Kd.C_below pk.out (bel_ HB.out))); (case side2 => exact pl.out); rintro e w' ⟨rfl, ⟨nd, rfl⟩⟩; (try first | exact ⟨rfl, _, World.drewN_drewN _ _ _⟩ | exact ⟨rfl, _, Eq.trans (World.drewN_drewN _ _ _) (congrArg (World.drewN _) (Nat.add_assoc _ _ _))⟩))))
       go_meet
       case rel => exact ⟨_, (true), sd_, H', ⟨by first | omega | exact Nat.le_refl _⟩, ⟨by (with_reducible repeat (first | refine blk_drewN ?_ _ | refine blk_drew ?_ | refine blk_alloc ?_ _)); exact pa.out⟩, ⟨bel_ HB.out⟩⟩
     ·replace c12 := Bool.eq_false_iff.mpr c12
      subst c12;have H1 : (tollref18_Lay.j0 k true a0_0 a0_1 a0_2 l0_3 l0_4) = some (r1, r2) := by rw [if_neg (show ¬ (false = true) by decide)] at H; exact H
      clear H;have H := H1;clear H1;have H' := Aside0.mk H;clear H;obtain ⟨hcz17_0, hcz17_1, hcz17_2, hcz17_3, hcz17_4, hfz17_0, hfz17_1, hfz17_2, hfz17_3, hfz17_4⟩ := blk5 pa.out;go_wp2_with (first | (go_at_call 23; (with_reducible refine (tollref06_Method.calls k a0_0 true _ A9.out).mono ?_); rintro e w' ⟨rfl, ⟨nd, rfl⟩⟩; (try first | exact ⟨rfl, _, World.drewN_drewN _ _ _⟩ | exact ⟨rfl, _, Eq.trans (World.drewN_drewN _ _ _) (congrArg (World.drewN _) (Nat.add_assoc _ _ _))⟩)) | (go_at_call 24; (with_reducible refine (tollref03_Is.calls k a0_2 false _ A11.out).mono ?_); rintro e w' ⟨rfl, ⟨nd, rfl⟩⟩; (try first | exact ⟨rfl, _, World.drewN_drewN _ _ _⟩ | exact ⟨rfl, _, Eq.trans (World.drewN_drewN _ _ _) (congrArg (World.drewN _) (Nat.add_assoc _ _ _))⟩)))
      repeat (go_quiet (first | (go_at_call 23; (with_reducible refine (tollref06_Method.calls k a0_0 true _ A9.out).mono ?_); rintro e w' ⟨rfl, ⟨nd, rfl⟩⟩; (try first | exact ⟨rfl, _, World.drewN_drewN _ _ _⟩ | exact ⟨rfl, _, Eq.trans (World.drewN_drewN _ _ _) (congrArg (World.drewN _) (Nat.add_assoc _ _ _))⟩)) | (go_at_call 24; (with_reducible refine (tollref03_Is.calls k a0_2 false _ A11.out).mono ?_); rintro e w' ⟨rfl, ⟨nd, rfl⟩⟩; (try first | exact ⟨rfl, _, World.drewN_drewN _ _ _⟩ | exact ⟨rfl, _, Eq.trans (World.drewN_drewN _ _ _) (congrArg (World.drewN _) (Nat.add_assoc _ _ _))⟩))); try go_wp2_with (first | (go_at_call 23; (with_reducible refine (tollref06_Method.calls k a0_0 true _ A9.out).mono ?_); rintro e w' ⟨rfl, ⟨nd, rfl⟩⟩; (try first | exact ⟨rfl, _, World.drewN_drewN _ _ _⟩ | exact ⟨rfl, _, Eq.trans (World.drewN_drewN _ _ _) (congrArg (World.drewN _) (Nat.add_assoc _ _ _))⟩)) | (go_at_call 24; (with_reducible refine (tollref03_Is.calls k a0_2 false _ A11.out).mono ?_); rintro e w' ⟨rfl, ⟨nd, rfl⟩⟩; (try first | exact ⟨rfl, _, World.drewN_drewN _ _ _⟩ | exact ⟨rfl, _, Eq.trans (World.drewN_drewN _ _ _) (congrArg (World.drewN _) (Nat.add_assoc _ _ _))⟩))))
      go_meet
      case rel => exact ⟨_, (true), sd_, H', ⟨by first | omega | exact Nat.le_refl _⟩, ⟨by (with_reducible repeat (first | refine blk_drewN ?_ _ | refine blk_drew ?_ | refine blk_alloc ?_ _)); exact pa.out⟩, ⟨bel_ HB.out⟩⟩
    ·replace c10 := Bool.eq_false_iff.mpr c10
     subst c10;have H1 : (tollref18_Lay.j0 k true a0_0 a0_1 a0_2 l0_3 l0_4) = some (r1, r2) := by rw [if_neg (show ¬ (false = true) by decide)] at H; exact H
     clear H;have H := H1;clear H1;have H' := Aside0.mk H;clear H;obtain ⟨hcz18_0, hcz18_1, hcz18_2, hcz18_3, hcz18_4, hfz18_0, hfz18_1, hfz18_2, hfz18_3, hfz18_4⟩ := blk5 pa.out;go_wp2_with (first | (go_at_call 23; (with_reducible refine (tollref06_Method.calls k a0_0 false _ A9.out).mono ?_); rintro e w' ⟨rfl, ⟨nd, rfl⟩⟩; (try first | exact ⟨rfl, _, World.drewN_drewN _ _ _⟩ | exact ⟨rfl, _, Eq.trans (World.drewN_drewN _ _ _) (congrArg (World.drewN _) (Nat.add_assoc _ _ _))⟩)))
     repeat (go_quiet (first | (go_at_call 23; (with_reducible refine (tollref06_Method.calls k a0_0 false _ A9.out).mono ?_); rintro e w' ⟨rfl, ⟨nd, rfl⟩⟩; (try first | exact ⟨rfl, _, World.drewN_drewN _ _ _⟩ | exact ⟨rfl, _, Eq.trans (World.drewN_drewN _ _ _) (congrArg (World.drewN _) (Nat.add_assoc _ _ _))⟩))); try go_wp2_with (first | (go_at_call 23; (with_reducible refine (tollref06_Method.calls k a0_0 false _ A9.out).mono ?_); rintro e w' ⟨rfl, ⟨nd, rfl⟩⟩; (try first | exact ⟨rfl, _, World.drewN_drewN _ _ _⟩ | exact ⟨rfl, _, Eq.trans (World.drewN_drewN _ _ _) (congrArg (World.drewN _) (Nat.add_assoc _ _ _))⟩))))
     go_meet
     case rel => exact ⟨_, (true), sd_, H', ⟨by first | omega | exact Nat.le_refl _⟩, ⟨by (with_reducible repeat (first | refine blk_drewN ?_ _ | refine blk_drew ?_ | refine blk_alloc ?_ _)); exact pa.out⟩, ⟨bel_ HB.out⟩⟩
   ·rw [if_neg c8] at H
    have c8b0 : (pj.toList == a0_1.toList) = false := beq_eq_false_iff_ne.mpr c8;have c8b1 : (pj.toList != a0_1.toList) = true := bne_iff_ne.mpr c8;(first | rw [c8b0] | rw [c8b1] | rw [c8b2] | (simp only [i64_w, i32_w]; rw [c8b0]) | skip);have H' := Aside0.mk H;clear H;obtain ⟨hcz19_0, hcz19_1, hcz19_2, hcz19_3, hcz19_4, hfz19_0, hfz19_1, hfz19_2, hfz19_3, hfz19_4⟩ := blk5 pa.out;go_wp2
    repeat (go_quiet (fail); try go_wp2)
    go_meet
    case rel => exact ⟨_, (true), sd_, H', ⟨by first | omega | exact Nat.le_refl _⟩, ⟨by (with_reducible repeat (first | refine blk_drewN ?_ _ | refine blk_drew ?_ | refine blk_alloc ?_ _)); exact pa.out⟩, ⟨bel_ HB.out⟩⟩
  ·replace c7 := Bool.eq_false_iff.mpr c7
   subst c7;have H1 : (tollref18_Lay.j0 k true a0_0 a0_1 a0_2 l0_3 l0_4) = some (r1, r2) := by rw [if_neg (show ¬ (false = true) by decide)] at H; exact H
   clear H;have H := H1;clear H1;have H' := Aside0.mk H;clear H;go_wp2
   repeat (go_quiet (fail); try go_wp2)
   go_meet
   case rel => exact ⟨_, (true), sd_, H', ⟨by first | omega | exact Nat.le_refl _⟩, ⟨by (with_reducible repeat (first | refine blk_drewN ?_ _ | refine blk_drew ?_ | refine blk_alloc ?_ _)); exact pa.out⟩, ⟨bel_ HB.out⟩⟩
 case rest =>
  clear HC3;try clear c1
  try clear p2
  try clear c7
  try clear c8
  try clear c8b0
  try clear c8b1
  try clear c8b2
  try clear c10
  try clear c12
  try clear c14
  try clear hcz15_0
  try clear hcz15_1
  try clear hcz15_2
  try clear hcz15_3
  try clear hcz15_4
  try clear hcz16_0
  try clear hcz16_1
  try clear hcz16_2
  try clear hcz16_3
  try clear hcz16_4
  try clear hcz17_0
  try clear hcz17_1
  try clear hcz17_2
  try clear hcz17_3
  try clear hcz17_4
  try clear hcz18_0
  try clear hcz18_1
  try clear hcz18_2
  try clear hcz18_3
  try clear hcz18_4
  try clear hcz19_0
  try clear hcz19_1
  try clear hcz19_2
  try clear hcz19_3
  try clear hcz19_4
  try clear hcz5_0
  try clear hcz5_1
  try clear hcz5_2
  try clear hcz5_3
  try clear hcz5_4
  try clear hfz15_0
  try clear hfz15_1
  try clear hfz15_2
  try clear hfz15_3
  try clear hfz15_4
  try clear hfz16_0
  try clear hfz16_1
  try clear hfz16_2
  try clear hfz16_3
  try clear hfz16_4
  try clear hfz17_0
  try clear hfz17_1
  try clear hfz17_2
  try clear hfz17_3
  try clear hfz17_4
  try clear hfz18_0
  try clear hfz18_1
  try clear hfz18_2
  try clear hfz18_3
  try clear hfz18_4
  try clear hfz19_0
  try clear hfz19_1
  try clear hfz19_2
  try clear hfz19_3
  try clear hfz19_4
  try clear hfz5_0
  try clear hfz5_1
  try clear hfz5_2
  try clear hfz5_3
  try clear hfz5_4
  obtain ⟨kq, x45_2, rfl, HA, HJ2, pa, HB⟩ := hcut;cases kq with
  | zero => exact absurd HA.out (by simp [tollref18_Lay.j0])
  | succ kj2 =>
   have H := HA.out;clear HA;simp only [tollref18_Lay.j0] at H;by_cases c20 : x45_2 = true
   ·subst c20
    have H1 : (some ((⟨#[]⟩ : ByteArray), 1)) = some (r1, r2) := by rw [if_pos rfl] at H; exact H
    clear H;have H := H1;clear H1;simp only [Option.some.injEq, Prod.mk.injEq] at H;obtain ⟨rfl, rfl⟩ := H;go_wp2
    repeat (go_quiet (fail); try go_wp2)
    go_ret2
    exact ⟨fi_, bel_ HB.out⟩
   ·replace c20 := Bool.eq_false_iff.mpr c20
    subst c20;have H1 : (if a0_0.size + 1 ≤ 9223372036854775807 then (if (a0_0 ++ (⟨#[32]⟩ : ByteArray)).size + a0_2.size ≤ 9223372036854775807 then (if (l0_3.length : Int) > 0 then ((tollref04_Text.f kj2 l0_3).bind fun pd => (if 1 + pd.size ≤ 9223372036854775807 then (if ((a0_0 ++ (⟨#[32]⟩ : ByteArray)) ++ a0_2).size + ((⟨#[63]⟩ : ByteArray) ++ pd).size ≤ 9223372036854775807 then (tollref18_Lay.j1 kj2 (((a0_0 ++ (⟨#[32]⟩ : ByteArray)) ++ a0_2) ++ ((⟨#[63]⟩ : ByteArray) ++ pd)) a0_0 a0_1 a0_2 l0_3 l0_4) else (none)) else (none))) else (tollref18_Lay.j1 kj2 ((a0_0 ++ (⟨#[32]⟩ : ByteArray)) ++ a0_2) a0_0 a0_1 a0_2 l0_3 l0_4)) else (none)) else (none)) = some (r1, r2) := by rw [if_neg (show ¬ (false = true) by decide)] at H; exact H
    clear H;have H := H1;clear H1;by_cases c21 : a0_0.size + 1 ≤ 9223372036854775807
    ·rw [if_pos c21] at H
     have c21b0 := eq_true c21;have c21b1 : decide (a0_0.size + 1 ≤ 9223372036854775807) = true := decide_eq_true c21;try have c21b2 : (9223372036854775807 < a0_0.size + 1) = False := eq_false (Nat.not_lt.2 c21)
     by_cases c22 : (a0_0 ++ (⟨#[32]⟩ : ByteArray)).size + a0_2.size ≤ 9223372036854775807
     ·rw [if_pos c22] at H
      have c22b0 := eq_true c22;have c22b1 : decide ((a0_0 ++ (⟨#[32]⟩ : ByteArray)).size + a0_2.size ≤ 9223372036854775807) = true := decide_eq_true c22;try have c22b2 : (9223372036854775807 < (a0_0 ++ (⟨#[32]⟩ : ByteArray)).size + a0_2.size) = False := eq_false (Nat.not_lt.2 c22)
      (try have c22z : (9223372036854775807 < a0_0.size + 1 + a0_2.size) = False := eq_false (Nat.not_lt.2 (by have q_ := c22; simp only [ByteArray.size_append] at q_; exact q_)));have HC23 := Aside0.mk H;clear H;obtain ⟨hcz24_0, hcz24_1, hcz24_2, hcz24_3, hcz24_4, hfz24_0, hfz24_1, hfz24_2, hfz24_3, hfz24_4⟩ := blk5 pa.out;go_upto_if 55 with (fail)
      repeat (go_quiet (fail); go_upto_if 55 with (fail))
      go_cut [6] (fun v6 wc => ∃ (kq : Nat) (x6_22 : ByteArray), v6 = .string x6_22 ∧ Aside0 (tollref18_Lay.j1 kq x6_22 a0_0 a0_1 a0_2 l0_3 l0_4 = some (r1, r2)) ∧ Aside0 (kq ≤ kj2) ∧ Aside0 (wc.heap[ph]? = some (.cells #[.string a0_0, .string a0_1, .string a0_2, (.slice pm l0_3.length c0_3), (.slice pn l0_4.length c0_4)] 24 (0, 0))) ∧ Aside0 (Below w.heap.size w wc))
      case first =>
       have H := HC23.out;clear HC23;by_cases c25 : (l0_3.length : Int) > 0
       ·rw [if_pos c25] at H
        have c25b0 : decide (0 < (l0_3.length : Int)) = true := decide_eq_true c25;have c25b1 : decide (0 < l0_3.length) = true := decide_eq_true (by omega);clear c25;(first | rw [c25b0] | rw [c25b1] | rw [c25b2] | (simp only [i64_w, i32_w]; rw [c25b0]) | skip);replace H := Option.bind_eq_some_iff.mp H;obtain ⟨pd, A260, H⟩ := H;replace H : (if 1 + pd.size ≤ 9223372036854775807 then (if ((a0_0 ++ (⟨#[32]⟩ : ByteArray)) ++ a0_2).size + ((⟨#[63]⟩ : ByteArray) ++ pd).size ≤ 9223372036854775807 then (tollref18_Lay.j1 kj2 (((a0_0 ++ (⟨#[32]⟩ : ByteArray)) ++ a0_2) ++ ((⟨#[63]⟩ : ByteArray) ++ pd)) a0_0 a0_1 a0_2 l0_3 l0_4) else (none)) else (none)) = some (r1, r2) := H;have A26 := Aside0.mk A260;clear A260;by_cases c27 : 1 + pd.size ≤ 9223372036854775807
        ·rw [if_pos c27] at H
         have c27b0 := eq_true c27;have c27b1 : decide (1 + pd.size ≤ 9223372036854775807) = true := decide_eq_true c27;try have c27b2 : (9223372036854775807 < 1 + pd.size) = False := eq_false (Nat.not_lt.2 c27)
         by_cases c28 : ((a0_0 ++ (⟨#[32]⟩ : ByteArray)) ++ a0_2).size + ((⟨#[63]⟩ : ByteArray) ++ pd).size ≤ 9223372036854775807
         ·rw [if_pos c28] at H
          have c28b0 := eq_true c28;have c28b1 : decide (((a0_0 ++ (⟨#[32]⟩ : ByteArray)) ++ a0_2).size + ((⟨#[63]⟩ : ByteArray) ++ pd).size ≤ 9223372036854775807) = true := decide_eq_true c28;try have c28b2 : (9223372036854775807 < ((a0_0 ++ (⟨#[32]⟩ : ByteArray)) ++ a0_2).size + ((⟨#[63]⟩ : ByteArray) ++ pd).size) = False := eq_false (Nat.not_lt.2 c28)
          (try have c28z : (9223372036854775807 < a0_0.size + 1 + a0_2.size + (1 + pd.size)) = False := eq_false (Nat.not_lt.2 (by have q_ := c28; simp only [ByteArray.size_append] at q_; exact q_)));have H' := Aside0.mk H;clear H;obtain ⟨hcz29_0, hcz29_1, hcz29_2, hcz29_3, hcz29_4, hfz29_0, hfz29_1, hfz29_2, hfz29_3, hfz29_4⟩ := blk5 pa.out;go_wp2_with (first | (go_at_call 26; (with_reducible refine (tollref04_Text.calls kj2 _ _ l0_3 pd _ ?side1 ?side2 A26.out).mono ?_); (case side1 => exact C_ (Kd.C_below pk.out HB.out)); (case side2 => exact pl.out); rintro e w30 ⟨rfl, hb⟩; have n0_ := am_ (blk_below pa.out hb); have n1_ := am_ (below_step (bel_ HB.out) hb); clear pa HB; have pa := n0_; have HB := n1_; clear n0_ n1_; (try clear hb); (try clear hb2); (try clear hk); (try clear hi)))
          repeat (go_quiet (first | (go_at_call 26; (with_reducible refine (tollref04_Text.calls kj2 _ _ l0_3 pd _ ?side1 ?side2 A26.out).mono ?_); (case side1 => exact C_ (Kd.C_below pk.out HB.out)); (case side2 => exact pl.out); rintro e w30 ⟨rfl, hb⟩; have n0_ := am_ (blk_below pa.out hb); have n1_ := am_ (below_step (bel_ HB.out) hb); clear pa HB; have pa := n0_; have HB := n1_; clear n0_ n1_; (try clear hb); (try clear hb2); (try clear hk); (try clear hi))); try go_wp2_with (first | (go_at_call 26; (with_reducible refine (tollref04_Text.calls kj2 _ _ l0_3 pd _ ?side1 ?side2 A26.out).mono ?_); (case side1 => exact C_ (Kd.C_below pk.out HB.out)); (case side2 => exact pl.out); rintro e w30 ⟨rfl, hb⟩; have n0_ := am_ (blk_below pa.out hb); have n1_ := am_ (below_step (bel_ HB.out) hb); clear pa HB; have pa := n0_; have HB := n1_; clear n0_ n1_; (try clear hb); (try clear hb2); (try clear hk); (try clear hi))))
          go_meet
          case rel => exact ⟨_, (((a0_0 ++ (⟨#[32]⟩ : ByteArray)) ++ a0_2) ++ ((⟨#[63]⟩ : ByteArray) ++ pd)), sd_, H', ⟨by have := HJ2.out; first | omega | exact Nat.le_refl _⟩, ⟨by (with_reducible repeat (first | refine blk_drewN ?_ _ | refine blk_drew ?_ | refine blk_alloc ?_ _)); exact pa.out⟩, ⟨bel_ HB.out⟩⟩
         ·rw [if_neg c28] at H
          exact absurd H (by simp)
        ·rw [if_neg c27] at H
         exact absurd H (by simp)
       ·rw [if_neg c25] at H
        have c25b0 : decide (0 < (l0_3.length : Int)) = false := decide_eq_false c25;have c25b1 : decide (0 < l0_3.length) = false := decide_eq_false (by omega);clear c25;(first | rw [c25b0] | rw [c25b1] | rw [c25b2] | (simp only [i64_w, i32_w]; rw [c25b0]) | skip);have H' := Aside0.mk H;clear H;go_wp2
        repeat (go_quiet (fail); try go_wp2)
        go_meet
        case rel => exact ⟨_, ((a0_0 ++ (⟨#[32]⟩ : ByteArray)) ++ a0_2), sd_, H', ⟨by have := HJ2.out; first | omega | exact Nat.le_refl _⟩, ⟨by (with_reducible repeat (first | refine blk_drewN ?_ _ | refine blk_drew ?_ | refine blk_alloc ?_ _)); exact pa.out⟩, ⟨bel_ HB.out⟩⟩
      case rest =>
       clear HC23;try clear c1
       try clear c2
       try clear p2
       try clear c7
       try clear c8
       try clear c8b0
       try clear c8b1
       try clear c8b2
       try clear c10
       try clear c12
       try clear c14
       try clear c20
       try clear c21
       try clear c21b0
       try clear c21b1
       try clear c21b2
       try clear c22
       try clear c22b0
       try clear c22b1
       try clear c22b2
       try clear c25
       try clear c25b0
       try clear c25b1
       try clear c25b2
       try clear c27
       try clear c27b0
       try clear c27b1
       try clear c27b2
       try clear c28
       try clear c28b0
       try clear c28b1
       try clear c28b2
       try clear hcz15_0
       try clear hcz15_1
       try clear hcz15_2
       try clear hcz15_3
       try clear hcz15_4
       try clear hcz16_0
       try clear hcz16_1
       try clear hcz16_2
       try clear hcz16_3
       try clear hcz16_4
       try clear hcz17_0
       try clear hcz17_1
       try clear hcz17_2
       try clear hcz17_3
       try clear hcz17_4
       try clear hcz18_0
       try clear hcz18_1
       try clear hcz18_2
       try clear hcz18_3
       try clear hcz18_4
       try clear hcz19_0
       try clear hcz19_1
       try clear hcz19_2
       try clear hcz19_3
       try clear hcz19_4
       try clear hcz24_0
       try clear hcz24_1
       try clear hcz24_2
       try clear hcz24_3
       try clear hcz24_4
       try clear hcz29_0
       try clear hcz29_1
       try clear hcz29_2
       try clear hcz29_3
       try clear hcz29_4
       try clear hcz5_0
       try clear hcz5_1
       try clear hcz5_2
       try clear hcz5_3
       try clear hcz5_4
       try clear hfz15_0
       try clear hfz15_1
       try clear hfz15_2
       try clear hfz15_3
       try clear hfz15_4
       try clear hfz16_0
       try clear hfz16_1
       try clear hfz16_2
       try clear hfz16_3
       try clear hfz16_4
       try clear hfz17_0
       try clear hfz17_1
       try clear hfz17_2
       try clear hfz17_3
       try clear hfz17_4
       try clear hfz18_0
       try clear hfz18_1
       try clear hfz18_2
       try clear hfz18_3
       try clear hfz18_4
       try clear hfz19_0
       try clear hfz19_1
       try clear hfz19_2
       try clear hfz19_3
       try clear hfz19_4
       try clear hfz24_0
       try clear hfz24_1
       try clear hfz24_2
       try clear hfz24_3
       try clear hfz24_4
       try clear hfz29_0
       try clear hfz29_1
       try clear hfz29_2
       try clear hfz29_3
       try clear hfz29_4
       try clear hfz5_0
       try clear hfz5_1
       try clear hfz5_2
       try clear hfz5_3
       try clear hfz5_4
       try clear p2
       obtain ⟨kq, x6_22, rfl, HA, HJ22, pa, HB⟩ := hcut;cases kq with
       | zero => exact absurd HA.out (by simp [tollref18_Lay.j1])
       | succ kj22 =>
        have H := HA.out;clear HA;simp only [tollref18_Lay.j1] at H;by_cases c31 : x6_22.size + 11 ≤ 9223372036854775807
        ·rw [if_pos c31] at H
         have c31b0 := eq_true c31;have c31b1 : decide (x6_22.size + 11 ≤ 9223372036854775807) = true := decide_eq_true c31;try have c31b2 : (9223372036854775807 < x6_22.size + 11) = False := eq_false (Nat.not_lt.2 c31)
         have H' := Aside0.mk H;clear H;go_wp2
         repeat (go_quiet (fail); try go_wp2)
         go_loopg [6, 7] kj22 (fun kq v6 v7 w' => ∃ (x6_3 : ByteArray) (x7_3 : Int), v6 = .string x6_3 ∧ v7 = .int .i64 x7_3 ∧ Aside0 (tollref18_Lay.l0 kq x6_3 x7_3 a0_0 a0_1 a0_2 l0_3 l0_4 = some (r1, r2)) ∧ Aside0 (kq ≤ kj22) ∧ Aside0 (w'.heap[ph]? = some (.cells #[.string a0_0, .string a0_1, .string a0_2, (.slice pm l0_3.length c0_3), (.slice pn l0_4.length c0_4)] 24 (0, 0))) ∧ Aside0 (Below w.heap.size w w'))
         case atStart => exact ⟨(x6_22 ++ (⟨#[32, 72, 84, 84, 80, 47, 49, 46, 49, 13, 10]⟩ : ByteArray)), (0), sd_, sd_, H', ⟨Nat.le_refl _⟩, ⟨by (with_reducible repeat (first | refine blk_drewN ?_ _ | refine blk_drew ?_ | refine blk_alloc ?_ _)); exact pa.out⟩, ⟨bel_ HB.out⟩⟩
         case round =>
          clear H';try clear c1
          try clear c2
          try clear p2
          try clear c3
          try clear c7
          try clear c8
          try clear c8b0
          try clear c8b1
          try clear c8b2
          try clear c10
          try clear c12
          try clear c14
          try clear c20
          try clear c21
          try clear c21b0
          try clear c21b1
          try clear c21b2
          try clear c22
          try clear c22b0
          try clear c22b1
          try clear c22b2
          try clear c25
          try clear c25b0
          try clear c25b1
          try clear c25b2
          try clear c27
          try clear c27b0
          try clear c27b1
          try clear c27b2
          try clear c28
          try clear c28b0
          try clear c28b1
          try clear c28b2
          try clear c31
          try clear c31b0
          try clear c31b1
          try clear c31b2
          try clear hcz15_0
          try clear hcz15_1
          try clear hcz15_2
          try clear hcz15_3
          try clear hcz15_4
          try clear hcz16_0
          try clear hcz16_1
          try clear hcz16_2
          try clear hcz16_3
          try clear hcz16_4
          try clear hcz17_0
          try clear hcz17_1
          try clear hcz17_2
          try clear hcz17_3
          try clear hcz17_4
          try clear hcz18_0
          try clear hcz18_1
          try clear hcz18_2
          try clear hcz18_3
          try clear hcz18_4
          try clear hcz19_0
          try clear hcz19_1
          try clear hcz19_2
          try clear hcz19_3
          try clear hcz19_4
          try clear hcz24_0
          try clear hcz24_1
          try clear hcz24_2
          try clear hcz24_3
          try clear hcz24_4
          try clear hcz29_0
          try clear hcz29_1
          try clear hcz29_2
          try clear hcz29_3
          try clear hcz29_4
          try clear hcz5_0
          try clear hcz5_1
          try clear hcz5_2
          try clear hcz5_3
          try clear hcz5_4
          try clear hfz15_0
          try clear hfz15_1
          try clear hfz15_2
          try clear hfz15_3
          try clear hfz15_4
          try clear hfz16_0
          try clear hfz16_1
          try clear hfz16_2
          try clear hfz16_3
          try clear hfz16_4
          try clear hfz17_0
          try clear hfz17_1
          try clear hfz17_2
          try clear hfz17_3
          try clear hfz17_4
          try clear hfz18_0
          try clear hfz18_1
          try clear hfz18_2
          try clear hfz18_3
          try clear hfz18_4
          try clear hfz19_0
          try clear hfz19_1
          try clear hfz19_2
          try clear hfz19_3
          try clear hfz19_4
          try clear hfz24_0
          try clear hfz24_1
          try clear hfz24_2
          try clear hfz24_3
          try clear hfz24_4
          try clear hfz29_0
          try clear hfz29_1
          try clear hfz29_2
          try clear hfz29_3
          try clear hfz29_4
          try clear hfz5_0
          try clear hfz5_1
          try clear hfz5_2
          try clear hfz5_3
          try clear hfz5_4
          try clear p2
          obtain ⟨x6_3, x7_3, rfl, rfl, HA, HK3, pa, HB⟩ := hrel;cases gk with
          | zero => exact absurd HA.out (by simp [tollref18_Lay.l0])
          | succ k3 =>
           have H := HA.out;clear HA;simp only [tollref18_Lay.l0] at H;by_cases c32 : x7_3 < (l0_4.length : Int)
           ·rw [if_pos c32] at H
            have c32b0 : decide (x7_3 < (l0_4.length : Int)) = true := decide_eq_true c32;clear c32;by_cases c33 : 0 ≤ x7_3
            ·rw [if_pos c33] at H
             have c33b0 : decide (0 ≤ x7_3) = true := decide_eq_true c33;clear c33;replace H := Option.bind_eq_some_iff.mp H;obtain ⟨px, A340, H⟩ := H;replace H : (if px = true then ((tollref05_Value.f k3 ((rd_T51 l0_4 x7_3).f1)).bind fun pp => (if pp = true then (if ((rd_T51 l0_4 x7_3).f0).size + 2 ≤ 9223372036854775807 then (if (((rd_T51 l0_4 x7_3).f0) ++ (⟨#[58, 32]⟩ : ByteArray)).size + ((rd_T51 l0_4 x7_3).f1).size ≤ 9223372036854775807 then (if ((((rd_T51 l0_4 x7_3).f0) ++ (⟨#[58, 32]⟩ : ByteArray)) ++ ((rd_T51 l0_4 x7_3).f1)).size + 2 ≤ 9223372036854775807 then (if x6_3.size + (((((rd_T51 l0_4 x7_3).f0) ++ (⟨#[58, 32]⟩ : ByteArray)) ++ ((rd_T51 l0_4 x7_3).f1)) ++ (⟨#[13, 10]⟩ : ByteArray)).size ≤ 9223372036854775807 then (tollref18_Lay.l0 k3 (x6_3 ++ (((((rd_T51 l0_4 x7_3).f0) ++ (⟨#[58, 32]⟩ : ByteArray)) ++ ((rd_T51 l0_4 x7_3).f1)) ++ (⟨#[13, 10]⟩ : ByteArray))) (wrap64 (x7_3 + 1)) a0_0 a0_1 a0_2 l0_3 l0_4) else (none)) else (none)) else (none)) else (none)) else (some ((⟨#[]⟩ : ByteArray), 1)))) else (some ((⟨#[]⟩ : ByteArray), 1))) = some (r1, r2) := H;have A34 := Aside0.mk A340;clear A340;by_cases c35 : px = true
             ·subst c35
              have H1 : ((tollref05_Value.f k3 ((rd_T51 l0_4 x7_3).f1)).bind fun pp => (if pp = true then (if ((rd_T51 l0_4 x7_3).f0).size + 2 ≤ 9223372036854775807 then (if (((rd_T51 l0_4 x7_3).f0) ++ (⟨#[58, 32]⟩ : ByteArray)).size + ((rd_T51 l0_4 x7_3).f1).size ≤ 9223372036854775807 then (if ((((rd_T51 l0_4 x7_3).f0) ++ (⟨#[58, 32]⟩ : ByteArray)) ++ ((rd_T51 l0_4 x7_3).f1)).size + 2 ≤ 9223372036854775807 then (if x6_3.size + (((((rd_T51 l0_4 x7_3).f0) ++ (⟨#[58, 32]⟩ : ByteArray)) ++ ((rd_T51 l0_4 x7_3).f1)) ++ (⟨#[13, 10]⟩ : ByteArray)).size ≤ 9223372036854775807 then (tollref18_Lay.l0 k3 (x6_3 ++ (((((rd_T51 l0_4 x7_3).f0) ++ (⟨#[58, 32]⟩ : ByteArray)) ++ ((rd_T51 l0_4 x7_3).f1)) ++ (⟨#[13, 10]⟩ : ByteArray))) (wrap64 (x7_3 + 1)) a0_0 a0_1 a0_2 l0_3 l0_4) else (none)) else (none)) else (none)) else (none)) else (some ((⟨#[]⟩ : ByteArray), 1)))) = some (r1, r2) := by rw [if_pos rfl] at H; exact H
              clear H;have H := H1;clear H1;replace H := Option.bind_eq_some_iff.mp H;obtain ⟨pp, A360, H⟩ := H;replace H : (if pp = true then (if ((rd_T51 l0_4 x7_3).f0).size + 2 ≤ 9223372036854775807 then (if (((rd_T51 l0_4 x7_3).f0) ++ (⟨#[58, 32]⟩ : ByteArray)).size + ((rd_T51 l0_4 x7_3).f1).size ≤ 9223372036854775807 then (if ((((rd_T51 l0_4 x7_3).f0) ++ (⟨#[58, 32]⟩ : ByteArray)) ++ ((rd_T51 l0_4 x7_3).f1)).size + 2 ≤ 9223372036854775807 then (if x6_3.size + (((((rd_T51 l0_4 x7_3).f0) ++ (⟨#[58, 32]⟩ : ByteArray)) ++ ((rd_T51 l0_4 x7_3).f1)) ++ (⟨#[13, 10]⟩ : ByteArray)).size ≤ 9223372036854775807 then (tollref18_Lay.l0 k3 (x6_3 ++ (((((rd_T51 l0_4 x7_3).f0) ++ (⟨#[58, 32]⟩ : ByteArray)) ++ ((rd_T51 l0_4 x7_3).f1)) ++ (⟨#[13, 10]⟩ : ByteArray))) (wrap64 (x7_3 + 1)) a0_0 a0_1 a0_2 l0_3 l0_4) else (none)) else (none)) else (none)) else (none)) else (some ((⟨#[]⟩ : ByteArray), 1))) = some (r1, r2) := H;have A36 := Aside0.mk A360;clear A360;by_cases c37 : pp = true
              ·subst c37
               have H1 : (if ((rd_T51 l0_4 x7_3).f0).size + 2 ≤ 9223372036854775807 then (if (((rd_T51 l0_4 x7_3).f0) ++ (⟨#[58, 32]⟩ : ByteArray)).size + ((rd_T51 l0_4 x7_3).f1).size ≤ 9223372036854775807 then (if ((((rd_T51 l0_4 x7_3).f0) ++ (⟨#[58, 32]⟩ : ByteArray)) ++ ((rd_T51 l0_4 x7_3).f1)).size + 2 ≤ 9223372036854775807 then (if x6_3.size + (((((rd_T51 l0_4 x7_3).f0) ++ (⟨#[58, 32]⟩ : ByteArray)) ++ ((rd_T51 l0_4 x7_3).f1)) ++ (⟨#[13, 10]⟩ : ByteArray)).size ≤ 9223372036854775807 then (tollref18_Lay.l0 k3 (x6_3 ++ (((((rd_T51 l0_4 x7_3).f0) ++ (⟨#[58, 32]⟩ : ByteArray)) ++ ((rd_T51 l0_4 x7_3).f1)) ++ (⟨#[13, 10]⟩ : ByteArray))) (wrap64 (x7_3 + 1)) a0_0 a0_1 a0_2 l0_3 l0_4) else (none)) else (none)) else (none)) else (none)) = some (r1, r2) := by rw [if_pos rfl] at H; exact H
               clear H;have H := H1;clear H1;by_cases c38 : ((rd_T51 l0_4 x7_3).f0).size + 2 ≤ 9223372036854775807
               ·rw [if_pos c38] at H
                have c38b0 := eq_true c38;have c38b1 : decide (((rd_T51 l0_4 x7_3).f0).size + 2 ≤ 9223372036854775807) = true := decide_eq_true c38;try have c38b2 : (9223372036854775807 < ((rd_T51 l0_4 x7_3).f0).size + 2) = False := eq_false (Nat.not_lt.2 c38)
                by_cases c39 : (((rd_T51 l0_4 x7_3).f0) ++ (⟨#[58, 32]⟩ : ByteArray)).size + ((rd_T51 l0_4 x7_3).f1).size ≤ 9223372036854775807
                ·rw [if_pos c39] at H
                 have c39b0 := eq_true c39;have c39b1 : decide ((((rd_T51 l0_4 x7_3).f0) ++ (⟨#[58, 32]⟩ : ByteArray)).size + ((rd_T51 l0_4 x7_3).f1).size ≤ 9223372036854775807) = true := decide_eq_true c39;try have c39b2 : (9223372036854775807 < (((rd_T51 l0_4 x7_3).f0) ++ (⟨#[58, 32]⟩ : ByteArray)).size + ((rd_T51 l0_4 x7_3).f1).size) = False := eq_false (Nat.not_lt.2 c39)
                 (try have c39z : (9223372036854775807 < ((rd_T51 l0_4 x7_3).f0).size + 2 + ((rd_T51 l0_4 x7_3).f1).size) = False := eq_false (Nat.not_lt.2 (by have q_ := c39; simp only [ByteArray.size_append] at q_; exact q_)));by_cases c40 : ((((rd_T51 l0_4 x7_3).f0) ++ (⟨#[58, 32]⟩ : ByteArray)) ++ ((rd_T51 l0_4 x7_3).f1)).size + 2 ≤ 9223372036854775807
                 ·rw [if_pos c40] at H
                  have c40b0 := eq_true c40;have c40b1 : decide (((((rd_T51 l0_4 x7_3).f0) ++ (⟨#[58, 32]⟩ : ByteArray)) ++ ((rd_T51 l0_4 x7_3).f1)).size + 2 ≤ 9223372036854775807) = true := decide_eq_true c40;try have c40b2 : (9223372036854775807 < ((((rd_T51 l0_4 x7_3).f0) ++ (⟨#[58, 32]⟩ : ByteArray)) ++ ((rd_T51 l0_4 x7_3).f1)).size + 2) = False := eq_false (Nat.not_lt.2 c40)
                  (try have c40z : (9223372036854775807 < ((rd_T51 l0_4 x7_3).f0).size + 2 + ((rd_T51 l0_4 x7_3).f1).size + 2) = False := eq_false (Nat.not_lt.2 (by have q_ := c40; simp only [ByteArray.size_append] at q_; exact q_)));by_cases c41 : x6_3.size + (((((rd_T51 l0_4 x7_3).f0) ++ (⟨#[58, 32]⟩ : ByteArray)) ++ ((rd_T51 l0_4 x7_3).f1)) ++ (⟨#[13, 10]⟩ : ByteArray)).size ≤ 9223372036854775807
                  ·rw [if_pos c41] at H
                   have c41b0 := eq_true c41;have c41b1 : decide (x6_3.size + (((((rd_T51 l0_4 x7_3).f0) ++ (⟨#[58, 32]⟩ : ByteArray)) ++ ((rd_T51 l0_4 x7_3).f1)) ++ (⟨#[13, 10]⟩ : ByteArray)).size ≤ 9223372036854775807) = true := decide_eq_true c41;try have c41b2 : (9223372036854775807 < x6_3.size + (((((rd_T51 l0_4 x7_3).f0) ++ (⟨#[58, 32]⟩ : ByteArray)) ++ ((rd_T51 l0_4 x7_3).f1)) ++ (⟨#[13, 10]⟩ : ByteArray)).size) = False := eq_false (Nat.not_lt.2 c41)
                   (try have c41z : (9223372036854775807 < x6_3.size + (((rd_T51 l0_4 x7_3).f0).size + 2 + ((rd_T51 l0_4 x7_3).f1).size + 2)) = False := eq_false (Nat.not_lt.2 (by have q_ := c41; simp only [ByteArray.size_append] at q_; exact q_)));have H' := Aside0.mk H;clear H;obtain ⟨hcz42_0, hcz42_1, hcz42_2, hcz42_3, hcz42_4, hfz42_0, hfz42_1, hfz42_2, hfz42_3, hfz42_4⟩ := blk5 pa.out;have p232 : 0 ≤ (x7_3 : Int) := of_decide_eq_true as_;have q232 : x7_3 < (l0_4.length : Int) := of_decide_eq_true as_;obtain ⟨pf, e232, hx232_0, hx232_1⟩ := at_T51 pc.out x7_3 p232 q232;cases e232;replace hx232_0 := (HB.out.cell (World.block_lt_of_cell? w _ hx232_0)).trans hx232_0;replace hx232_1 := (HB.out.cell (World.block_lt_of_cell? w _ hx232_1)).trans hx232_1;replace p232 := eq_true p232;replace q232 := eq_true q232;go_wp2_with (first | (go_at_call 27; (with_reducible refine (tollref05_Token.calls k3 ((rd_T51 l0_4 x7_3).f0) true _ A34.out).mono ?_); rintro e w' ⟨rfl, ⟨nd, rfl⟩⟩; (try first | exact ⟨rfl, _, World.drewN_drewN _ _ _⟩ | exact ⟨rfl, _, Eq.trans (World.drewN_drewN _ _ _) (congrArg (World.drewN _) (Nat.add_assoc _ _ _))⟩); have p234 : 0 ≤ (x7_3 : Int) := of_decide_eq_true as_; have q234 : x7_3 < (l0_4.length : Int) := of_decide_eq_true as_; obtain ⟨pi, e234, hx234_0, hx234_1⟩ := at_T51 pc.out x7_3 p234 q234; obtain rfl : pf = pi := (by injection e234); replace hx234_0 := (HB.out.cell (World.block_lt_of_cell? w _ hx234_0)).trans hx234_0; replace hx234_1 := (HB.out.cell (World.block_lt_of_cell? w _ hx234_1)).trans hx234_1; replace p234 := eq_true p234; replace q234 := eq_true q234) | (go_at_call 28; (with_reducible refine (tollref05_Value.calls k3 ((rd_T51 l0_4 x7_3).f1) true _ A36.out).mono ?_); rintro e w' ⟨rfl, ⟨nd, rfl⟩⟩; (try first | exact ⟨rfl, _, World.drewN_drewN _ _ _⟩ | exact ⟨rfl, _, Eq.trans (World.drewN_drewN _ _ _) (congrArg (World.drewN _) (Nat.add_assoc _ _ _))⟩); have p236 : 0 ≤ (x7_3 : Int) := of_decide_eq_true as_; have q236 : x7_3 < (l0_4.length : Int) := of_decide_eq_true as_; obtain ⟨pu, e236, hx236_0, hx236_1⟩ := at_T51 pc.out x7_3 p236 q236; obtain rfl : pf = pu := (by injection e236); replace hx236_0 := (HB.out.cell (World.block_lt_of_cell? w _ hx236_0)).trans hx236_0; replace hx236_1 := (HB.out.cell (World.block_lt_of_cell? w _ hx236_1)).trans hx236_1; replace p236 := eq_true p236; replace q236 := eq_true q236; have p237 : 0 ≤ (x7_3 : Int) := of_decide_eq_true as_; have q237 : x7_3 < (l0_4.length : Int) := of_decide_eq_true as_; obtain ⟨pv, e237, hx237_0, hx237_1⟩ := at_T51 pc.out x7_3 p237 q237; obtain rfl : pf = pv := (by injection e237); replace hx237_0 := (HB.out.cell (World.block_lt_of_cell? w _ hx237_0)).trans hx237_0; replace hx237_1 := (HB.out.cell (World.block_lt_of_cell? w _ hx237_1)).trans hx237_1; replace p237 := eq_true p237; replace q237 := eq_true q237))
                   repeat (go_quiet (first | (go_at_call 27; (with_reducible refine (tollref05_Token.calls k3 ((rd_T51 l0_4 x7_3).f0) true _ A34.out).mono ?_); rintro e w' ⟨rfl, ⟨nd, rfl⟩⟩; (try first | exact ⟨rfl, _, World.drewN_drewN _ _ _⟩ | exact ⟨rfl, _, Eq.trans (World.drewN_drewN _ _ _) (congrArg (World.drewN _) (Nat.add_assoc _ _ _))⟩); have p234 : 0 ≤ (x7_3 : Int) := of_decide_eq_true as_; have q234 : x7_3 < (l0_4.length : Int) := of_decide_eq_true as_; obtain ⟨pi, e234, hx234_0, hx234_1⟩ := at_T51 pc.out x7_3 p234 q234; obtain rfl : pf = pi := (by injection e234); replace hx234_0 := (HB.out.cell (World.block_lt_of_cell? w _ hx234_0)).trans hx234_0; replace hx234_1 := (HB.out.cell (World.block_lt_of_cell? w _ hx234_1)).trans hx234_1; replace p234 := eq_true p234; replace q234 := eq_true q234) | (go_at_call 28; (with_reducible refine (tollref05_Value.calls k3 ((rd_T51 l0_4 x7_3).f1) true _ A36.out).mono ?_); rintro e w' ⟨rfl, ⟨nd, rfl⟩⟩; (try first | exact ⟨rfl, _, World.drewN_drewN _ _ _⟩ | exact ⟨rfl, _, Eq.trans (World.drewN_drewN _ _ _) (congrArg (World.drewN _) (Nat.add_assoc _ _ _))⟩); have p236 : 0 ≤ (x7_3 : Int) := of_decide_eq_true as_; have q236 : x7_3 < (l0_4.length : Int) := of_decide_eq_true as_; obtain ⟨pu, e236, hx236_0, hx236_1⟩ := at_T51 pc.out x7_3 p236 q236; obtain rfl : pf = pu := (by injection e236); replace hx236_0 := (HB.out.cell (World.block_lt_of_cell? w _ hx236_0)).trans hx236_0; replace hx236_1 := (HB.out.cell (World.block_lt_of_cell? w _ hx236_1)).trans hx236_1; replace p236 := eq_true p236; replace q236 := eq_true q236; have p237 : 0 ≤ (x7_3 : Int) := of_decide_eq_true as_; have q237 : x7_3 < (l0_4.length : Int) := of_decide_eq_true as_; obtain ⟨pv, e237, hx237_0, hx237_1⟩ := at_T51 pc.out x7_3 p237 q237; obtain rfl : pf = pv := (by injection e237); replace hx237_0 := (HB.out.cell (World.block_lt_of_cell? w _ hx237_0)).trans hx237_0; replace hx237_1 := (HB.out.cell (World.block_lt_of_cell? w _ hx237_1)).trans hx237_1; replace p237 := eq_true p237; replace q237 := eq_true q237)); try go_wp2_with (first | (go_at_call 27; (with_reducible refine (tollref05_Token.calls k3 ((rd_T51 l0_4 x7_3).f0) true _ A34.out).mono ?_); rintro e w' ⟨rfl, ⟨nd, rfl⟩⟩; (try first | exact ⟨rfl, _, World.drewN_drewN _ _ _⟩ | exact ⟨rfl, _, Eq.trans (World.drewN_drewN _ _ _) (congrArg (World.drewN _) (Nat.add_assoc _ _ _))⟩); have p234 : 0 ≤ (x7_3 : Int) := of_decide_eq_true as_; have q234 : x7_3 < (l0_4.length : Int) := of_decide_eq_true as_; obtain ⟨pi, e234, hx234_0, hx234_1⟩ := at_T51 pc.out x7_3 p234 q234; obtain rfl : pf = pi := (by injection e234); replace hx234_0 := (HB.out.cell (World.block_lt_of_cell? w _ hx234_0)).trans hx234_0; replace hx234_1 := (HB.out.cell (World.block_lt_of_cell? w _ hx234_1)).trans hx234_1; replace p234 := eq_true p234; replace q234 := eq_true q234) | (go_at_call 28; (with_reducible refine (tollref05_Value.calls k3 ((rd_T51 l0_4 x7_3).f1) true _ A36.out).mono ?_); rintro e w' ⟨rfl, ⟨nd, rfl⟩⟩; (try first | exact ⟨rfl, _, World.drewN_drewN _ _ _⟩ | exact ⟨rfl, _, Eq.trans (World.drewN_drewN _ _ _) (congrArg (World.drewN _) (Nat.add_assoc _ _ _))⟩); have p236 : 0 ≤ (x7_3 : Int) := of_decide_eq_true as_; have q236 : x7_3 < (l0_4.length : Int) := of_decide_eq_true as_; obtain ⟨pu, e236, hx236_0, hx236_1⟩ := at_T51 pc.out x7_3 p236 q236; obtain rfl : pf = pu := (by injection e236); replace hx236_0 := (HB.out.cell (World.block_lt_of_cell? w _ hx236_0)).trans hx236_0; replace hx236_1 := (HB.out.cell (World.block_lt_of_cell? w _ hx236_1)).trans hx236_1; replace p236 := eq_true p236; replace q236 := eq_true q236; have p237 : 0 ≤ (x7_3 : Int) := of_decide_eq_true as_; have q237 : x7_3 < (l0_4.length : Int) := of_decide_eq_true as_; obtain ⟨pv, e237, hx237_0, hx237_1⟩ := at_T51 pc.out x7_3 p237 q237; obtain rfl : pf = pv := (by injection e237); replace hx237_0 := (HB.out.cell (World.block_lt_of_cell? w _ hx237_0)).trans hx237_0; replace hx237_1 := (HB.out.cell (World.block_lt_of_cell? w _ hx237_1)).trans hx237_1; replace p237 := eq_true p237; replace q237 := eq_true q237)))
                   go_roundg k3
                   case measure => have := HJ2.out; have := HJ22.out; have := HK3.out; omega
                   case rel => exact ⟨(x6_3 ++ (((((rd_T51 l0_4 x7_3).f0) ++ (⟨#[58, 32]⟩ : ByteArray)) ++ ((rd_T51 l0_4 x7_3).f1)) ++ (⟨#[13, 10]⟩ : ByteArray))), (wrap64 (x7_3 + 1)), sd_, sd_, H', ⟨by have := HJ2.out; have := HJ22.out; have := HK3.out; omega⟩, ⟨by (with_reducible repeat (first | refine blk_drewN ?_ _ | refine blk_drew ?_ | refine blk_alloc ?_ _)); exact pa.out⟩, ⟨bel_ HB.out⟩⟩
                  ·rw [if_neg c41] at H
                   exact absurd H (by simp)
                 ·rw [if_neg c40] at H
                  exact absurd H (by simp)
                ·rw [if_neg c39] at H
                 exact absurd H (by simp)
               ·rw [if_neg c38] at H
                exact absurd H (by simp)
              ·replace c37 := Bool.eq_false_iff.mpr c37
               subst c37;have H1 : (some ((⟨#[]⟩ : ByteArray), 1)) = some (r1, r2) := by rw [if_neg (show ¬ (false = true) by decide)] at H; exact H
               clear H;have H := H1;clear H1;simp only [Option.some.injEq, Prod.mk.injEq] at H;obtain ⟨rfl, rfl⟩ := H;obtain ⟨hcz43_0, hcz43_1, hcz43_2, hcz43_3, hcz43_4, hfz43_0, hfz43_1, hfz43_2, hfz43_3, hfz43_4⟩ := blk5 pa.out;have p232 : 0 ≤ (x7_3 : Int) := of_decide_eq_true as_;have q232 : x7_3 < (l0_4.length : Int) := of_decide_eq_true as_;obtain ⟨pf, e232, hx232_0, hx232_1⟩ := at_T51 pc.out x7_3 p232 q232;cases e232;replace hx232_0 := (HB.out.cell (World.block_lt_of_cell? w _ hx232_0)).trans hx232_0;replace hx232_1 := (HB.out.cell (World.block_lt_of_cell? w _ hx232_1)).trans hx232_1;replace p232 := eq_true p232;replace q232 := eq_true q232;go_wp2_with (first | (go_at_call 27; (with_reducible refine (tollref05_Token.calls k3 ((rd_T51 l0_4 x7_3).f0) true _ A34.out).mono ?_); rintro e w' ⟨rfl, ⟨nd, rfl⟩⟩; (try first | exact ⟨rfl, _, World.drewN_drewN _ _ _⟩ | exact ⟨rfl, _, Eq.trans (World.drewN_drewN _ _ _) (congrArg (World.drewN _) (Nat.add_assoc _ _ _))⟩); have p234 : 0 ≤ (x7_3 : Int) := of_decide_eq_true as_; have q234 : x7_3 < (l0_4.length : Int) := of_decide_eq_true as_; obtain ⟨pi, e234, hx234_0, hx234_1⟩ := at_T51 pc.out x7_3 p234 q234; obtain rfl : pf = pi := (by injection e234); replace hx234_0 := (HB.out.cell (World.block_lt_of_cell? w _ hx234_0)).trans hx234_0; replace hx234_1 := (HB.out.cell (World.block_lt_of_cell? w _ hx234_1)).trans hx234_1; replace p234 := eq_true p234; replace q234 := eq_true q234) | (go_at_call 28; (with_reducible refine (tollref05_Value.calls k3 ((rd_T51 l0_4 x7_3).f1) false _ A36.out).mono ?_); rintro e w' ⟨rfl, ⟨nd, rfl⟩⟩; (try first | exact ⟨rfl, _, World.drewN_drewN _ _ _⟩ | exact ⟨rfl, _, Eq.trans (World.drewN_drewN _ _ _) (congrArg (World.drewN _) (Nat.add_assoc _ _ _))⟩)))
               repeat (go_quiet (first | (go_at_call 27; (with_reducible refine (tollref05_Token.calls k3 ((rd_T51 l0_4 x7_3).f0) true _ A34.out).mono ?_); rintro e w' ⟨rfl, ⟨nd, rfl⟩⟩; (try first | exact ⟨rfl, _, World.drewN_drewN _ _ _⟩ | exact ⟨rfl, _, Eq.trans (World.drewN_drewN _ _ _) (congrArg (World.drewN _) (Nat.add_assoc _ _ _))⟩); have p234 : 0 ≤ (x7_3 : Int) := of_decide_eq_true as_; have q234 : x7_3 < (l0_4.length : Int) := of_decide_eq_true as_; obtain ⟨pi, e234, hx234_0, hx234_1⟩ := at_T51 pc.out x7_3 p234 q234; obtain rfl : pf = pi := (by injection e234); replace hx234_0 := (HB.out.cell (World.block_lt_of_cell? w _ hx234_0)).trans hx234_0; replace hx234_1 := (HB.out.cell (World.block_lt_of_cell? w _ hx234_1)).trans hx234_1; replace p234 := eq_true p234; replace q234 := eq_true q234) | (go_at_call 28; (with_reducible refine (tollref05_Value.calls k3 ((rd_T51 l0_4 x7_3).f1) false _ A36.out).mono ?_); rintro e w' ⟨rfl, ⟨nd, rfl⟩⟩; (try first | exact ⟨rfl, _, World.drewN_drewN _ _ _⟩ | exact ⟨rfl, _, Eq.trans (World.drewN_drewN _ _ _) (congrArg (World.drewN _) (Nat.add_assoc _ _ _))⟩))); try go_wp2_with (first | (go_at_call 27; (with_reducible refine (tollref05_Token.calls k3 ((rd_T51 l0_4 x7_3).f0) true _ A34.out).mono ?_); rintro e w' ⟨rfl, ⟨nd, rfl⟩⟩; (try first | exact ⟨rfl, _, World.drewN_drewN _ _ _⟩ | exact ⟨rfl, _, Eq.trans (World.drewN_drewN _ _ _) (congrArg (World.drewN _) (Nat.add_assoc _ _ _))⟩); have p234 : 0 ≤ (x7_3 : Int) := of_decide_eq_true as_; have q234 : x7_3 < (l0_4.length : Int) := of_decide_eq_true as_; obtain ⟨pi, e234, hx234_0, hx234_1⟩ := at_T51 pc.out x7_3 p234 q234; obtain rfl : pf = pi := (by injection e234); replace hx234_0 := (HB.out.cell (World.block_lt_of_cell? w _ hx234_0)).trans hx234_0; replace hx234_1 := (HB.out.cell (World.block_lt_of_cell? w _ hx234_1)).trans hx234_1; replace p234 := eq_true p234; replace q234 := eq_true q234) | (go_at_call 28; (with_reducible refine (tollref05_Value.calls k3 ((rd_T51 l0_4 x7_3).f1) false _ A36.out).mono ?_); rintro e w' ⟨rfl, ⟨nd, rfl⟩⟩; (try first | exact ⟨rfl, _, World.drewN_drewN _ _ _⟩ | exact ⟨rfl, _, Eq.trans (World.drewN_drewN _ _ _) (congrArg (World.drewN _) (Nat.add_assoc _ _ _))⟩))))
               go_ret2
               exact ⟨fi_, bel_ HB.out⟩
             ·replace c35 := Bool.eq_false_iff.mpr c35
              subst c35;have H1 : (some ((⟨#[]⟩ : ByteArray), 1)) = some (r1, r2) := by rw [if_neg (show ¬ (false = true) by decide)] at H; exact H
              clear H;have H := H1;clear H1;simp only [Option.some.injEq, Prod.mk.injEq] at H;obtain ⟨rfl, rfl⟩ := H;obtain ⟨hcz44_0, hcz44_1, hcz44_2, hcz44_3, hcz44_4, hfz44_0, hfz44_1, hfz44_2, hfz44_3, hfz44_4⟩ := blk5 pa.out;have p232 : 0 ≤ (x7_3 : Int) := of_decide_eq_true as_;have q232 : x7_3 < (l0_4.length : Int) := of_decide_eq_true as_;obtain ⟨pf, e232, hx232_0, hx232_1⟩ := at_T51 pc.out x7_3 p232 q232;cases e232;replace hx232_0 := (HB.out.cell (World.block_lt_of_cell? w _ hx232_0)).trans hx232_0;replace hx232_1 := (HB.out.cell (World.block_lt_of_cell? w _ hx232_1)).trans hx232_1;replace p232 := eq_true p232;replace q232 := eq_true q232;go_wp2_with (first | (go_at_call 27; (with_reducible refine (tollref05_Token.calls k3 ((rd_T51 l0_4 x7_3).f0) false _ A34.out).mono ?_); rintro e w' ⟨rfl, ⟨nd, rfl⟩⟩; (try first | exact ⟨rfl, _, World.drewN_drewN _ _ _⟩ | exact ⟨rfl, _, Eq.trans (World.drewN_drewN _ _ _) (congrArg (World.drewN _) (Nat.add_assoc _ _ _))⟩)))
              repeat (go_quiet (first | (go_at_call 27; (with_reducible refine (tollref05_Token.calls k3 ((rd_T51 l0_4 x7_3).f0) false _ A34.out).mono ?_); rintro e w' ⟨rfl, ⟨nd, rfl⟩⟩; (try first | exact ⟨rfl, _, World.drewN_drewN _ _ _⟩ | exact ⟨rfl, _, Eq.trans (World.drewN_drewN _ _ _) (congrArg (World.drewN _) (Nat.add_assoc _ _ _))⟩))); try go_wp2_with (first | (go_at_call 27; (with_reducible refine (tollref05_Token.calls k3 ((rd_T51 l0_4 x7_3).f0) false _ A34.out).mono ?_); rintro e w' ⟨rfl, ⟨nd, rfl⟩⟩; (try first | exact ⟨rfl, _, World.drewN_drewN _ _ _⟩ | exact ⟨rfl, _, Eq.trans (World.drewN_drewN _ _ _) (congrArg (World.drewN _) (Nat.add_assoc _ _ _))⟩))))
              go_ret2
              exact ⟨fi_, bel_ HB.out⟩
            ·rw [if_neg c33] at H
             exact absurd H (by simp)
           ·rw [if_neg c32] at H
            have c32b0 : decide (x7_3 < (l0_4.length : Int)) = false := decide_eq_false c32;clear c32;by_cases c45 : x6_3.size + 2 ≤ 9223372036854775807
            ·rw [if_pos c45] at H
             have c45b0 := eq_true c45;have c45b1 : decide (x6_3.size + 2 ≤ 9223372036854775807) = true := decide_eq_true c45;try have c45b2 : (9223372036854775807 < x6_3.size + 2) = False := eq_false (Nat.not_lt.2 c45)
             by_cases c46 : ((x6_3 ++ (⟨#[13, 10]⟩ : ByteArray)).size : Int) > 1000
             ·rw [if_pos c46] at H
              have c46b0 : decide (1000 < ((x6_3 ++ (⟨#[13, 10]⟩ : ByteArray)).size : Int)) = true := decide_eq_true c46;have c46w : decide (1000 < (x6_3.size : Int) + 2) = true := decide_eq_true (by have q_ := of_decide_eq_true c46b0; rw [show (x6_3 ++ (⟨#[13, 10]⟩ : ByteArray)).size = x6_3.size + 2 from by simp only [ByteArray.size_append]; rfl] at q_; omega);have c46b1 : decide (1000 < (x6_3 ++ (⟨#[13, 10]⟩ : ByteArray)).size) = true := decide_eq_true (by omega);clear c46;simp only [Option.some.injEq, Prod.mk.injEq] at H;obtain ⟨rfl, rfl⟩ := H;obtain ⟨hcz47_0, hcz47_1, hcz47_2, hcz47_3, hcz47_4, hfz47_0, hfz47_1, hfz47_2, hfz47_3, hfz47_4⟩ := blk5 pa.out;go_wp2
              repeat (go_quiet (fail); try go_wp2)
              go_ret2
              exact ⟨fi_, bel_ HB.out⟩
             ·rw [if_neg c46] at H
              have c46b0 : decide (1000 < ((x6_3 ++ (⟨#[13, 10]⟩ : ByteArray)).size : Int)) = false := decide_eq_false c46;have c46w : decide (1000 < (x6_3.size : Int) + 2) = false := decide_eq_false (by have q_ := of_decide_eq_false c46b0; rw [show (x6_3 ++ (⟨#[13, 10]⟩ : ByteArray)).size = x6_3.size + 2 from by simp only [ByteArray.size_append]; rfl] at q_; omega);have c46b1 : decide (1000 < (x6_3 ++ (⟨#[13, 10]⟩ : ByteArray)).size) = false := decide_eq_false (by omega);clear c46;simp only [Option.some.injEq, Prod.mk.injEq] at H;obtain ⟨rfl, rfl⟩ := H;obtain ⟨hcz48_0, hcz48_1, hcz48_2, hcz48_3, hcz48_4, hfz48_0, hfz48_1, hfz48_2, hfz48_3, hfz48_4⟩ := blk5 pa.out;go_wp2
              repeat (go_quiet (fail); try go_wp2)
              go_ret2
              exact ⟨fi_, bel_ HB.out⟩
            ·rw [if_neg c45] at H
             exact absurd H (by simp)
        ·rw [if_neg c31] at H
         exact absurd H (by simp)
     ·rw [if_neg c22] at H
      exact absurd H (by simp)
    ·rw [if_neg c21] at H
     exact absurd H (by simp)

/-! ### stringslite_Cut: function 93 -/
def stringslite_Cut.f (k : Nat) (a0 : ByteArray) (a1 : ByteArray) : Option (ByteArray × ByteArray × Bool) := (stringslite_Index.f k a0 a1).bind fun pb => (if pb ≥ 0 then (if 0 ≤ pb then (if pb ≤ (a0.size : Int) then (if 0 ≤ (wrap64 (pb + (a1.size : Int))) then (if (wrap64 (pb + (a1.size : Int))) ≤ (a0.size : Int) then (some (a0.extract 0 (pb : Int).toNat, a0.extract ((wrap64 (pb + (a1.size : Int))) : Int).toNat a0.size, true)) else (none)) else (none)) else (none)) else (none)) else (some (a0, (⟨#[]⟩ : ByteArray), false)))
theorem stringslite_Cut.mono : ∀ a0 a1 k, LeO (stringslite_Cut.f k a0 a1) (stringslite_Cut.f (k + 1) a0 a1) := by
 intro a0 a1 k;unfold stringslite_Cut.f;repeat' first
   | (with_reducible exact stringslite_Index.mono _ _ _)
   | (with_reducible exact LeO.refl _)
   | (with_reducible exact LeO.none _)
   | (with_reducible refine LeO.ite ?_ ?_)
   | (with_reducible refine LeO.bind ?_ (fun _ => ?_))
   | exact stringslite_Index.mono _ _ _
   | exact LeO.none _
   | refine LeO.ite ?_ ?_
   | refine LeO.bind ?_ (fun _ => ?_)
set_option maxHeartbeats 8000000 in
set_option maxRecDepth 100000 in
theorem stringslite_Cut.calls (k : Nat) (a0 : ByteArray) (a1 : ByteArray) (r1 : ByteArray) (r2 : ByteArray) (r3 : Bool) (w : World) (h : stringslite_Cut.f k a0 a1 = some (r1, r2, r3)) :
  Calls Tryz.prog 93 #[.string a0, .string a1] w fun e w' => e = .returned (.tuple #[.string r1, .string r2, .bool r3]) ∧ Drawn0 w w' := by
 have H : ((stringslite_Index.f k a0 a1).bind fun pb => (if pb ≥ 0 then (if 0 ≤ pb then (if pb ≤ (a0.size : Int) then (if 0 ≤ (wrap64 (pb + (a1.size : Int))) then (if (wrap64 (pb + (a1.size : Int))) ≤ (a0.size : Int) then (some (a0.extract 0 (pb : Int).toNat, a0.extract ((wrap64 (pb + (a1.size : Int))) : Int).toNat a0.size, true)) else (none)) else (none)) else (none)) else (none)) else (some (a0, (⟨#[]⟩ : ByteArray), false)))) = some (r1, r2, r3) := h;clear h;replace H := Option.bind_eq_some_iff.mp H;obtain ⟨pb, A30, H⟩ := H;replace H : (if pb ≥ 0 then (if 0 ≤ pb then (if pb ≤ (a0.size : Int) then (if 0 ≤ (wrap64 (pb + (a1.size : Int))) then (if (wrap64 (pb + (a1.size : Int))) ≤ (a0.size : Int) then (some (a0.extract 0 (pb : Int).toNat, a0.extract ((wrap64 (pb + (a1.size : Int))) : Int).toNat a0.size, true)) else (none)) else (none)) else (none)) else (none)) else (some (a0, (⟨#[]⟩ : ByteArray), false))) = some (r1, r2, r3) := H;have A3 := Aside0.mk A30;clear A30;by_cases c4 : pb ≥ 0
 ·rw [if_pos c4] at H
  have c4b0 : decide (0 ≤ pb) = true := decide_eq_true c4;clear c4;by_cases c5 : 0 ≤ pb
  ·rw [if_pos c5] at H
   have c5b0 := eq_true c5;have c5b1 : decide (0 ≤ pb) = true := decide_eq_true c5;clear c5;by_cases c6 : pb ≤ (a0.size : Int)
   ·rw [if_pos c6] at H
    have c6b0 := eq_true c6;have c6b1 : decide (pb ≤ (a0.size : Int)) = true := decide_eq_true c6;clear c6;obtain ⟨ji7, hji7⟩ : ∃ j_ : Int, (wrap64 (pb + (a1.size : Int))) = j_ := ⟨_, rfl⟩;replace H : (if 0 ≤ (ji7) then (if (ji7) ≤ (a0.size : Int) then (some (a0.extract 0 (pb : Int).toNat, a0.extract ((ji7) : Int).toNat a0.size, true)) else (none)) else (none)) = some (r1, r2, r3) := by first | (rw [hji7] at H; exact H) | (simp only [hji7] at H ⊢; exact H)
    (try rw [hji7] at A3);have hji7w : (IntKind.i64.wrap (pb + (a1.size : Int))) = ji7 := (i64_w _).trans hji7;by_cases c8 : 0 ≤ (ji7)
    ·rw [if_pos c8] at H
     have c8b0 := eq_true c8;have c8b1 : decide (0 ≤ (ji7)) = true := decide_eq_true c8;clear c8;by_cases c9 : (ji7) ≤ (a0.size : Int)
     ·rw [if_pos c9] at H
      have c9b0 := eq_true c9;have c9b1 : decide ((ji7) ≤ (a0.size : Int)) = true := decide_eq_true c9;clear c9;simp only [Option.some.injEq, Prod.mk.injEq] at H;obtain ⟨rfl, rfl, rfl⟩ := H;go_enter Tryz.func93, Tryz.ntmps93
      go_wp2_with (first | (go_at_call 45; (with_reducible refine (stringslite_Index.calls k a0 a1 pb _ A3.out).mono ?_); rintro e w' ⟨rfl, ⟨nd, rfl⟩⟩; (try first | exact ⟨rfl, _, World.drewN_drewN _ _ _⟩ | exact ⟨rfl, _, Eq.trans (World.drewN_drewN _ _ _) (congrArg (World.drewN _) (Nat.add_assoc _ _ _))⟩)))
      repeat (go_quiet (first | (go_at_call 45; (with_reducible refine (stringslite_Index.calls k a0 a1 pb _ A3.out).mono ?_); rintro e w' ⟨rfl, ⟨nd, rfl⟩⟩; (try first | exact ⟨rfl, _, World.drewN_drewN _ _ _⟩ | exact ⟨rfl, _, Eq.trans (World.drewN_drewN _ _ _) (congrArg (World.drewN _) (Nat.add_assoc _ _ _))⟩))); try go_wp2_with (first | (go_at_call 45; (with_reducible refine (stringslite_Index.calls k a0 a1 pb _ A3.out).mono ?_); rintro e w' ⟨rfl, ⟨nd, rfl⟩⟩; (try first | exact ⟨rfl, _, World.drewN_drewN _ _ _⟩ | exact ⟨rfl, _, Eq.trans (World.drewN_drewN _ _ _) (congrArg (World.drewN _) (Nat.add_assoc _ _ _))⟩))))
      go_ret3
      exact ⟨by first | rfl | (simp; done) | (simp only [← hji7] <;> (first | rfl | simp)) | (simp [*]; done), by repeat (first | exact Drawn0.refl _ | apply Drawn0.step)⟩
     ·rw [if_neg c9] at H
      exact absurd H (by simp)
    ·rw [if_neg c8] at H
     exact absurd H (by simp)
   ·rw [if_neg c6] at H
    exact absurd H (by simp)
  ·rw [if_neg c5] at H
   exact absurd H (by simp)
 ·rw [if_neg c4] at H
  have c4b0 : decide (0 ≤ pb) = false := decide_eq_false c4;clear c4;simp only [Option.some.injEq, Prod.mk.injEq] at H;obtain ⟨rfl, rfl, rfl⟩ := H;go_enter Tryz.func93, Tryz.ntmps93
  go_wp2_with (first | (go_at_call 45; (with_reducible refine (stringslite_Index.calls k a0 a1 pb _ A3.out).mono ?_); rintro e w' ⟨rfl, ⟨nd, rfl⟩⟩; (try first | exact ⟨rfl, _, World.drewN_drewN _ _ _⟩ | exact ⟨rfl, _, Eq.trans (World.drewN_drewN _ _ _) (congrArg (World.drewN _) (Nat.add_assoc _ _ _))⟩)))
  repeat (go_quiet (first | (go_at_call 45; (with_reducible refine (stringslite_Index.calls k a0 a1 pb _ A3.out).mono ?_); rintro e w' ⟨rfl, ⟨nd, rfl⟩⟩; (try first | exact ⟨rfl, _, World.drewN_drewN _ _ _⟩ | exact ⟨rfl, _, Eq.trans (World.drewN_drewN _ _ _) (congrArg (World.drewN _) (Nat.add_assoc _ _ _))⟩))); try go_wp2_with (first | (go_at_call 45; (with_reducible refine (stringslite_Index.calls k a0 a1 pb _ A3.out).mono ?_); rintro e w' ⟨rfl, ⟨nd, rfl⟩⟩; (try first | exact ⟨rfl, _, World.drewN_drewN _ _ _⟩ | exact ⟨rfl, _, Eq.trans (World.drewN_drewN _ _ _) (congrArg (World.drewN _) (Nat.add_assoc _ _ _))⟩))))
  go_ret3
  exact ⟨by first | rfl | (simp; done) | (simp [*]; done) | (simp [bne_nil_isEmpty, beq_nil_isEmpty]; done) | (simp [*, bne_nil_isEmpty, beq_nil_isEmpty]; done), by repeat (first | exact Drawn0.refl _ | apply Drawn0.step)⟩

/-! ### strings_Cut: function 78 -/
def strings_Cut.f (k : Nat) (a0 : ByteArray) (a1 : ByteArray) : Option (ByteArray × ByteArray × Bool) := (stringslite_Cut.f k a0 a1).bind fun bt239 => (some (bt239.1, bt239.2.1, bt239.2.2))
theorem strings_Cut.mono : ∀ a0 a1 k, LeO (strings_Cut.f k a0 a1) (strings_Cut.f (k + 1) a0 a1) := by
 intro a0 a1 k;unfold strings_Cut.f;repeat' first
   | (with_reducible exact stringslite_Cut.mono _ _ _)
   | (with_reducible exact LeO.refl _)
   | (with_reducible exact LeO.none _)
   | (with_reducible refine LeO.ite ?_ ?_)
   | (with_reducible refine LeO.bind ?_ (fun _ => ?_))
   | exact stringslite_Cut.mono _ _ _
   | exact LeO.none _
   | refine LeO.ite ?_ ?_
   | refine LeO.bind ?_ (fun _ => ?_)
set_option maxHeartbeats 8000000 in
set_option maxRecDepth 100000 in
theorem strings_Cut.calls (k : Nat) (a0 : ByteArray) (a1 : ByteArray) (r1 : ByteArray) (r2 : ByteArray) (r3 : Bool) (w : World) (h : strings_Cut.f k a0 a1 = some (r1, r2, r3)) :
  Calls Tryz.prog 78 #[.string a0, .string a1] w fun e w' => e = .returned (.tuple #[.string r1, .string r2, .bool r3]) ∧ Drawn0 w w' := by
 have H : ((stringslite_Cut.f k a0 a1).bind fun bt239 => (some (bt239.1, bt239.2.1, bt239.2.2))) = some (r1, r2, r3) := h;clear h;replace H := Option.bind_eq_some_iff.mp H;obtain ⟨⟨pz, pA, pB⟩, A30, H⟩ := H;replace H : (some (pz, pA, pB)) = some (r1, r2, r3) := H;have A3 := Aside0.mk A30;clear A30;simp only [Option.some.injEq, Prod.mk.injEq] at H;obtain ⟨rfl, rfl, rfl⟩ := H;go_enter Tryz.func78, Tryz.ntmps78
 go_wp2_with (first | ((with_reducible refine gate_callee (f := 93) rfl ?_); refine goesL_ (some 9) rfl rfl Tryz.func93 kr_ rfl #[.string a0, .string a1] rfl rl_ ?_; (with_reducible refine (stringslite_Cut.calls k a0 a1 pz pA pB _ A3.out).mono ?_); rintro e w' ⟨rfl, ⟨nd, rfl⟩⟩; refine ⟨_, rfl, ?_⟩))
 go_ret3
 exact ⟨by first | rfl | (simp; done) | (simp [*]; done) | (simp [bne_nil_isEmpty, beq_nil_isEmpty]; done) | (simp [*, bne_nil_isEmpty, beq_nil_isEmpty]; done), by repeat (first | exact Drawn0.refl _ | apply Drawn0.step)⟩

/-! ### query_digit: function 102 -/
def query_digit.f (a0 : Int) : Option (Int) := if a0 ≥ 97 then (if a0 ≤ 102 then ((strings_IndexByte.f (⟨#[48, 49, 50, 51, 52, 53, 54, 55, 56, 57, 65, 66, 67, 68, 69, 70]⟩ : ByteArray) ((a0 - 32) % 256)).bind fun pq => (some pq)) else ((strings_IndexByte.f (⟨#[48, 49, 50, 51, 52, 53, 54, 55, 56, 57, 65, 66, 67, 68, 69, 70]⟩ : ByteArray) a0).bind fun pr => (some pr))) else ((strings_IndexByte.f (⟨#[48, 49, 50, 51, 52, 53, 54, 55, 56, 57, 65, 66, 67, 68, 69, 70]⟩ : ByteArray) a0).bind fun ps => (some ps))
set_option maxHeartbeats 8000000 in
set_option maxRecDepth 100000 in
theorem query_digit.calls (a0 : Int) (r : Int) (w : World) (h : query_digit.f a0 = some r) :
  Calls Tryz.prog 102 #[.int .u8 a0] w fun e w' => e = .returned (.int .i64 r) ∧ Drawn0 w w' := by
 have H : (if a0 ≥ 97 then (if a0 ≤ 102 then ((strings_IndexByte.f (⟨#[48, 49, 50, 51, 52, 53, 54, 55, 56, 57, 65, 66, 67, 68, 69, 70]⟩ : ByteArray) ((a0 - 32) % 256)).bind fun pq => (some pq)) else ((strings_IndexByte.f (⟨#[48, 49, 50, 51, 52, 53, 54, 55, 56, 57, 65, 66, 67, 68, 69, 70]⟩ : ByteArray) a0).bind fun pr => (some pr))) else ((strings_IndexByte.f (⟨#[48, 49, 50, 51, 52, 53, 54, 55, 56, 57, 65, 66, 67, 68, 69, 70]⟩ : ByteArray) a0).bind fun ps => (some ps))) = some r := h;clear h;by_cases c2 : a0 ≥ 97
 ·rw [if_pos c2] at H
  have c2b0 : decide (97 ≤ a0) = true := decide_eq_true c2;clear c2;by_cases c3 : a0 ≤ 102
  ·rw [if_pos c3] at H
   have c3b0 : decide (a0 ≤ 102) = true := decide_eq_true c3;clear c3;replace H := Option.bind_eq_some_iff.mp H;obtain ⟨pq, A40, H⟩ := H;replace H : (some pq) = some r := H;have A4 := Aside0.mk A40;clear A40;obtain rfl := Option.some.inj H;go_enter Tryz.func102, Tryz.ntmps102
   go_wp2_with (first | ((with_reducible refine gate_callee (f := 40) rfl ?_); refine goesL_ (some 12) rfl rfl Tryz.func40 kr_ rfl #[.string (⟨#[48, 49, 50, 51, 52, 53, 54, 55, 56, 57, 65, 66, 67, 68, 69, 70]⟩ : ByteArray), .int .u8 ((a0 - 32) % 256)] rfl rl_ ?_; (with_reducible refine (strings_IndexByte.calls (⟨#[48, 49, 50, 51, 52, 53, 54, 55, 56, 57, 65, 66, 67, 68, 69, 70]⟩ : ByteArray) ((a0 - 32) % 256) pq _ A4.out).mono ?_); rintro e w' ⟨rfl, ⟨nd, rfl⟩⟩; refine ⟨_, rfl, ?_⟩))
   go_ret
   exact ⟨by first | rfl | (simp; done) | (simp [*]; done) | (simp [bne_nil_isEmpty, beq_nil_isEmpty]; done) | (simp [*, bne_nil_isEmpty, beq_nil_isEmpty]; done), by repeat (first | exact Drawn0.refl _ | apply Drawn0.step)⟩
  ·rw [if_neg c3] at H
   have c3b0 : decide (a0 ≤ 102) = false := decide_eq_false c3;clear c3;replace H := Option.bind_eq_some_iff.mp H;obtain ⟨pr, A50, H⟩ := H;replace H : (some pr) = some r := H;have A5 := Aside0.mk A50;clear A50;obtain rfl := Option.some.inj H;go_enter Tryz.func102, Tryz.ntmps102
   go_wp2_with (first | ((with_reducible refine gate_callee (f := 40) rfl ?_); refine goesL_ (some 12) rfl rfl Tryz.func40 kr_ rfl #[.string (⟨#[48, 49, 50, 51, 52, 53, 54, 55, 56, 57, 65, 66, 67, 68, 69, 70]⟩ : ByteArray), .int .u8 a0] rfl rl_ ?_; (with_reducible refine (strings_IndexByte.calls (⟨#[48, 49, 50, 51, 52, 53, 54, 55, 56, 57, 65, 66, 67, 68, 69, 70]⟩ : ByteArray) a0 pr _ A5.out).mono ?_); rintro e w' ⟨rfl, ⟨nd, rfl⟩⟩; refine ⟨_, rfl, ?_⟩))
   go_ret
   exact ⟨by first | rfl | (simp; done) | (simp [*]; done) | (simp [bne_nil_isEmpty, beq_nil_isEmpty]; done) | (simp [*, bne_nil_isEmpty, beq_nil_isEmpty]; done), by repeat (first | exact Drawn0.refl _ | apply Drawn0.step)⟩
 ·rw [if_neg c2] at H
  have c2b0 : decide (97 ≤ a0) = false := decide_eq_false c2;clear c2;replace H := Option.bind_eq_some_iff.mp H;obtain ⟨ps, A60, H⟩ := H;replace H : (some ps) = some r := H;have A6 := Aside0.mk A60;clear A60;obtain rfl := Option.some.inj H;go_enter Tryz.func102, Tryz.ntmps102
  go_wp2_with (first | ((with_reducible refine gate_callee (f := 40) rfl ?_); refine goesL_ (some 12) rfl rfl Tryz.func40 kr_ rfl #[.string (⟨#[48, 49, 50, 51, 52, 53, 54, 55, 56, 57, 65, 66, 67, 68, 69, 70]⟩ : ByteArray), .int .u8 a0] rfl rl_ ?_; (with_reducible refine (strings_IndexByte.calls (⟨#[48, 49, 50, 51, 52, 53, 54, 55, 56, 57, 65, 66, 67, 68, 69, 70]⟩ : ByteArray) a0 ps _ A6.out).mono ?_); rintro e w' ⟨rfl, ⟨nd, rfl⟩⟩; refine ⟨_, rfl, ?_⟩))
  go_ret
  exact ⟨by first | rfl | (simp; done) | (simp [*]; done) | (simp [bne_nil_isEmpty, beq_nil_isEmpty]; done) | (simp [*, bne_nil_isEmpty, beq_nil_isEmpty]; done), by repeat (first | exact Drawn0.refl _ | apply Drawn0.step)⟩

end Go.Proofs.YtpmllmfamjpinaaGreatDoor.P
