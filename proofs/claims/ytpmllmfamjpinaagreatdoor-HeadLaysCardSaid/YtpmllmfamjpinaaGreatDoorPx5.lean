-- written by wip/tool/hprint.py of this repo: the kit's print, with contracts by hand joined; Lean checks it.
import Derived.Test.YtpmllmfamjpinaaGreatDoorPx0
import Derived.Test.YtpmllmfamjpinaaGreatDoorPx2
import Derived.Test.YtpmllmfamjpinaaGreatDoorPx3
import Derived.Test.YtpmllmfamjpinaaGreatDoorPx4
namespace Go.Proofs.YtpmllmfamjpinaaGreatDoor.P
open Go.RowKit Go.Proofs.YtpmllmfamjpinaaGreatDoorW.PrintWords Go.Proofs.YtpmllmfamjpinaaGreatDoorW.PrintLast Go.Proofs.YtpmllmfamjpinaaGreatDoorW.PrintMore
attribute [local go_sem] max2_int min2_int max_two min_two max_three min_three max_four min_four   -- for this text's walks alone
set_option linter.unusedVariables false
set_option linter.unusedSimpArgs false

/-! ### head_Lay: function 6 -/
-- as it is: this text keeps its own indents
def head_Lay.wt (l : List (S51)) : Nat := (l.map fun p => p.f0.size + p.f1.size + 4).sum
def head_Lay.row (k : Nat) (p : S51) : Option (Option (List UInt8)) := (pairs_Token.f k p.f0).bind fun a => if a = true then (pairs_Value.f k p.f1).bind fun b => if b = true then some (some (p.f0.data.toList ++ [58, 32] ++ p.f1.data.toList ++ [13, 10])) else some none else some none
def head_Lay.put (x y : Option (List UInt8)) : Option (List UInt8) := x.bind fun a => y.bind fun b => some (a ++ b)
def head_Lay.rows (k : Nat) : List (S51) → Option (Option (List UInt8))
  | [] => some (some [])
  | p :: r => (head_Lay.row k p).bind fun x => if x = none then some none else (head_Lay.rows k r).bind fun y => some (head_Lay.put x y)
def head_Lay.asks (x : ByteArray) : List UInt8 := if x.size = 0 then [] else 63 :: x.data.toList
def head_Lay.line (m p x : ByteArray) : List UInt8 := m.data.toList ++ [32] ++ p.data.toList ++ head_Lay.asks x ++ [32, 72, 84, 84, 80, 47, 49, 46, 49, 13, 10]
def head_Lay.end_ (a : List UInt8) : Option (List UInt8) → ByteArray × Int
  | none => (⟨#[]⟩, 1)
  | some z => if (a ++ z ++ [13, 10]).length > 1000 then (⟨#[]⟩, 5) else (⟨(a ++ z ++ [13, 10]).toArray⟩, 0)
def head_Lay.j0 (k : Nat) (m p : ByteArray) (l : List (S51)) (x : ByteArray) (b : Bool) : Option (ByteArray × Int) := if b = true then some ((⟨#[]⟩ : ByteArray), 1) else if m.size + p.size + x.size + head_Lay.wt l ≤ 100000000000000 then (head_Lay.rows k l).bind fun z => some (head_Lay.end_ (head_Lay.line m p x) z) else none
def head_Lay.f (k : Nat) (a0_0 : ByteArray) (a0_1 : ByteArray) (a0_2 : ByteArray) (l0_3 : List (S51)) (l0_4 : List (S51)) : Option (ByteArray × Int) := (query_Text.f k l0_3).bind fun bt336 => ((head_asked.f k l0_4).bind fun bt338 => (if bt336.2 = 0 then (if bt338.2 = true then (if bt338.1.toList = a0_1.toList then ((rule_Method.f a0_0).bind fun t340 => (if t340 = true then ((path_Is.f a0_2).bind fun t341 => (if t341 = true then (head_Lay.j0 k a0_0 a0_2 l0_4 bt336.1 (decide ((l0_4.length : Int) > 30))) else (head_Lay.j0 k a0_0 a0_2 l0_4 bt336.1 true))) else (head_Lay.j0 k a0_0 a0_2 l0_4 bt336.1 true))) else (head_Lay.j0 k a0_0 a0_2 l0_4 bt336.1 true)) else (head_Lay.j0 k a0_0 a0_2 l0_4 bt336.1 true)) else (head_Lay.j0 k a0_0 a0_2 l0_4 bt336.1 true)))
theorem head_Lay.row_mono : ∀ p k, LeO (head_Lay.row k p) (head_Lay.row (k + 1) p) := by
  intro p k
  unfold head_Lay.row
  exact LeO.bind (pairs_Token.mono _ _) (fun _ => LeO.ite (LeO.bind (pairs_Value.mono _ _) (fun _ => LeO.refl _)) (LeO.refl _))
theorem head_Lay.rows_mono : ∀ l k, LeO (head_Lay.rows k l) (head_Lay.rows (k + 1) l) := by
  intro l k
  induction l with
  | nil => exact LeO.refl _
  | cons p r ih =>
    unfold head_Lay.rows
    exact LeO.bind (head_Lay.row_mono p k) (fun _ => LeO.ite (LeO.refl _) (LeO.bind ih (fun _ => LeO.refl _)))
theorem head_Lay.j0_mono : ∀ m p l x b k, LeO (head_Lay.j0 k m p l x b) (head_Lay.j0 (k + 1) m p l x b) := by
  intro m p l x b k
  unfold head_Lay.j0
  exact LeO.ite (LeO.refl _) (LeO.ite (LeO.bind (head_Lay.rows_mono l k) (fun _ => LeO.refl _)) (LeO.none _))
theorem head_Lay.mono : ∀ a0 a1 a2 a3 a4 k, LeO (head_Lay.f k a0 a1 a2 a3 a4) (head_Lay.f (k + 1) a0 a1 a2 a3 a4) := by
 intro a0 a1 a2 a3 a4 k
 have ih0 := fun m p l x b => head_Lay.j0_mono m p l x b k
 unfold head_Lay.f
 repeat' first
   | (with_reducible exact ih0 _ _ _ _ _)
   | (with_reducible exact head_asked.mono _ _)
   | (with_reducible exact query_Text.mono _ _)
   | (with_reducible exact LeO.refl _)
   | (with_reducible exact LeO.none _)
   | (with_reducible refine LeO.ite ?_ ?_)
   | (with_reducible refine LeO.bind ?_ (fun _ => ?_))
   | exact head_asked.mono _ _
   | exact query_Text.mono _ _
set_option maxHeartbeats 8000000 in
set_option maxRecDepth 100000 in
theorem head_Lay.calls (k : Nat) (a0_0 : ByteArray) (a0_1 : ByteArray) (a0_2 : ByteArray) (pp : Option Addr) (c0_3 : Nat) (l0_3 : List (S51)) (pj : Option Addr) (c0_4 : Nat) (l0_4 : List (S51)) (r1 : ByteArray) (r2 : Int) (w : World) (hr0_3 : Kd.C k51 w pp l0_3.length l0_3) (hc0_3 : l0_3.length ≤ c0_3) (hr0_4 : Kd.C k51 w pj l0_4.length l0_4) (hc0_4 : l0_4.length ≤ c0_4) (h : head_Lay.f k a0_0 a0_1 a0_2 l0_3 l0_4 = some (r1, r2)) :
  Calls Tryz.prog 6 #[.agg #[.string a0_0, .string a0_1, .string a0_2, .slice pp l0_3.length c0_3, .slice pj l0_4.length c0_4]] w fun e w' => e = .returned (.tuple #[.string r1, .int .i64 r2]) ∧ Below w.heap.size w w' := by
 have hu24 := Tryz.underlying24;have hu51 := Tryz.underlying51;have pA := Aside0.mk hr0_3;have pB := Aside0.mk hc0_3;clear hr0_3 hc0_3;have pr := Aside0.mk hr0_4;have pC := Aside0.mk hc0_4;clear hr0_4 hc0_4;have HB := am_ (Below.refl w.heap.size w);have H : ((query_Text.f k l0_3).bind fun bt336 => ((head_asked.f k l0_4).bind fun bt338 => (if bt336.2 = 0 then (if bt338.2 = true then (if bt338.1.toList = a0_1.toList then ((rule_Method.f a0_0).bind fun pf => (if pf = true then ((path_Is.f a0_2).bind fun pe => (if pe = true then (head_Lay.j0 k a0_0 a0_2 l0_4 bt336.1 (decide ((l0_4.length : Int) > 30))) else (head_Lay.j0 k a0_0 a0_2 l0_4 bt336.1 true))) else (head_Lay.j0 k a0_0 a0_2 l0_4 bt336.1 true))) else (head_Lay.j0 k a0_0 a0_2 l0_4 bt336.1 true)) else (head_Lay.j0 k a0_0 a0_2 l0_4 bt336.1 true)) else (head_Lay.j0 k a0_0 a0_2 l0_4 bt336.1 true)))) = some (r1, r2) := h;clear h;replace H := Option.bind_eq_some_iff.mp H;obtain ⟨⟨pa, pk⟩, A20, H⟩ := H;replace H : ((head_asked.f k l0_4).bind fun bt338 => (if pk = 0 then (if bt338.2 = true then (if bt338.1.toList = a0_1.toList then ((rule_Method.f a0_0).bind fun pf => (if pf = true then ((path_Is.f a0_2).bind fun pe => (if pe = true then (head_Lay.j0 k a0_0 a0_2 l0_4 pa (decide ((l0_4.length : Int) > 30))) else (head_Lay.j0 k a0_0 a0_2 l0_4 pa true))) else (head_Lay.j0 k a0_0 a0_2 l0_4 pa true))) else (head_Lay.j0 k a0_0 a0_2 l0_4 pa true)) else (head_Lay.j0 k a0_0 a0_2 l0_4 pa true)) else (head_Lay.j0 k a0_0 a0_2 l0_4 pa true))) = some (r1, r2) := H;have A2 := Aside0.mk A20;clear A20;replace H := Option.bind_eq_some_iff.mp H;obtain ⟨⟨pl, ps⟩, A30, H⟩ := H;replace H : (if pk = 0 then (if ps = true then (if pl.toList = a0_1.toList then ((rule_Method.f a0_0).bind fun pf => (if pf = true then ((path_Is.f a0_2).bind fun pe => (if pe = true then (head_Lay.j0 k a0_0 a0_2 l0_4 pa (decide ((l0_4.length : Int) > 30))) else (head_Lay.j0 k a0_0 a0_2 l0_4 pa true))) else (head_Lay.j0 k a0_0 a0_2 l0_4 pa true))) else (head_Lay.j0 k a0_0 a0_2 l0_4 pa true)) else (head_Lay.j0 k a0_0 a0_2 l0_4 pa true)) else (head_Lay.j0 k a0_0 a0_2 l0_4 pa true)) = some (r1, r2) := H;have A3 := Aside0.mk A30;clear A30;have HC4 := Aside0.mk H;clear H;go_enter Tryz.func6, Tryz.ntmps6
 go_upto_region 3 with (first | ((with_reducible refine gate_dst (N := 1) rfl ?_); (try (refine gate_guard (by rfl) ?_; dsimp only)); refine box_event ?hg (N := 1) ?hd (cs := #[.string a0_0, .string a0_1, .string a0_2, .slice pp l0_3.length c0_3, .slice pj l0_4.length c0_4]) (t := 24) ?hr ?_; (case hd => rfl); (case hg => rfl); (case hr => first | (go_simp; done) | (go_simp; rfl)); intro pm hg w5 hbox hb; have n0_ := am_ (below_step (bel_ HB.out) hb); have n1_ := am_ (hbox); have n2_ := am_ ((by rw [hg]; exact (below_size (bel_ HB.out)) : w.heap.size ≤ pm)); have n3_ := am_ ((by rw [hg]; exact (below_size (bel_ HB.out)) : w.heap.size ≤ pm)); clear HB; have HB := n0_; have pb := n1_; have GW335 := n2_; have GE335 := n3_; clear n0_ n1_ n2_ n3_ hb hbox hg; obtain ⟨hcz6_0, hcz6_1, hcz6_2, hcz6_3, hcz6_4, hfz6_0, hfz6_1, hfz6_2, hfz6_3, hfz6_4⟩ := blk5 pb.out) | ((with_reducible refine gate_callee (f := 13) rfl ?_); refine goesL_ (some 14) rfl rfl Tryz.func13 kr_ rfl #[.slice pp l0_3.length c0_3] rfl rl_ ?_; (with_reducible refine (query_Text.calls k _ _ l0_3 pa pk _ ?side1 ?side2 A2.out).mono ?_); (case side1 => exact C_ (Kd.C_below pA.out HB.out)); (case side2 => exact pB.out); rintro e w7 ⟨rfl, hb⟩; refine ⟨_, rfl, ?_⟩; have n0_ := am_ (blk_below pb.out hb); have n1_ := am_ (below_step (bel_ HB.out) hb); clear pb HB; have pb := n0_; have HB := n1_; clear n0_ n1_; (try clear hb); (try clear hb2); (try clear hk); (try clear hi); obtain ⟨hcz8_0, hcz8_1, hcz8_2, hcz8_3, hcz8_4, hfz8_0, hfz8_1, hfz8_2, hfz8_3, hfz8_4⟩ := blk5 pb.out) | ((with_reducible refine gate_callee (f := 14) rfl ?_); refine goesL_ (some 20) rfl rfl Tryz.func14 kr_ rfl #[.slice pj l0_4.length c0_4] rfl rl_ ?_; (with_reducible refine (head_asked.calls k _ _ l0_4 pl ps _ ?side1 ?side2 A3.out).mono ?_); (case side1 => exact C_ (Kd.C_below pr.out HB.out)); (case side2 => exact pC.out); rintro e w9 ⟨rfl, hb⟩; refine ⟨_, rfl, ?_⟩; have n0_ := am_ (blk_below pb.out hb); have n1_ := am_ (below_step (bel_ HB.out) hb); clear pb HB; have pb := n0_; have HB := n1_; clear n0_ n1_; (try clear hb); (try clear hb2); (try clear hk); (try clear hi)))
 (try simp only [Act.put, List.setIfInBounds_toArray, List.set_cons_zero, List.set_cons_succ]);go_cut [52] (fun pD wc => ∃ (kq : Nat) (x52_3 : Bool), pD = .bool x52_3 ∧ Aside0 (head_Lay.j0 kq a0_0 a0_2 l0_4 pa x52_3 = some (r1, r2)) ∧ Aside0 (kq ≤ k) ∧ Aside0 (wc.heap[pm]? = some (.cells #[.string a0_0, .string a0_1, .string a0_2, (.slice pp l0_3.length c0_3), (.slice pj l0_4.length c0_4)] 24 (0, 0))) ∧ Aside0 (Below w.heap.size w wc))
 case first =>
  have H := HC4.out;clear HC4;by_cases c10 : pk = 0
  ·rw [if_pos c10] at H
   have c10b0 : (pk == 0) = true := beq_iff_eq.mpr c10;have c10b1 : (pk != 0) = false := bne_eq_false_iff_eq.mpr c10;clear c10;(first | rw [c10b0] | rw [c10b1] | rw [c10b2] | (simp only [i64_w, i32_w]; rw [c10b0]) | skip);by_cases c11 : ps = true
   ·subst c11
    have H1 : (if pl.toList = a0_1.toList then ((rule_Method.f a0_0).bind fun pf => (if pf = true then ((path_Is.f a0_2).bind fun pe => (if pe = true then (head_Lay.j0 k a0_0 a0_2 l0_4 pa (decide ((l0_4.length : Int) > 30))) else (head_Lay.j0 k a0_0 a0_2 l0_4 pa true))) else (head_Lay.j0 k a0_0 a0_2 l0_4 pa true))) else (head_Lay.j0 k a0_0 a0_2 l0_4 pa true)) = some (r1, r2) := by rw [if_pos rfl] at H; exact H
    clear H;have H := H1;clear H1;by_cases c12 : pl.toList = a0_1.toList
    ·rw [if_pos c12] at H
     have c12b0 : (pl.toList == a0_1.toList) = true := beq_iff_eq.mpr c12;have c12b1 : (pl.toList != a0_1.toList) = false := bne_eq_false_iff_eq.mpr c12;clear c12;replace H := Option.bind_eq_some_iff.mp H;obtain ⟨pf, A130, H⟩ := H;replace H : (if pf = true then ((path_Is.f a0_2).bind fun pe => (if pe = true then (head_Lay.j0 k a0_0 a0_2 l0_4 pa (decide ((l0_4.length : Int) > 30))) else (head_Lay.j0 k a0_0 a0_2 l0_4 pa true))) else (head_Lay.j0 k a0_0 a0_2 l0_4 pa true)) = some (r1, r2) := H;have A13 := Aside0.mk A130;clear A130;by_cases c14 : pf = true
     ·subst c14
      have H1 : ((path_Is.f a0_2).bind fun pe => (if pe = true then (head_Lay.j0 k a0_0 a0_2 l0_4 pa (decide ((l0_4.length : Int) > 30))) else (head_Lay.j0 k a0_0 a0_2 l0_4 pa true))) = some (r1, r2) := by rw [if_pos rfl] at H; exact H
      clear H;have H := H1;clear H1;replace H := Option.bind_eq_some_iff.mp H;obtain ⟨pe, A150, H⟩ := H;replace H : (if pe = true then (head_Lay.j0 k a0_0 a0_2 l0_4 pa (decide ((l0_4.length : Int) > 30))) else (head_Lay.j0 k a0_0 a0_2 l0_4 pa true)) = some (r1, r2) := H;have A15 := Aside0.mk A150;clear A150;by_cases c16 : pe = true
      ·subst c16
       have H1 : (head_Lay.j0 k a0_0 a0_2 l0_4 pa (decide ((l0_4.length : Int) > 30))) = some (r1, r2) := by rw [if_pos rfl] at H; exact H
       clear H;have H := H1;clear H1;have H' := Aside0.mk H;clear H;obtain ⟨hcz17_0, hcz17_1, hcz17_2, hcz17_3, hcz17_4, hfz17_0, hfz17_1, hfz17_2, hfz17_3, hfz17_4⟩ := blk5 pb.out;go_wp2_with (first | (go_at_call 15; (with_reducible refine (rule_Method.calls a0_0 true _ A13.out).mono ?_); rintro e w18 ⟨rfl, hb⟩; have n0_ := am_ (blk_below pb.out hb); have n1_ := am_ (below_step (bel_ HB.out) hb); clear pb HB; have pb := n0_; have HB := n1_; clear n0_ n1_; (try clear hb); (try clear hb2); (try clear hk); (try clear hi); obtain ⟨hcz19_0, hcz19_1, hcz19_2, hcz19_3, hcz19_4, hfz19_0, hfz19_1, hfz19_2, hfz19_3, hfz19_4⟩ := blk5 pb.out) | (go_at_call 16; (with_reducible refine (path_Is.calls a0_2 true _ A15.out).mono ?_); rintro e w20 ⟨rfl, hb⟩; have n0_ := am_ (blk_below pb.out hb); have n1_ := am_ (below_step (bel_ HB.out) hb); clear pb HB; have pb := n0_; have HB := n1_; clear n0_ n1_; (try clear hb); (try clear hb2); (try clear hk); (try clear hi); obtain ⟨hcz21_0, hcz21_1, hcz21_2, hcz21_3, hcz21_4, hfz21_0, hfz21_1, hfz21_2, hfz21_3, hfz21_4⟩ := blk5 pb.out))
       go_meet
       case rel => exact ⟨_, (decide ((l0_4.length : Int) > 30)), sd_, H', ⟨by first | omega | exact Nat.le_refl _⟩, ⟨by (with_reducible repeat (first | refine blk_drewN ?_ _ | refine blk_drew ?_ | refine blk_alloc ?_ _)); exact pb.out⟩, ⟨bel_ HB.out⟩⟩
      ·replace c16 := Bool.eq_false_iff.mpr c16
       subst c16;have H1 : (head_Lay.j0 k a0_0 a0_2 l0_4 pa true) = some (r1, r2) := by rw [if_neg (show ¬ (false = true) by decide)] at H; exact H
       clear H;have H := H1;clear H1;have H' := Aside0.mk H;clear H;obtain ⟨hcz22_0, hcz22_1, hcz22_2, hcz22_3, hcz22_4, hfz22_0, hfz22_1, hfz22_2, hfz22_3, hfz22_4⟩ := blk5 pb.out;go_wp2_with (first | (go_at_call 15; (with_reducible refine (rule_Method.calls a0_0 true _ A13.out).mono ?_); rintro e w23 ⟨rfl, hb⟩; have n0_ := am_ (blk_below pb.out hb); have n1_ := am_ (below_step (bel_ HB.out) hb); clear pb HB; have pb := n0_; have HB := n1_; clear n0_ n1_; (try clear hb); (try clear hb2); (try clear hk); (try clear hi); obtain ⟨hcz24_0, hcz24_1, hcz24_2, hcz24_3, hcz24_4, hfz24_0, hfz24_1, hfz24_2, hfz24_3, hfz24_4⟩ := blk5 pb.out) | (go_at_call 16; (with_reducible refine (path_Is.calls a0_2 false _ A15.out).mono ?_); rintro e w25 ⟨rfl, hb⟩; have n0_ := am_ (blk_below pb.out hb); have n1_ := am_ (below_step (bel_ HB.out) hb); clear pb HB; have pb := n0_; have HB := n1_; clear n0_ n1_; (try clear hb); (try clear hb2); (try clear hk); (try clear hi)))
       go_meet
       case rel => exact ⟨_, (true), sd_, H', ⟨by first | omega | exact Nat.le_refl _⟩, ⟨by (with_reducible repeat (first | refine blk_drewN ?_ _ | refine blk_drew ?_ | refine blk_alloc ?_ _)); exact pb.out⟩, ⟨bel_ HB.out⟩⟩
     ·replace c14 := Bool.eq_false_iff.mpr c14
      subst c14;have H1 : (head_Lay.j0 k a0_0 a0_2 l0_4 pa true) = some (r1, r2) := by rw [if_neg (show ¬ (false = true) by decide)] at H; exact H
      clear H;have H := H1;clear H1;have H' := Aside0.mk H;clear H;obtain ⟨hcz26_0, hcz26_1, hcz26_2, hcz26_3, hcz26_4, hfz26_0, hfz26_1, hfz26_2, hfz26_3, hfz26_4⟩ := blk5 pb.out;go_wp2_with (first | (go_at_call 15; (with_reducible refine (rule_Method.calls a0_0 false _ A13.out).mono ?_); rintro e w27 ⟨rfl, hb⟩; have n0_ := am_ (blk_below pb.out hb); have n1_ := am_ (below_step (bel_ HB.out) hb); clear pb HB; have pb := n0_; have HB := n1_; clear n0_ n1_; (try clear hb); (try clear hb2); (try clear hk); (try clear hi)))
      go_meet
      case rel => exact ⟨_, (true), sd_, H', ⟨by first | omega | exact Nat.le_refl _⟩, ⟨by (with_reducible repeat (first | refine blk_drewN ?_ _ | refine blk_drew ?_ | refine blk_alloc ?_ _)); exact pb.out⟩, ⟨bel_ HB.out⟩⟩
    ·rw [if_neg c12] at H
     have c12b0 : (pl.toList == a0_1.toList) = false := beq_eq_false_iff_ne.mpr c12;have c12b1 : (pl.toList != a0_1.toList) = true := bne_iff_ne.mpr c12;have H' := Aside0.mk H;clear H;obtain ⟨hcz28_0, hcz28_1, hcz28_2, hcz28_3, hcz28_4, hfz28_0, hfz28_1, hfz28_2, hfz28_3, hfz28_4⟩ := blk5 pb.out;go_wp2
     go_meet
     case rel => exact ⟨_, (true), sd_, H', ⟨by first | omega | exact Nat.le_refl _⟩, ⟨by (with_reducible repeat (first | refine blk_drewN ?_ _ | refine blk_drew ?_ | refine blk_alloc ?_ _)); exact pb.out⟩, ⟨bel_ HB.out⟩⟩
   ·replace c11 := Bool.eq_false_iff.mpr c11
    subst c11;have H1 : (head_Lay.j0 k a0_0 a0_2 l0_4 pa true) = some (r1, r2) := by rw [if_neg (show ¬ (false = true) by decide)] at H; exact H
    clear H;have H := H1;clear H1;have H' := Aside0.mk H;clear H;go_wp2
    go_meet
    case rel => exact ⟨_, (true), sd_, H', ⟨by first | omega | exact Nat.le_refl _⟩, ⟨by (with_reducible repeat (first | refine blk_drewN ?_ _ | refine blk_drew ?_ | refine blk_alloc ?_ _)); exact pb.out⟩, ⟨bel_ HB.out⟩⟩
  ·rw [if_neg c10] at H
   have c10b0 : (pk == 0) = false := beq_eq_false_iff_ne.mpr c10;have c10b1 : (pk != 0) = true := bne_iff_ne.mpr c10;(first | rw [c10b0] | rw [c10b1] | rw [c10b2] | (simp only [i64_w, i32_w]; rw [c10b0]) | skip);have H' := Aside0.mk H;clear H;go_wp2
   go_meet
   case rel => exact ⟨_, (true), sd_, H', ⟨by first | omega | exact Nat.le_refl _⟩, ⟨by (with_reducible repeat (first | refine blk_drewN ?_ _ | refine blk_drew ?_ | refine blk_alloc ?_ _)); exact pb.out⟩, ⟨bel_ HB.out⟩⟩
 case rest =>
  clear HC4;try clear c1
  try clear c2
  try clear p2
  try clear c10
  try clear c10b0
  try clear c10b1
  try clear c10b2
  try clear c11
  try clear c12
  try clear c12b0
  try clear c12b1
  try clear c14
  try clear c16
  try clear c22
  try clear c23
  try clear hcz17_0
  try clear hcz17_1
  try clear hcz17_2
  try clear hcz17_3
  try clear hcz17_4
  try clear hcz19_0
  try clear hcz19_1
  try clear hcz19_2
  try clear hcz19_3
  try clear hcz19_4
  try clear hcz21_0
  try clear hcz21_1
  try clear hcz21_2
  try clear hcz21_3
  try clear hcz21_4
  try clear hcz22_0
  try clear hcz22_1
  try clear hcz22_2
  try clear hcz22_3
  try clear hcz22_4
  try clear hcz24_0
  try clear hcz24_1
  try clear hcz24_2
  try clear hcz24_3
  try clear hcz24_4
  try clear hcz26_0
  try clear hcz26_1
  try clear hcz26_2
  try clear hcz26_3
  try clear hcz26_4
  try clear hcz28_0
  try clear hcz28_1
  try clear hcz28_2
  try clear hcz28_3
  try clear hcz28_4
  try clear hcz6_0
  try clear hcz6_1
  try clear hcz6_2
  try clear hcz6_3
  try clear hcz6_4
  try clear hcz8_0
  try clear hcz8_1
  try clear hcz8_2
  try clear hcz8_3
  try clear hcz8_4
  try clear hfz17_0
  try clear hfz17_1
  try clear hfz17_2
  try clear hfz17_3
  try clear hfz17_4
  try clear hfz19_0
  try clear hfz19_1
  try clear hfz19_2
  try clear hfz19_3
  try clear hfz19_4
  try clear hfz21_0
  try clear hfz21_1
  try clear hfz21_2
  try clear hfz21_3
  try clear hfz21_4
  try clear hfz22_0
  try clear hfz22_1
  try clear hfz22_2
  try clear hfz22_3
  try clear hfz22_4
  try clear hfz24_0
  try clear hfz24_1
  try clear hfz24_2
  try clear hfz24_3
  try clear hfz24_4
  try clear hfz26_0
  try clear hfz26_1
  try clear hfz26_2
  try clear hfz26_3
  try clear hfz26_4
  try clear hfz28_0
  try clear hfz28_1
  try clear hfz28_2
  try clear hfz28_3
  try clear hfz28_4
  try clear hfz6_0
  try clear hfz6_1
  try clear hfz6_2
  try clear hfz6_3
  try clear hfz6_4
  try clear hfz8_0
  try clear hfz8_1
  try clear hfz8_2
  try clear hfz8_3
  try clear hfz8_4
  obtain ⟨kq, x52_3, rfl, HA, HJ3, pb, HB⟩ := hcut;cases x52_3 with
  | true =>
   have H := HA.out;clear HA;rw [head_Lay.j0, if_pos rfl] at H;simp only [Option.some.injEq, Prod.mk.injEq] at H;obtain ⟨rfl, rfl⟩ := H;go_wp2
   go_ret2
   exact ⟨fi_, bel_ HB.out⟩
  | false =>
   have H := HA.out;clear HA;rw [head_Lay.j0, if_neg (by decide)] at H;split at H;rotate_left
   · cases H
   rename_i hwt;obtain ⟨Z, hZ, H⟩ := Option.bind_eq_some_iff.1 H;have HZ := Aside0.mk hZ;have HE := Aside0.mk (Option.some.inj H);clear hZ H;go_upto_if 54 with (fail)
   go_cut [4] (fun v4 wc => ∃ y : ByteArray, v4 = .string y ∧ Aside0 (y.data.toList = head_Lay.asks pa) ∧ Aside0 (wc.heap[pm]? = some (.cells #[.string a0_0, .string a0_1, .string a0_2, (.slice pp l0_3.length c0_3), (.slice pj l0_4.length c0_4)] 24 (0, 0))) ∧ Aside0 (Below w.heap.size w wc))
   case first =>
    by_cases c31 : pa.toList = ([] : List UInt8)
    · have c31' : pa.data.toList = [] := (ByteArray.toList_eq pa).symm.trans c31
      have c31e : pa.toList.isEmpty = true := by rw [c31]; rfl
      have c31n : (!pa.toList.isEmpty) = false := by rw [c31e]; rfl
      have c31b1 : (pa.toList != ([] : List UInt8)) = false := bne_eq_false_iff_eq.mpr c31;(first | rw [c31b0] | rw [c31b1] | skip);simp only [c31e, Bool.not_true, Bool.not_false];go_wp2
      go_meet
      case rel => exact ⟨pa, rfl, ⟨by rw [head_Lay.asks, if_pos (by have h_ := data_length pa; rw [c31'] at h_; exact h_.symm)]; exact c31'⟩, pb, HB⟩
    · have c31e : pa.toList.isEmpty = false := by cases h_ : pa.toList with | nil => exact absurd h_ c31 | cons a b => rfl
      have c31n : (!pa.toList.isEmpty) = true := by rw [c31e]; rfl
      have c31b1 : (pa.toList != ([] : List UInt8)) = true := bne_iff_ne.mpr c31;(first | rw [c31b0] | rw [c31b1] | skip);have hz_ : pa.size ≠ 0 := fun h_ => c31 ((ByteArray.toList_eq pa).trans (List.length_eq_zero_iff.1 ((data_length pa).trans h_)))
      simp only [c31e, Bool.not_true, Bool.not_false];go_wp2
      go_meet
      case rel => exact ⟨_, rfl, ⟨by rw [head_Lay.asks, if_neg hz_]; rfl⟩, pb, HB⟩
   case rest =>
    obtain ⟨y, rfl, HY, pb, HB⟩ := hcut;have BKn := blk_alloc pb.out (.cells #[.pointer none, .slice none 0 0] 45);have hcz_0 : (wc.alloc (.cells #[.pointer none, .slice none 0 0] 45)).cell? ⟨pm, 0, none⟩ = some (.string a0_0) := (blk_cell BKn 0).trans rfl;have hcz_2 : (wc.alloc (.cells #[.pointer none, .slice none 0 0] 45)).cell? ⟨pm, 2, none⟩ = some (.string a0_2) := (blk_cell BKn 2).trans rfl;have hcz_4 : (wc.alloc (.cells #[.pointer none, .slice none 0 0] 45)).cell? ⟨pm, 4, none⟩ = some (.slice pj l0_4.length c0_4) := (blk_cell BKn 4).trans rfl;have hys : y.size ≤ pa.size + 1 := by
      rw [← data_length y, HY.out];unfold head_Lay.asks;split
      · exact Nat.zero_le _
      · rw [List.length_cons, data_length]; exact Nat.le_refl _
    have z1 : (9223372036854775807 < a0_0.size + 1 + a0_2.size + y.size) = False := eq_false (by omega);have z2 : (9223372036854775807 < a0_0.size + 1 + a0_2.size + y.size + 1) = False := eq_false (by omega);have z3 : (9223372036854775807 < a0_0.size + 1 + a0_2.size + y.size + 1 + 8) = False := eq_false (by omega);have z4 : (9223372036854775807 < a0_0.size + 1 + a0_2.size + y.size + 1 + 8 + 2) = False := eq_false (by omega);have z5 : (9223372036854775807 < a0_0.size + 1 + a0_2.size) = False := eq_false (by omega);have HBn := Aside0.mk (bld_new wc);have HWn := Aside0.mk ((Below.refl wc.heap.size wc).alloc (Nat.le_refl _) (.cells #[.pointer none, .slice none 0 0] 45));go_wp2_with fail
    clear z1 z2 z3 z4 z5;generalize hS1 : (a0_0 ++ ({ data := #[32] } : ByteArray) ++ a0_2 ++ y ++ ({ data := #[32] } : ByteArray) ++ ({ data := #[72, 84, 84, 80, 47, 49, 46, 49] } : ByteArray) ++ ({ data := #[13, 10] } : ByteArray)) = S1;have hS1d : S1.data.toList = head_Lay.line a0_0 a0_2 pa := by
      rw [← hS1];simp only [ByteArray.data_append, Array.toList_append, HY.out, head_Lay.line, List.append_assoc];rfl
    have hS1z : S1.size = a0_0.size + a0_2.size + y.size + 12 := by
      rw [← hS1];simp only [ByteArray.size_append];show a0_0.size + 1 + a0_2.size + y.size + 1 + 8 + 2 = _;omega
    refine (bld_text wc.heap.size [] S1 _ HBn.out (by rw [List.length_nil]; omega) HWn.out.size).mono ?_;rintro e w2 ⟨rfl, h1, h2⟩;rw [List.nil_append, hS1d] at h1;have hlz : (head_Lay.line a0_0 a0_2 pa).length = a0_0.size + a0_2.size + y.size + 12 := by rw [← hS1d, data_length, hS1z]
    have HB1 := Aside0.mk h1;have HW1 := Aside0.mk (HWn.out.trans h2);clear h1 h2 hS1 hS1d hS1z;have pE := Aside0.mk (blk_below pb.out HW1.out);have hcz_4 : w2.cell? ⟨pm, 4, none⟩ = some (.slice pj l0_4.length c0_4) := (blk_cell pE.out 4).trans rfl;generalize hLN : head_Lay.line a0_0 a0_2 pa = LN at *;go_wp2_with fail
    go_loopw [72] (fun i wr => ∃ (j : Nat) (acc : List UInt8) (Y : Option (List UInt8)), j ≤ l0_4.length ∧ i = .int .i64 j ∧ Aside0 (head_Lay.rows kq (l0_4.drop j) = some Y) ∧ Aside0 (Z = head_Lay.put (some acc) Y) ∧ Aside0 (acc.length + head_Lay.wt (l0_4.drop j) ≤ head_Lay.wt l0_4) ∧ Aside0 (Bld wc.heap.size (LN ++ acc) wr) ∧ Aside0 (Below wc.heap.size wc wr)) (fun i _ => l0_4.length - (intOf i).toNat)
    case atStart => exact ⟨0, [], Z, Nat.zero_le _, rfl, ⟨by rw [List.drop_zero]; exact HZ.out⟩, ⟨by cases Z <;> rfl⟩, ⟨by rw [List.drop_zero, List.length_nil]; omega⟩, ⟨by rw [List.append_nil]; exact HB1.out⟩, HW1⟩
    case round =>
      obtain ⟨j, acc, Y, hj, rfl, HR, HP, HN, HBl, HW⟩ := hrel;by_cases hlt : j < l0_4.length
      · obtain ⟨ad, e, hx0, hx1⟩ := at_T51 pr.out (j : Int) (by omega) (by omega)
        have HWr := below_step HB.out HW.out;have hpj : l0_4[j]? = some (rd_T51 l0_4 (j : Int)) := by rw [rd_T51, Int.toNat_natCast, List.getD_eq_getElem?_getD, List.getElem?_eq_getElem hlt]; rfl
        have hx0' := (HWr.cell (World.block_lt_of_cell? w _ hx0)).trans hx0;have hx1' := (HWr.cell (World.block_lt_of_cell? w _ hx1)).trans hx1;have p1 : (0 ≤ (j : Int)) = True := eq_true (by omega);have q1 : ((j : Int) < (l0_4.length : Int)) = True := eq_true (by omega);generalize rd_T51 l0_4 (j : Int) = p at *;clear hx0 hx1;cases e;rw [Int.toNat_natCast] at hx0' hx1';go_wp2_with (first | ((with_reducible refine gate_dst (N := 10) rfl ?_); (try (refine gate_guard (by rfl) ?_; dsimp only)); refine box_event ?hg (N := 10) ?hd (cs := #[.string (⟨#[]⟩ : ByteArray), .string (⟨#[]⟩ : ByteArray)]) (t := 51) ?hr ?_; (case hd => rfl); (case hg => rfl); (case hr => first | (go_simp; done) | (go_simp; rfl)); intro pd hg7 w7 hbox7 hb7; have hgl7 : wr.heap.size ≤ pd := (by rw [hg7]; exact Nat.le_refl _); clear hg7; have hcz7_0 : w7.cell? ⟨pd, 0, none⟩ = some (.string (⟨#[]⟩ : ByteArray)) := (blk_cell hbox7 0).trans rfl; have hcz7_1 : w7.cell? ⟨pd, 1, none⟩ = some (.string (⟨#[]⟩ : ByteArray)) := (blk_cell hbox7 1).trans rfl; have hfz7_0 := blk_frozen hbox7 0; have hfz7_1 := blk_frozen hbox7 1; have hx0' := (hb7.cell (World.block_lt_of_cell? _ _ hx0')).trans hx0'; have hx1' := (hb7.cell (World.block_lt_of_cell? _ _ hx1')).trans hx1'))
        have hdj : l0_4.drop j = p :: l0_4.drop (j + 1) := by
          rw [List.drop_eq_getElem_cons hlt];rw [List.getElem?_eq_getElem hlt] at hpj;rw [Option.some.inj hpj]
        have hR := HR.out;rw [hdj, head_Lay.rows] at hR;obtain ⟨X, hX, hR⟩ := Option.bind_eq_some_iff.1 hR;have HX := Aside0.mk hX;have hRR := Aside0.mk hR;clear hX hR;have hwtj : head_Lay.wt (l0_4.drop j) = p.f0.size + p.f1.size + 4 + head_Lay.wt (l0_4.drop (j + 1)) := by rw [hdj]; rfl
        have hN := HN.out;have hgw : wc.heap.size ≤ pd := Nat.le_trans HW.out.size hgl7;have hWs := Aside0.mk ((((below_step HW.out hb7).setCell (p := ⟨pd, 0, none⟩) hgw (Value.string p.f0)).setCell (p := ⟨pd, 1, none⟩) hgw (Value.string p.f1)));have hWr2 := Aside0.mk ((hb7.setCell (p := ⟨pd, 0, none⟩) hgl7 (Value.string p.f0)).setCell (p := ⟨pd, 1, none⟩) hgl7 (Value.string p.f1));have hB2 := Aside0.mk (bld_below HBl.out hWr2.out);have hc0 : ((w7.setCell ⟨pd, 0, none⟩ (Value.string p.f0)).setCell ⟨pd, 1, none⟩ (Value.string p.f1)).cell? ⟨pd, 0, none⟩ = some (.string p.f0) := by go_simp
        have hc1 : ((w7.setCell ⟨pd, 0, none⟩ (Value.string p.f0)).setCell ⟨pd, 1, none⟩ (Value.string p.f1)).cell? ⟨pd, 1, none⟩ = some (.string p.f1) := by go_simp
        have HX2 := HX.out;rw [head_Lay.row] at HX2;obtain ⟨a, ha, hXa⟩ := Option.bind_eq_some_iff.1 HX2;clear HX2 hcz7_0 hcz7_1 hfz7_0 hfz7_1 hx0' hx1' hbox7;generalize ((w7.setCell ⟨pd, 0, none⟩ (Value.string p.f0)).setCell ⟨pd, 1, none⟩ (Value.string p.f1)) = W8 at hWs hWr2 hB2 hc0 hc1 ⊢;refine (pairs_Token.calls kq p.f0 a W8 ha).mono ?_;rintro e w9 ⟨rfl, nd, rfl⟩;replace hWs := Aside0.mk (show Below wc.heap.size wc (W8.drewN nd) from hWs.out.trans ⟨rfl, rfl, rfl, Nat.le_refl _, fun _ _ => rfl⟩);replace hB2 := Aside0.mk (show Bld wc.heap.size (LN ++ acc) (W8.drewN nd) from hB2.out);replace hc0 : (W8.drewN nd).cell? ⟨pd, 0, none⟩ = some (.string p.f0) := hc0;replace hc1 : (W8.drewN nd).cell? ⟨pd, 1, none⟩ = some (.string p.f1) := hc1;clear hWr2;generalize W8.drewN nd = W9 at hWs hB2 hc0 hc1 ⊢;cases a with
        | false =>
          rw [if_neg (by decide)] at hXa;obtain rfl := Option.some.inj hXa;have hRe := hRR.out;rw [if_pos rfl] at hRe;obtain rfl := Option.some.inj hRe;have hE := HE.out;rw [HP.out, head_Lay.put, Option.bind_some, Option.bind_none, head_Lay.end_] at hE;simp only [Prod.mk.injEq] at hE;obtain ⟨rfl, rfl⟩ := hE;go_wp2
          go_ret2
          exact ⟨fi_, below_step HB.out hWs.out⟩
        | true =>
          rw [if_pos rfl] at hXa;obtain ⟨b, hb, hXb⟩ := Option.bind_eq_some_iff.1 hXa;go_wp2_with fail
          refine (pairs_Value.calls kq p.f1 b W9 hb).mono ?_;rintro e w10 ⟨rfl, hb10⟩;replace hc0 := (hb10.cell (World.block_lt_of_cell? _ _ hc0)).trans hc0;replace hc1 := (hb10.cell (World.block_lt_of_cell? _ _ hc1)).trans hc1;have hB3 := Aside0.mk (bld_below hB2.out hb10);replace hWs := Aside0.mk (below_step hWs.out hb10);cases b with
          | false =>
            rw [if_neg (by decide)] at hXb;obtain rfl := Option.some.inj hXb;have hRe := hRR.out;rw [if_pos rfl] at hRe;obtain rfl := Option.some.inj hRe;have hE := HE.out;rw [HP.out, head_Lay.put, Option.bind_some, Option.bind_none, head_Lay.end_] at hE;simp only [Prod.mk.injEq] at hE;obtain ⟨rfl, rfl⟩ := hE;go_wp2
            go_ret2
            exact ⟨fi_, below_step HB.out hWs.out⟩
          | true =>
            rw [if_pos rfl] at hXb;obtain rfl := Option.some.inj hXb;have hRe := hRR.out;rw [if_neg (by simp)] at hRe;obtain ⟨Y', hY', hRe⟩ := Option.bind_eq_some_iff.1 hRe;obtain rfl := Option.some.inj hRe;have z1 : (9223372036854775807 < p.f0.size + 2 + p.f1.size) = False := eq_false (by omega);have z2 : (9223372036854775807 < p.f0.size + 2 + p.f1.size + 2) = False := eq_false (by omega);have z3 : (9223372036854775807 < p.f0.size + 2) = False := eq_false (by omega);go_wp2_with fail
            clear z1 z2 z3;generalize hS2 : (p.f0 ++ ({ data := #[58, 32] } : ByteArray) ++ p.f1 ++ ({ data := #[13, 10] } : ByteArray)) = S2;have hS2d : S2.data.toList = p.f0.data.toList ++ [58, 32] ++ p.f1.data.toList ++ [13, 10] := by
              rw [← hS2];simp only [ByteArray.data_append, Array.toList_append]
            have hS2z : S2.size = p.f0.size + p.f1.size + 4 := by
              rw [← hS2];simp only [ByteArray.size_append];show p.f0.size + 2 + p.f1.size + 2 = _;omega
            have hla : (LN ++ acc).length = LN.length + acc.length := List.length_append;refine (bld_text wc.heap.size (LN ++ acc) S2 w10 hB3.out (by omega) hWs.out.size).mono ?_;rintro e w11 ⟨rfl, h1, h2⟩;rw [← hS2d] at HX;have H1 := Aside0.mk (show Bld wc.heap.size (LN ++ (acc ++ S2.data.toList)) w11 from (by rw [← List.append_assoc]; exact h1));have H2 := Aside0.mk (hWs.out.trans h2);have H3 := Aside0.mk hY';have H4 : Aside0 (Z = head_Lay.put (some (acc ++ S2.data.toList)) Y') := ⟨by rw [HP.out, ← hS2d]; cases Y' <;> simp [head_Lay.put, List.append_assoc]⟩;have H5 : Aside0 ((acc ++ S2.data.toList).length + head_Lay.wt (l0_4.drop (j + 1)) ≤ head_Lay.wt l0_4) := ⟨by rw [List.length_append, data_length]; omega⟩;clear h1 h2;have hlm : l0_4.length ≤ 9223372036854775807 := pr.out.2.1;go_wp2
            exact ⟨⟨j + 1, acc ++ S2.data.toList, Y', by omega, by go_num, H3, H4, H5, H1, H2⟩, by simp [intOf]; omega⟩
      · have hje : j = l0_4.length := by omega
        subst hje;have hY : Y = some [] := by
          have h_ := HR.out;rw [List.drop_length, head_Lay.rows] at h_;exact (Option.some.inj h_).symm
        have hZa : Z = some acc := by rw [HP.out, hY]; simp [head_Lay.put]
        have hN := HN.out;have hws := HW.out.size;have hall : (LN ++ acc).length ≤ 100000000000100 := by rw [List.length_append]; omega
        go_wp2_with fail
        refine (bld_text wc.heap.size (LN ++ acc) ⟨#[13, 10]⟩ wr HBl.out (Nat.le_trans (Nat.add_le_add_right hall _) (by decide)) hws).mono ?_;rintro e w5 ⟨rfl, h1, h2⟩;have HB5 := Aside0.mk (show Bld wc.heap.size (LN ++ acc ++ [13, 10]) w5 from h1);have HW5 := Aside0.mk (HW.out.trans h2);clear h1 h2;have hws5 := HW5.out.size;go_wp2_with fail
        refine (bld_len wc.heap.size (LN ++ acc ++ [13, 10]) w5 HB5.out).mono ?_;rintro e w6 ⟨rfl, rfl⟩;have hE := HE.out;rw [hZa, head_Lay.end_] at hE;by_cases hbig : (LN ++ acc ++ [13, 10]).length > 1000
        · have hb1 : (1000 < (LN ++ acc ++ [13, 10]).length) = True := eq_true hbig
          have hb2 : ((1000 : Int) < ((LN ++ acc ++ [13, 10]).length : Int)) = True := eq_true (by omega);rw [if_pos hbig] at hE;simp only [Prod.mk.injEq] at hE;obtain ⟨rfl, rfl⟩ := hE;generalize (LN ++ acc ++ [13, 10]).length = n at hb1 hb2 ⊢;go_wp2
          go_ret2
          exact ⟨fi_, below_step HB.out HW5.out⟩
        · have hb1 : (1000 < (LN ++ acc ++ [13, 10]).length) = False := eq_false hbig
          have hb2 : ((1000 : Int) < ((LN ++ acc ++ [13, 10]).length : Int)) = False := eq_false (by omega);rw [if_neg hbig] at hE;simp only [Prod.mk.injEq] at hE;obtain ⟨rfl, rfl⟩ := hE;generalize (LN ++ acc ++ [13, 10]).length = n at hb1 hb2 ⊢;go_wp2_with fail
          refine (bld_done wc.heap.size (LN ++ acc ++ [13, 10]) _ HB5.out hws5).mono ?_;rintro e w8 ⟨rfl, h2⟩;have H2 := Aside0.mk (HW5.out.trans h2);clear h2;go_wp2
          go_ret2
          exact ⟨fi_, below_step HB.out H2.out⟩

/-! ### tollref01_Fold: function 70 -/
def tollref01_Fold.l0 : Nat → ByteArray → ByteArray → Int → Option (ByteArray)
 | 0, _, _, _ => none
 | k + 1, x0, x3, x4 => if x4 < (x0.size : Int) then (if 0 ≤ x4 then (if 65 ≤ (bt x0 x4) then (if (bt x0 x4) ≤ 90 then ((some (([((bt x0 x4) + 32) % 256] : List Int) : List Int)).bind fun pg => (if x3.size + (strOfNums pg).size ≤ 9223372036854775807 then (tollref01_Fold.l0 k x0 (x3 ++ (strOfNums pg)) (wrap64 (x4 + 1))) else (none))) else ((some (([bt x0 x4] : List Int) : List Int)).bind fun ph => (if x3.size + (strOfNums ph).size ≤ 9223372036854775807 then (tollref01_Fold.l0 k x0 (x3 ++ (strOfNums ph)) (wrap64 (x4 + 1))) else (none)))) else ((some (([bt x0 x4] : List Int) : List Int)).bind fun pi => (if x3.size + (strOfNums pi).size ≤ 9223372036854775807 then (tollref01_Fold.l0 k x0 (x3 ++ (strOfNums pi)) (wrap64 (x4 + 1))) else (none)))) else (none)) else (some x3)
def tollref01_Fold.f (k : Nat) (a0 : ByteArray) : Option (ByteArray) := tollref01_Fold.l0 k a0 (⟨#[]⟩ : ByteArray) 0
theorem tollref01_Fold.mono_l : ∀ k, (∀ y0 y1 y2, LeO (tollref01_Fold.l0 k y0 y1 y2) (tollref01_Fold.l0 (k + 1) y0 y1 y2))
 | 0 => fun _ _ _ r h => by simp [tollref01_Fold.l0] at h
 | k + 1 => by
  have ih0 := tollref01_Fold.mono_l k
  ·intro y0 y1 y2
   unfold tollref01_Fold.l0;repeat' first
   | (with_reducible exact ih0 _ _ _)
   | (with_reducible exact LeO.refl _)
   | (with_reducible exact LeO.none _)
   | (with_reducible refine LeO.ite ?_ ?_)
   | (with_reducible refine LeO.bind ?_ (fun _ => ?_))
   | exact ih0 _ _ _
   | exact LeO.none _
   | refine LeO.ite ?_ ?_
   | refine LeO.bind ?_ (fun _ => ?_)
theorem tollref01_Fold.mono : ∀ a0 k, LeO (tollref01_Fold.f k a0) (tollref01_Fold.f (k + 1) a0) := by
 intro a0 k;have ih0 := tollref01_Fold.mono_l k
 unfold tollref01_Fold.f;repeat' first
   | (with_reducible exact ih0 _ _ _)
   | (with_reducible exact LeO.refl _)
   | (with_reducible exact LeO.none _)
   | (with_reducible refine LeO.ite ?_ ?_)
   | (with_reducible refine LeO.bind ?_ (fun _ => ?_))
   | exact ih0 _ _ _
   | exact LeO.none _
   | refine LeO.ite ?_ ?_
   | refine LeO.bind ?_ (fun _ => ?_)
set_option maxHeartbeats 8000000 in
set_option maxRecDepth 100000 in
theorem tollref01_Fold.calls (k : Nat) (a0 : ByteArray) (r : ByteArray) (w : World) (h : tollref01_Fold.f k a0 = some r) :
  Calls Tryz.prog 70 #[.string a0] w fun e w' => e = .returned (.string r) ∧ Below w.heap.size w w' := by
 have HB := am_ (Below.refl w.heap.size w);have H : (tollref01_Fold.l0 k a0 (⟨#[]⟩ : ByteArray) 0) = some r := h;clear h;have H' := Aside0.mk H;clear H;go_enter Tryz.func70, Tryz.ntmps70
 go_wp2
 go_loopg [3, 4] k (fun kq v3 v4 w' => ∃ (x3_1 : ByteArray) (x4_1 : Int), v3 = .string x3_1 ∧ v4 = .int .i64 x4_1 ∧ Aside0 (tollref01_Fold.l0 kq a0 x3_1 x4_1 = some r) ∧ Aside0 (kq ≤ k) ∧ Aside0 (Below w.heap.size w w'))
 case atStart => exact ⟨((⟨#[]⟩ : ByteArray)), (0), sd_, sd_, H', ⟨Nat.le_refl _⟩, ⟨bel_ HB.out⟩⟩
 case round =>
  clear H';obtain ⟨x3_1, x4_1, rfl, rfl, HA, HK1, HB⟩ := hrel;cases gk with
  | zero => exact absurd HA.out (by simp [tollref01_Fold.l0])
  | succ k1 =>
   have H := HA.out;clear HA;simp only [tollref01_Fold.l0] at H;by_cases c2 : x4_1 < (a0.size : Int)
   ·rw [if_pos c2] at H
    have c2b0 : decide (x4_1 < (a0.size : Int)) = true := decide_eq_true c2;clear c2;by_cases c3 : 0 ≤ x4_1
    ·rw [if_pos c3] at H
     have c3b0 : decide (0 ≤ x4_1) = true := decide_eq_true c3;clear c3;by_cases c5 : 65 ≤ (bt a0 x4_1)
     ·rw [if_pos c5] at H
      have c5b0 : decide (65 ≤ (bt a0 x4_1)) = true := decide_eq_true c5;clear c5;by_cases c6 : (bt a0 x4_1) ≤ 90
      ·rw [if_pos c6] at H
       have c6b0 : decide ((bt a0 x4_1) ≤ 90) = true := decide_eq_true c6;clear c6;obtain ⟨pg, hy169⟩ : ∃ y_ : List Int, y_ = (([((bt a0 x4_1) + 32) % 256] : List Int)) := ⟨_, rfl⟩;replace H : (if x3_1.size + (strOfNums pg).size ≤ 9223372036854775807 then (tollref01_Fold.l0 k1 a0 (x3_1 ++ (strOfNums pg)) (wrap64 (x4_1 + 1))) else (none)) = some r := by first | (rw [hy169]; with_reducible exact H) | (have H2_ := (Option.bind_some _ _).symm.trans H; rw [hy169]; with_reducible exact H2_) | (have H2_ := (Option.bind_some _ _).symm.trans H; with_reducible exact H2_) | with_reducible exact H | (rw [hy169]; exact H) | exact H
       have Ny169 := Aside0.mk hy169;clear hy169;by_cases c7 : x3_1.size + (strOfNums pg).size ≤ 9223372036854775807
       ·rw [if_pos c7] at H
        have c7b0 := eq_true c7;have c7b1 : decide (x3_1.size + (strOfNums pg).size ≤ 9223372036854775807) = true := decide_eq_true c7;try have c7b2 : (9223372036854775807 < x3_1.size + (strOfNums pg).size) = False := eq_false (Nat.not_lt.2 c7)
        have H' := Aside0.mk H;clear H;have p4 : 0 ≤ (x4_1 : Int) := of_decide_eq_true as_;have q4 : x4_1 < (a0.size : Int) := of_decide_eq_true as_;have hx4 := bt_at a0 x4_1;replace p4 := eq_true p4;replace q4 := eq_true q4;go_wp2_with (first | ((with_reducible refine gate_dst (N := 25) rfl ?_); refine Kd.R_lit (Kd.int .u8) _ 5 ?hg (N := 25) ?hd (xs := ([((bt a0 x4_1) + 32) % 256] : List Int)) (inner := [.int .u8 (((bt a0 x4_1) + 32) % 256)]) (ok := fun _ => True) (okp := fun _ => True) ?hr ?hp (fun _ hk => hk) trivial (Below.refl _ _) (Nat.le_refl _) (by simp) ?_; (case hd => rfl); (case hg => rfl); (case hr => first | (go_simp; done) | (go_simp; rfl)); (case hp => exact (Reps.one (show Kd.M (Kd.int .u8) _ _ _ (((bt a0 x4_1) + 32) % 256) [.int .u8 (((bt a0 x4_1) + 32) % 256)] from rfl) (Reps.none _ _))); intro pM w8 ho9 hb hg_ hnew_; clear hg_ hnew_; (first | rw [← Ny169.out] at ho9 | (simp only [Int.reduceToNat] at ho9; rw [← Ny169.out] at ho9)); have n0_ := am_ (Kd.R_lower ho9 (below_size (bel_ HB.out))); have n1_ := am_ (below_step (bel_ HB.out) hb); clear HB; have pF := n0_; have HB := n1_; clear n0_ n1_ hb ho9; have hcv10 := own_string (P := Tryz.prog) Tryz.underlying43 Tryz.underlying5 Tryz.underlying9 (Kd.own_of_R pF.out)))
        go_roundg k1
        case measure => have := HK1.out; omega
        case rel => exact ⟨(x3_1 ++ (strOfNums pg)), (wrap64 (x4_1 + 1)), sd_, sd_, H', ⟨by have := HK1.out; omega⟩, ⟨bel_ HB.out⟩⟩
       ·rw [if_neg c7] at H
        exact absurd H (by simp)
      ·rw [if_neg c6] at H
       have c6b0 : decide ((bt a0 x4_1) ≤ 90) = false := decide_eq_false c6;clear c6;obtain ⟨ph, hy172⟩ : ∃ y_ : List Int, y_ = (([bt a0 x4_1] : List Int)) := ⟨_, rfl⟩;replace H : (if x3_1.size + (strOfNums ph).size ≤ 9223372036854775807 then (tollref01_Fold.l0 k1 a0 (x3_1 ++ (strOfNums ph)) (wrap64 (x4_1 + 1))) else (none)) = some r := by first | (rw [hy172]; with_reducible exact H) | (have H2_ := (Option.bind_some _ _).symm.trans H; rw [hy172]; with_reducible exact H2_) | (have H2_ := (Option.bind_some _ _).symm.trans H; with_reducible exact H2_) | with_reducible exact H | (rw [hy172]; exact H) | exact H
       have Ny172 := Aside0.mk hy172;clear hy172;by_cases c11 : x3_1.size + (strOfNums ph).size ≤ 9223372036854775807
       ·rw [if_pos c11] at H
        have c11b0 := eq_true c11;have c11b1 : decide (x3_1.size + (strOfNums ph).size ≤ 9223372036854775807) = true := decide_eq_true c11;try have c11b2 : (9223372036854775807 < x3_1.size + (strOfNums ph).size) = False := eq_false (Nat.not_lt.2 c11)
        have H' := Aside0.mk H;clear H;have p4 : 0 ≤ (x4_1 : Int) := of_decide_eq_true as_;have q4 : x4_1 < (a0.size : Int) := of_decide_eq_true as_;have hx4 := bt_at a0 x4_1;replace p4 := eq_true p4;replace q4 := eq_true q4;go_wp2_with (first | ((with_reducible refine gate_dst (N := 25) rfl ?_); refine Kd.R_lit (Kd.int .u8) _ 5 ?hg (N := 25) ?hd (xs := ([bt a0 x4_1] : List Int)) (inner := [.int .u8 (bt a0 x4_1)]) (ok := fun _ => True) (okp := fun _ => True) ?hr ?hp (fun _ hk => hk) trivial (Below.refl _ _) (Nat.le_refl _) (by simp) ?_; (case hd => rfl); (case hg => rfl); (case hr => first | (go_simp; done) | (go_simp; rfl)); (case hp => exact (Reps.one (show Kd.M (Kd.int .u8) _ _ _ (bt a0 x4_1) [.int .u8 (bt a0 x4_1)] from rfl) (Reps.none _ _))); intro pN w12 ho13 hb hg_ hnew_; clear hg_ hnew_; (first | rw [← Ny172.out] at ho13 | (simp only [Int.reduceToNat] at ho13; rw [← Ny172.out] at ho13)); have n0_ := am_ (Kd.R_lower ho13 (below_size (bel_ HB.out))); have n1_ := am_ (below_step (bel_ HB.out) hb); clear HB; have pG := n0_; have HB := n1_; clear n0_ n1_ hb ho13; have hcv14 := own_string (P := Tryz.prog) Tryz.underlying43 Tryz.underlying5 Tryz.underlying9 (Kd.own_of_R pG.out)))
        go_roundg k1
        case measure => have := HK1.out; omega
        case rel => exact ⟨(x3_1 ++ (strOfNums ph)), (wrap64 (x4_1 + 1)), sd_, sd_, H', ⟨by have := HK1.out; omega⟩, ⟨bel_ HB.out⟩⟩
       ·rw [if_neg c11] at H
        exact absurd H (by simp)
     ·rw [if_neg c5] at H
      have c5b0 : decide (65 ≤ (bt a0 x4_1)) = false := decide_eq_false c5;clear c5;obtain ⟨pi, hy175⟩ : ∃ y_ : List Int, y_ = (([bt a0 x4_1] : List Int)) := ⟨_, rfl⟩;replace H : (if x3_1.size + (strOfNums pi).size ≤ 9223372036854775807 then (tollref01_Fold.l0 k1 a0 (x3_1 ++ (strOfNums pi)) (wrap64 (x4_1 + 1))) else (none)) = some r := by first | (rw [hy175]; with_reducible exact H) | (have H2_ := (Option.bind_some _ _).symm.trans H; rw [hy175]; with_reducible exact H2_) | (have H2_ := (Option.bind_some _ _).symm.trans H; with_reducible exact H2_) | with_reducible exact H | (rw [hy175]; exact H) | exact H
      have Ny175 := Aside0.mk hy175;clear hy175;by_cases c15 : x3_1.size + (strOfNums pi).size ≤ 9223372036854775807
      ·rw [if_pos c15] at H
       have c15b0 := eq_true c15;have c15b1 : decide (x3_1.size + (strOfNums pi).size ≤ 9223372036854775807) = true := decide_eq_true c15;try have c15b2 : (9223372036854775807 < x3_1.size + (strOfNums pi).size) = False := eq_false (Nat.not_lt.2 c15)
       have H' := Aside0.mk H;clear H;have p4 : 0 ≤ (x4_1 : Int) := of_decide_eq_true as_;have q4 : x4_1 < (a0.size : Int) := of_decide_eq_true as_;have hx4 := bt_at a0 x4_1;replace p4 := eq_true p4;replace q4 := eq_true q4;go_wp2_with (first | ((with_reducible refine gate_dst (N := 25) rfl ?_); refine Kd.R_lit (Kd.int .u8) _ 5 ?hg (N := 25) ?hd (xs := ([bt a0 x4_1] : List Int)) (inner := [.int .u8 (bt a0 x4_1)]) (ok := fun _ => True) (okp := fun _ => True) ?hr ?hp (fun _ hk => hk) trivial (Below.refl _ _) (Nat.le_refl _) (by simp) ?_; (case hd => rfl); (case hg => rfl); (case hr => first | (go_simp; done) | (go_simp; rfl)); (case hp => exact (Reps.one (show Kd.M (Kd.int .u8) _ _ _ (bt a0 x4_1) [.int .u8 (bt a0 x4_1)] from rfl) (Reps.none _ _))); intro pO w16 ho17 hb hg_ hnew_; clear hg_ hnew_; (first | rw [← Ny175.out] at ho17 | (simp only [Int.reduceToNat] at ho17; rw [← Ny175.out] at ho17)); have n0_ := am_ (Kd.R_lower ho17 (below_size (bel_ HB.out))); have n1_ := am_ (below_step (bel_ HB.out) hb); clear HB; have pH := n0_; have HB := n1_; clear n0_ n1_ hb ho17; have hcv18 := own_string (P := Tryz.prog) Tryz.underlying43 Tryz.underlying5 Tryz.underlying9 (Kd.own_of_R pH.out)))
       go_roundg k1
       case measure => have := HK1.out; omega
       case rel => exact ⟨(x3_1 ++ (strOfNums pi)), (wrap64 (x4_1 + 1)), sd_, sd_, H', ⟨by have := HK1.out; omega⟩, ⟨bel_ HB.out⟩⟩
      ·rw [if_neg c15] at H
       exact absurd H (by simp)
    ·rw [if_neg c3] at H
     exact absurd H (by simp)
   ·rw [if_neg c2] at H
    have c2b0 : decide (x4_1 < (a0.size : Int)) = false := decide_eq_false c2;clear c2;obtain rfl := Option.some.inj H;go_wp2
    go_ret
    exact ⟨fi_, bel_ HB.out⟩

/-! ### tollref05_Same: function 69 -/
def tollref05_Same.f (k : Nat) (a0 : ByteArray) (a1 : ByteArray) : Option (Bool) := (tollref01_Fold.f k a0).bind fun po => ((tollref01_Fold.f k a1).bind fun pn => (some (po.toList == pn.toList)))
theorem tollref05_Same.mono : ∀ a0 a1 k, LeO (tollref05_Same.f k a0 a1) (tollref05_Same.f (k + 1) a0 a1) := by
 intro a0 a1 k;unfold tollref05_Same.f;repeat' first
   | (with_reducible exact tollref01_Fold.mono _ _)
   | (with_reducible exact LeO.refl _)
   | (with_reducible exact LeO.none _)
   | (with_reducible refine LeO.ite ?_ ?_)
   | (with_reducible refine LeO.bind ?_ (fun _ => ?_))
   | exact tollref01_Fold.mono _ _
   | exact LeO.none _
   | refine LeO.ite ?_ ?_
   | refine LeO.bind ?_ (fun _ => ?_)
set_option maxHeartbeats 8000000 in
set_option maxRecDepth 100000 in
theorem tollref05_Same.calls (k : Nat) (a0 : ByteArray) (a1 : ByteArray) (r : Bool) (w : World) (h : tollref05_Same.f k a0 a1 = some r) :
  Calls Tryz.prog 69 #[.string a0, .string a1] w fun e w' => e = .returned (.bool r) ∧ Below w.heap.size w w' := by
 have HB := am_ (Below.refl w.heap.size w);have H : ((tollref01_Fold.f k a0).bind fun po => ((tollref01_Fold.f k a1).bind fun pn => (some (po.toList == pn.toList)))) = some r := h;clear h;replace H := Option.bind_eq_some_iff.mp H;obtain ⟨po, A30, H⟩ := H;replace H : ((tollref01_Fold.f k a1).bind fun pn => (some (po.toList == pn.toList))) = some r := H;have A3 := Aside0.mk A30;clear A30;replace H := Option.bind_eq_some_iff.mp H;obtain ⟨pn, A40, H⟩ := H;replace H : (some (po.toList == pn.toList)) = some r := H;have A4 := Aside0.mk A40;clear A40;obtain rfl := Option.some.inj H;go_enter Tryz.func69, Tryz.ntmps69
 go_wp2_with (first | ((with_reducible refine gate_callee (f := 70) rfl ?_); refine goesL_ (some 6) rfl rfl Tryz.func70 kr_ rfl #[.string a0] rfl rl_ ?_; (with_reducible refine (tollref01_Fold.calls k a0 po _ A3.out).mono ?_); rintro e w5 ⟨rfl, hb⟩; refine ⟨_, rfl, ?_⟩; have n0_ := am_ (below_step (bel_ HB.out) hb); clear HB; have HB := n0_; clear n0_; (try clear hb); (try clear hb2); (try clear hk); (try clear hi)) | ((with_reducible refine gate_callee (f := 70) rfl ?_); refine goesL_ (some 8) rfl rfl Tryz.func70 kr_ rfl #[.string a1] rfl rl_ ?_; (with_reducible refine (tollref01_Fold.calls k a1 pn _ A4.out).mono ?_); rintro e w6 ⟨rfl, hb⟩; refine ⟨_, rfl, ?_⟩; have n0_ := am_ (below_step (bel_ HB.out) hb); clear HB; have HB := n0_; clear n0_; (try clear hb); (try clear hb2); (try clear hk); (try clear hi)))
 go_ret
 exact ⟨fi_, bel_ HB.out⟩

/-! ### tollref05_All: function 42 -/
def tollref05_All.l0 : Nat → List (S51) → ByteArray → List ByteArray → Int → Option (List ByteArray)
 | 0, _, _, _, _ => none
 | k + 1, x0, x1, x5, x6 => if x6 < (x0.length : Int) then (if 0 ≤ x6 then ((tollref05_Same.f k ((rd_T51 x0 x6).f0) x1).bind fun pq => (if pq = true then (if x5.length < 8796093022208 then (tollref05_All.l0 k x0 x1 (x5 ++ [(rd_T51 x0 x6).f1]) (wrap64 (x6 + 1))) else (none)) else (tollref05_All.l0 k x0 x1 x5 (wrap64 (x6 + 1))))) else (none)) else (some x5)
def tollref05_All.f (k : Nat) (l0 : List (S51)) (a1 : ByteArray) : Option (List ByteArray) := tollref05_All.l0 k l0 a1 ([] : List ByteArray) 0
theorem tollref05_All.mono_l : ∀ k, (∀ y0 y1 y2 y3, LeO (tollref05_All.l0 k y0 y1 y2 y3) (tollref05_All.l0 (k + 1) y0 y1 y2 y3))
 | 0 => fun _ _ _ _ r h => by simp [tollref05_All.l0] at h
 | k + 1 => by
  have ih0 := tollref05_All.mono_l k
  ·intro y0 y1 y2 y3
   unfold tollref05_All.l0;repeat' first
   | (with_reducible exact ih0 _ _ _ _)
   | (with_reducible exact tollref05_Same.mono _ _ _)
   | (with_reducible exact LeO.refl _)
   | (with_reducible exact LeO.none _)
   | (with_reducible refine LeO.ite ?_ ?_)
   | (with_reducible refine LeO.bind ?_ (fun _ => ?_))
   | exact ih0 _ _ _ _
   | exact tollref05_Same.mono _ _ _
   | exact LeO.none _
   | refine LeO.ite ?_ ?_
   | refine LeO.bind ?_ (fun _ => ?_)
theorem tollref05_All.mono : ∀ a0 a1 k, LeO (tollref05_All.f k a0 a1) (tollref05_All.f (k + 1) a0 a1) := by
 intro a0 a1 k;have ih0 := tollref05_All.mono_l k
 unfold tollref05_All.f;repeat' first
   | (with_reducible exact ih0 _ _ _ _)
   | (with_reducible exact tollref05_Same.mono _ _ _)
   | (with_reducible exact LeO.refl _)
   | (with_reducible exact LeO.none _)
   | (with_reducible refine LeO.ite ?_ ?_)
   | (with_reducible refine LeO.bind ?_ (fun _ => ?_))
   | exact ih0 _ _ _ _
   | exact tollref05_Same.mono _ _ _
   | exact LeO.none _
   | refine LeO.ite ?_ ?_
   | refine LeO.bind ?_ (fun _ => ?_)
set_option maxHeartbeats 8000000 in
set_option maxRecDepth 100000 in
theorem tollref05_All.calls (k : Nat) (A0 : Option Addr) (c0 : Nat) (l0 : List (S51)) (a1 : ByteArray) (r : List ByteArray) (w : World) (hr0 : Kd.C k51 w A0 l0.length l0) (hc0 : l0.length ≤ c0) (h : tollref05_All.f k l0 a1 = some r) :
  Calls Tryz.prog 42 #[.slice A0 l0.length c0, .string a1] w fun e w' => ∃ v0_ : Value, e = .returned (v0_) ∧ Kd.R Kd.string 9 w' w.heap.size (fun _ => True) v0_ r ∧ Below w.heap.size w w' := by
 have HR0 := Aside0.mk hr0;have HC0 := Aside0.mk hc0;clear hr0 hc0;have HB := am_ (Below.refl w.heap.size w);have H : (tollref05_All.l0 k l0 a1 ([] : List ByteArray) 0) = some r := h;clear h;have H' := Aside0.mk H;clear H;go_enter Tryz.func42, Tryz.ntmps42
 go_wp2
 go_loopg [5, 6] k (fun kq v5 v6 w' => ∃ (x5_1 : List ByteArray) (x6_1 : Int), v6 = .int .i64 x6_1 ∧ Aside0 (tollref05_All.l0 kq l0 a1 x5_1 x6_1 = some r) ∧ Aside0 (kq ≤ k) ∧ Aside0 (Kd.R Kd.string 9 w' w.heap.size (fun _ => True) v5 x5_1) ∧ Aside0 (Below w.heap.size w w'))
 case atStart => exact ⟨(([] : List ByteArray)), (0), sd_, H', ⟨Nat.le_refl _⟩, ⟨by first | exact Kd.R_nil _ _ _ _ _ | exact Kd.N_nil _ _ _ _ _ | exact Kd.V_nil _ _ _ _ _ | exact Kd.Q_nil _ _ _ _ _ | exact Kd.S_nil _ _ _ _ _⟩, ⟨bel_ HB.out⟩⟩
 case round =>
  clear H';try clear p2
  obtain ⟨x5_1, x6_1, rfl, HA, HK1, pc, HB⟩ := hrel;cases gk with
  | zero => exact absurd HA.out (by simp [tollref05_All.l0])
  | succ k1 =>
   have H := HA.out;clear HA;simp only [tollref05_All.l0] at H;by_cases c3 : x6_1 < (l0.length : Int)
   ·rw [if_pos c3] at H
    have c3b0 : decide (x6_1 < (l0.length : Int)) = true := decide_eq_true c3;clear c3;by_cases c4 : 0 ≤ x6_1
    ·rw [if_pos c4] at H
     have c4b0 : decide (0 ≤ x6_1) = true := decide_eq_true c4;clear c4;replace H := Option.bind_eq_some_iff.mp H;obtain ⟨pq, A50, H⟩ := H;replace H : (if pq = true then (if x5_1.length < 8796093022208 then (tollref05_All.l0 k1 l0 a1 (x5_1 ++ [(rd_T51 l0 x6_1).f1]) (wrap64 (x6_1 + 1))) else (none)) else (tollref05_All.l0 k1 l0 a1 x5_1 (wrap64 (x6_1 + 1)))) = some r := H;have A5 := Aside0.mk A50;clear A50;by_cases c6 : pq = true
     ·subst c6
      have H1 : (if x5_1.length < 8796093022208 then (tollref05_All.l0 k1 l0 a1 (x5_1 ++ [(rd_T51 l0 x6_1).f1]) (wrap64 (x6_1 + 1))) else (none)) = some r := by rw [if_pos rfl] at H; exact H
      clear H;have H := H1;clear H1;by_cases c7 : x5_1.length < 8796093022208
      ·rw [if_pos c7] at H
       have LMc7 := Aside0.mk c7;clear c7;obtain ⟨pt, hy183⟩ : ∃ y_ : List ByteArray, y_ = (x5_1 ++ [(rd_T51 l0 x6_1).f1]) := ⟨_, rfl⟩;replace H : (tollref05_All.l0 k1 l0 a1 pt (wrap64 (x6_1 + 1))) = some r := by first | (rw [hy183]; with_reducible exact H) | (have H2_ := (Option.bind_some _ _).symm.trans H; rw [hy183]; with_reducible exact H2_) | (have H2_ := (Option.bind_some _ _).symm.trans H; with_reducible exact H2_) | with_reducible exact H | (rw [hy183]; exact H) | exact H
       have Ny183 := Aside0.mk hy183;clear hy183;have H' := Aside0.mk H;clear H;have p180 : 0 ≤ (x6_1 : Int) := of_decide_eq_true as_;have q180 : x6_1 < (l0.length : Int) := of_decide_eq_true as_;obtain ⟨pu, e180, hx180_0, hx180_1⟩ := at_T51 HR0.out x6_1 p180 q180;cases e180;replace hx180_0 := (HB.out.cell (World.block_lt_of_cell? w _ hx180_0)).trans hx180_0;replace hx180_1 := (HB.out.cell (World.block_lt_of_cell? w _ hx180_1)).trans hx180_1;replace p180 := eq_true p180;replace q180 := eq_true q180;go_wp2_with (first | ((with_reducible refine gate_callee (f := 69) rfl ?_); refine goesL_ (some 19) rfl rfl Tryz.func69 kr_ rfl #[.string ((rd_T51 l0 x6_1).f0), .string a1] rfl rl_ ?_; (with_reducible refine (tollref05_Same.calls k1 ((rd_T51 l0 x6_1).f0) a1 true _ A5.out).mono ?_); rintro e w8 ⟨rfl, hb⟩; refine ⟨_, rfl, ?_⟩; have n0_ := am_ (Kd.R_below (R_ pc.out) hb); have n1_ := am_ (below_step (bel_ HB.out) hb); clear pc HB; have pc := n0_; have HB := n1_; clear n0_ n1_; (try clear hb); (try clear hb2); (try clear hk); (try clear hi); have p182 : 0 ≤ (x6_1 : Int) := of_decide_eq_true as_; have q182 : x6_1 < (l0.length : Int) := of_decide_eq_true as_; obtain ⟨pI, e182, hx182_0, hx182_1⟩ := at_T51 HR0.out x6_1 p182 q182; obtain rfl : pu = pI := (by injection e182); replace hx182_0 := (HB.out.cell (World.block_lt_of_cell? w _ hx182_0)).trans hx182_0; replace hx182_1 := (HB.out.cell (World.block_lt_of_cell? w _ hx182_1)).trans hx182_1; replace p182 := eq_true p182; replace q182 := eq_true q182) | ((with_reducible refine gate_builtin (b := .append) (xs := #[.tmp 20, .tmp 26]) rfl ?_); at_builtin; refine Kd.R_append Kd.string (w0 := w) w.heap.size rfl (.tmp 20) (.tmp 26) 59 9 (.string ⟨#[]⟩) 16 rfl Tryz.underlying59 info9 rfl (by decide) (by omega) u5 x5_1 ((rd_T51 l0 x6_1).f1) [.string ((rd_T51 l0 x6_1).f1)] (fun _ => True) (fun _ => False) rfl rfl ?aP (fun _ hk => hk.elim) ?aF ?aO ?aB ?aS ?aL ?_; (case aP => exact rfl); (case aB => exact (bel_ HB.out)); (case aF => exact (fun _ _ => trivial)); (case aO => exact (R_ pc.out)); (case aS => exact (below_size (bel_ HB.out))); (case aL => have := LMc7.out; omega); intro pP w9 ho hb hg hat; rw [← Ny183.out] at ho; have n0_ := am_ (hb); have n1_ := am_ (ho); clear HB pc; have HB := n0_; have pJ := n1_; clear n0_ n1_ ho hb hg hat))
       go_roundg k1
       case measure => have := HK1.out; omega
       case rel => exact ⟨(pt), (wrap64 (x6_1 + 1)), sd_, H', ⟨by have := HK1.out; omega⟩, ⟨by (with_reducible repeat (first | apply Kd.R_alloc | apply Kd.R_drewN | apply Kd.R_drew)); exact pJ.out⟩, ⟨bel_ HB.out⟩⟩
      ·rw [if_neg c7] at H
       exact absurd H (by simp)
     ·replace c6 := Bool.eq_false_iff.mpr c6
      subst c6;have H1 : (tollref05_All.l0 k1 l0 a1 x5_1 (wrap64 (x6_1 + 1))) = some r := by rw [if_neg (show ¬ (false = true) by decide)] at H; exact H
      clear H;have H := H1;clear H1;have H' := Aside0.mk H;clear H;have p180 : 0 ≤ (x6_1 : Int) := of_decide_eq_true as_;have q180 : x6_1 < (l0.length : Int) := of_decide_eq_true as_;obtain ⟨pu, e180, hx180_0, hx180_1⟩ := at_T51 HR0.out x6_1 p180 q180;cases e180;replace hx180_0 := (HB.out.cell (World.block_lt_of_cell? w _ hx180_0)).trans hx180_0;replace hx180_1 := (HB.out.cell (World.block_lt_of_cell? w _ hx180_1)).trans hx180_1;replace p180 := eq_true p180;replace q180 := eq_true q180;go_wp2_with (first | ((with_reducible refine gate_callee (f := 69) rfl ?_); refine goesL_ (some 19) rfl rfl Tryz.func69 kr_ rfl #[.string ((rd_T51 l0 x6_1).f0), .string a1] rfl rl_ ?_; (with_reducible refine (tollref05_Same.calls k1 ((rd_T51 l0 x6_1).f0) a1 false _ A5.out).mono ?_); rintro e w10 ⟨rfl, hb⟩; refine ⟨_, rfl, ?_⟩; have n0_ := am_ (Kd.R_below (R_ pc.out) hb); have n1_ := am_ (below_step (bel_ HB.out) hb); clear pc HB; have pc := n0_; have HB := n1_; clear n0_ n1_; (try clear hb); (try clear hb2); (try clear hk); (try clear hi)))
      go_roundg k1
      case measure => have := HK1.out; omega
      case rel => exact ⟨(x5_1), (wrap64 (x6_1 + 1)), sd_, H', ⟨by have := HK1.out; omega⟩, ⟨by (with_reducible repeat (first | apply Kd.R_alloc | apply Kd.R_drewN | apply Kd.R_drew)); exact pc.out⟩, ⟨bel_ HB.out⟩⟩
    ·rw [if_neg c4] at H
     exact absurd H (by simp)
   ·rw [if_neg c3] at H
    have c3b0 : decide (x6_1 < (l0.length : Int)) = false := decide_eq_false c3;clear c3;obtain rfl := Option.some.inj H;go_wp2
    go_ret
    exact ⟨_, by first | rfl | (simp [errW_none, errW_some] <;> rfl) | (simp [*, errW_none, errW_some] <;> rfl), by (with_reducible repeat (first | apply Kd.R_alloc | apply Kd.R_drewN | apply Kd.R_drew)); exact pc.out, bel_ HB.out⟩

/-! ### tollref01_Split: function 89 -/
def tollref01_Split.l0 : Nat → ByteArray → Int → List ByteArray → Int → Option (List ByteArray)
 | 0, _, _, _, _ => none
 | k + 1, x0, x1, x5, x6 => if x6 < (x0.size : Int) then (if 0 ≤ x6 then (if (bt x0 x6) = x1 then (if x5.length < 8796093022208 then (tollref01_Split.l0 k x0 x1 (x5 ++ [(⟨#[]⟩ : ByteArray)]) (wrap64 (x6 + 1))) else (none)) else (if 0 ≤ (wrap64 ((x5.length : Int) - 1)) then (if (wrap64 ((x5.length : Int) - 1)) < (x5.length : Int) then (if x6 ≤ (wrap64 (x6 + 1)) then (if (wrap64 (x6 + 1)) ≤ (x0.size : Int) then (if (rdOf ByteArray.empty x5 (wrap64 ((x5.length : Int) - 1))).size + (x0.extract (x6 : Int).toNat ((wrap64 (x6 + 1)) : Int).toNat).size ≤ 9223372036854775807 then (tollref01_Split.l0 k x0 x1 (x5.set ((wrap64 ((x5.length : Int) - 1)) : Int).toNat ((rdOf ByteArray.empty x5 (wrap64 ((x5.length : Int) - 1))) ++ (x0.extract (x6 : Int).toNat ((wrap64 (x6 + 1)) : Int).toNat))) (wrap64 (x6 + 1))) else (none)) else (none)) else (none)) else (none)) else (none))) else (none)) else (some x5)
def tollref01_Split.f (k : Nat) (a0 : ByteArray) (a1 : Int) : Option (List ByteArray) := tollref01_Split.l0 k a0 a1 (([(⟨#[]⟩ : ByteArray)] : List ByteArray)) 0
theorem tollref01_Split.mono_l : ∀ k, (∀ y0 y1 y2 y3, LeO (tollref01_Split.l0 k y0 y1 y2 y3) (tollref01_Split.l0 (k + 1) y0 y1 y2 y3))
 | 0 => fun _ _ _ _ r h => by simp [tollref01_Split.l0] at h
 | k + 1 => by
  have ih0 := tollref01_Split.mono_l k
  ·intro y0 y1 y2 y3
   unfold tollref01_Split.l0;repeat' first
   | (with_reducible exact ih0 _ _ _ _)
   | (with_reducible exact LeO.refl _)
   | (with_reducible exact LeO.none _)
   | (with_reducible refine LeO.ite ?_ ?_)
   | (with_reducible refine LeO.bind ?_ (fun _ => ?_))
   | exact ih0 _ _ _ _
   | exact LeO.none _
   | refine LeO.ite ?_ ?_
   | refine LeO.bind ?_ (fun _ => ?_)
theorem tollref01_Split.mono : ∀ a0 a1 k, LeO (tollref01_Split.f k a0 a1) (tollref01_Split.f (k + 1) a0 a1) := by
 intro a0 a1 k;have ih0 := tollref01_Split.mono_l k
 unfold tollref01_Split.f;repeat' first
   | (with_reducible exact ih0 _ _ _ _)
   | (with_reducible exact LeO.refl _)
   | (with_reducible exact LeO.none _)
   | (with_reducible refine LeO.ite ?_ ?_)
   | (with_reducible refine LeO.bind ?_ (fun _ => ?_))
   | exact ih0 _ _ _ _
   | exact LeO.none _
   | refine LeO.ite ?_ ?_
   | refine LeO.bind ?_ (fun _ => ?_)
def tollref01_Split.T7 : Bool × List (List Nat × List Nat) := (true, [([], []), ([], []), ([1], [1]), ([2], [2]), ([0, 3], [0, 3]), ([4], [4]), ([], []), ([], []), ([], []), ([8], [8]), ([6, 7, 9], [6, 7, 9]), ([5, 10], [5, 10]), ([0, 3, 0, 1, 2, 3, 4, 5, 6, 7, 8, 9, 10, 11], [0, 3]), ([12, 11, 0, 1, 2, 3, 4, 5, 6, 7, 8, 9, 10, 11], [11, 12])])
def tollref01_Split.B7 : List Nat := [0, 0, 2, 6, 15, 31, 0, 0, 0, 256, 960, 2047, 4095, 8191]
theorem tollref01_Split.tab7 : rtab .any (opsOf Tryz.f89 7) = tollref01_Split.T7 := by kernel_rfl
theorem tollref01_Split.bits7 : waitsOk tollref01_Split.T7.2 tollref01_Split.B7 = true := by kernel_rfl
set_option maxHeartbeats 8000000 in
set_option maxRecDepth 100000 in
theorem tollref01_Split.calls (k : Nat) (a0 : ByteArray) (a1 : Int) (r : List ByteArray) (w : World) (h : tollref01_Split.f k a0 a1 = some r) :
  Calls Tryz.prog 89 #[.string a0, .int .u8 a1] w fun e w' => ∃ v0_ : Value, e = .returned (v0_) ∧ Kd.R Kd.string 9 w' w.heap.size (fun _ => True) v0_ r ∧ Below w.heap.size w w' := by
 have HB := am_ (Below.refl w.heap.size w);have H : (tollref01_Split.l0 k a0 a1 (([(⟨#[]⟩ : ByteArray)] : List ByteArray)) 0) = some r := h;clear h;obtain ⟨pv, hy186⟩ : ∃ y_ : List ByteArray, y_ = (([(⟨#[]⟩ : ByteArray)] : List ByteArray)) := ⟨_, rfl⟩;replace H : (tollref01_Split.l0 k a0 a1 pv 0) = some r := by first | (rw [hy186]; with_reducible exact H) | (have H2_ := (Option.bind_some _ _).symm.trans H; rw [hy186]; with_reducible exact H2_) | (have H2_ := (Option.bind_some _ _).symm.trans H; with_reducible exact H2_) | with_reducible exact H | (rw [hy186]; exact H) | exact H
 have Ny186 := Aside0.mk hy186;clear hy186;have H' := Aside0.mk H;clear H;go_enter Tryz.func89, Tryz.ntmps89
 go_wp2_with (first | ((with_reducible refine gate_dst (N := 7) rfl ?_); refine Kd.R_lit Kd.string _ 9 ?hg (N := 7) ?hd (xs := ([(⟨#[]⟩ : ByteArray)] : List ByteArray)) (inner := [.string (⟨#[]⟩ : ByteArray)]) (ok := fun _ => True) (okp := fun _ => True) ?hr ?hp (fun _ hk => hk) trivial (Below.refl _ _) (Nat.le_refl _) (by simp) ?_; (case hd => rfl); (case hg => rfl); (case hr => first | (go_simp; done) | (go_simp; rfl)); (case hp => exact (Reps.one (show Kd.M Kd.string _ _ _ (⟨#[]⟩ : ByteArray) [.string (⟨#[]⟩ : ByteArray)] from rfl) (Reps.none _ _))); intro pQ w3 ho4 hb hg_ hnew_; clear hg_ hnew_; (first | rw [← Ny186.out] at ho4 | (simp only [Int.reduceToNat] at ho4; rw [← Ny186.out] at ho4)); have n0_ := am_ (Kd.R_lower ho4 (below_size (bel_ HB.out))); have n1_ := am_ (below_step (bel_ HB.out) hb); clear HB; have pK := n0_; have HB := n1_; clear n0_ n1_ hb ho4))
 go_loopg [5, 6] k (fun kq v5 v6 w' => ∃ (x5_1 : List ByteArray) (x6_1 : Int), v6 = .int .i64 x6_1 ∧ Aside0 (tollref01_Split.l0 kq a0 a1 x5_1 x6_1 = some r) ∧ Aside0 (kq ≤ k) ∧ Aside0 (Kd.R Kd.string 9 w' w.heap.size (fun _ => True) v5 x5_1) ∧ Aside0 (Below w.heap.size w w'))
 case atStart => exact ⟨(pv), (0), sd_, H', ⟨Nat.le_refl _⟩, ⟨by (with_reducible repeat (first | apply Kd.R_alloc | apply Kd.R_drewN | apply Kd.R_drew)); exact pK.out⟩, ⟨bel_ HB.out⟩⟩
 case round =>
  clear H';try clear p2
  obtain ⟨x5_1, x6_1, rfl, HA, HK1, pc, HB⟩ := hrel;cases gk with
  | zero => exact absurd HA.out (by simp [tollref01_Split.l0])
  | succ k1 =>
   have H := HA.out;clear HA;simp only [tollref01_Split.l0] at H;by_cases c5 : x6_1 < (a0.size : Int)
   ·rw [if_pos c5] at H
    have c5b0 : decide (x6_1 < (a0.size : Int)) = true := decide_eq_true c5;clear c5;by_cases c6 : 0 ≤ x6_1
    ·rw [if_pos c6] at H
     have c6b0 : decide (0 ≤ x6_1) = true := decide_eq_true c6;clear c6;by_cases c8 : (bt a0 x6_1) = a1
     ·rw [if_pos c8] at H
      have c8b0 : ((bt a0 x6_1) == a1) = true := beq_iff_eq.mpr c8;have c8b1 : ((bt a0 x6_1) != a1) = false := bne_eq_false_iff_eq.mpr c8;clear c8;by_cases c9 : x5_1.length < 8796093022208
      ·rw [if_pos c9] at H
       have LMc9 := Aside0.mk c9;clear c9;obtain ⟨pw, hy189⟩ : ∃ y_ : List ByteArray, y_ = (x5_1 ++ [(⟨#[]⟩ : ByteArray)]) := ⟨_, rfl⟩;replace H : (tollref01_Split.l0 k1 a0 a1 pw (wrap64 (x6_1 + 1))) = some r := by first | (rw [hy189]; with_reducible exact H) | (have H2_ := (Option.bind_some _ _).symm.trans H; rw [hy189]; with_reducible exact H2_) | (have H2_ := (Option.bind_some _ _).symm.trans H; with_reducible exact H2_) | with_reducible exact H | (rw [hy189]; exact H) | exact H
       have Ny189 := Aside0.mk hy189;clear hy189;have H' := Aside0.mk H;clear H;have p7 : 0 ≤ (x6_1 : Int) := of_decide_eq_true as_;have q7 : x6_1 < (a0.size : Int) := of_decide_eq_true as_;have hx7 := bt_at a0 x6_1;replace p7 := eq_true p7;replace q7 := eq_true q7;go_wp2_with (first | ((with_reducible refine gate_builtin (b := .append) (xs := #[.tmp 19, .tmp 20]) rfl ?_); at_builtin; refine Kd.R_append Kd.string (w0 := w) w.heap.size rfl (.tmp 19) (.tmp 20) 59 9 (.string ⟨#[]⟩) 16 rfl Tryz.underlying59 info9 rfl (by decide) (by omega) u5 x5_1 (⟨#[]⟩ : ByteArray) [.string (⟨#[]⟩ : ByteArray)] (fun _ => True) (fun _ => False) rfl rfl ?aP (fun _ hk => hk.elim) ?aF ?aO ?aB ?aS ?aL ?_; (case aP => exact rfl); (case aB => exact (bel_ HB.out)); (case aF => exact (fun _ _ => trivial)); (case aO => exact (R_ pc.out)); (case aS => exact (below_size (bel_ HB.out))); (case aL => have := LMc9.out; omega); intro pR w10 ho hb hg hat; rw [← Ny189.out] at ho; have n0_ := am_ (hb); have n1_ := am_ (ho); clear HB pc; have HB := n0_; have pL := n1_; clear n0_ n1_ ho hb hg hat))
       go_roundg k1
       case measure => have := HK1.out; omega
       case rel => exact ⟨(pw), (wrap64 (x6_1 + 1)), sd_, H', ⟨by have := HK1.out; omega⟩, ⟨by (with_reducible repeat (first | apply Kd.R_alloc | apply Kd.R_drewN | apply Kd.R_drew)); exact pL.out⟩, ⟨bel_ HB.out⟩⟩
      ·rw [if_neg c9] at H
       exact absurd H (by simp)
     ·rw [if_neg c8] at H
      have c8b0 : ((bt a0 x6_1) == a1) = false := beq_eq_false_iff_ne.mpr c8;have c8b1 : ((bt a0 x6_1) != a1) = true := bne_iff_ne.mpr c8;obtain ⟨ji11, hji11⟩ : ∃ j_ : Int, (wrap64 ((x5_1.length : Int) - 1)) = j_ := ⟨_, rfl⟩;replace H : (if 0 ≤ (ji11) then (if (ji11) < (x5_1.length : Int) then (if x6_1 ≤ (wrap64 (x6_1 + 1)) then (if (wrap64 (x6_1 + 1)) ≤ (a0.size : Int) then (if (rdOf ByteArray.empty x5_1 (ji11)).size + (a0.extract (x6_1 : Int).toNat ((wrap64 (x6_1 + 1)) : Int).toNat).size ≤ 9223372036854775807 then (tollref01_Split.l0 k1 a0 a1 (x5_1.set ((ji11) : Int).toNat ((rdOf ByteArray.empty x5_1 (ji11)) ++ (a0.extract (x6_1 : Int).toNat ((wrap64 (x6_1 + 1)) : Int).toNat))) (wrap64 (x6_1 + 1))) else (none)) else (none)) else (none)) else (none)) else (none)) = some r := by first | (rw [hji11] at H; exact H) | (simp only [hji11] at H ⊢; exact H)
      have hji11w : (IntKind.i64.wrap ((x5_1.length : Int) - 1)) = ji11 := (i64_w _).trans hji11;by_cases c12 : 0 ≤ (ji11)
      ·rw [if_pos c12] at H
       have c12b0 : decide (0 ≤ (ji11)) = true := decide_eq_true c12;clear c12;by_cases c13 : (ji11) < (x5_1.length : Int)
       ·rw [if_pos c13] at H
        have c13b0 : decide ((ji11) < (x5_1.length : Int)) = true := decide_eq_true c13;clear c13;have c14b0 := eq_true (of_decide_eq_true as_ : 0 ≤ x6_1);by_cases c15 : x6_1 ≤ (wrap64 (x6_1 + 1))
        ·rw [if_pos c15] at H
         have c15b0 := eq_true c15;have c15b1 : decide (x6_1 ≤ (wrap64 (x6_1 + 1))) = true := decide_eq_true c15;by_cases c16 : (wrap64 (x6_1 + 1)) ≤ (a0.size : Int)
         ·rw [if_pos c16] at H
          have c16b0 := eq_true c16;have c16b1 : decide ((wrap64 (x6_1 + 1)) ≤ (a0.size : Int)) = true := decide_eq_true c16;by_cases c17 : (rdOf ByteArray.empty x5_1 (ji11)).size + (a0.extract (x6_1 : Int).toNat ((wrap64 (x6_1 + 1)) : Int).toNat).size ≤ 9223372036854775807
          ·rw [if_pos c17] at H
           have c17b0 := eq_true c17;have c17b1 : decide ((rdOf ByteArray.empty x5_1 (ji11)).size + (a0.extract (x6_1 : Int).toNat ((wrap64 (x6_1 + 1)) : Int).toNat).size ≤ 9223372036854775807) = true := decide_eq_true c17;try have c17b2 : (9223372036854775807 < (rdOf ByteArray.empty x5_1 (ji11)).size + (a0.extract (x6_1 : Int).toNat ((wrap64 (x6_1 + 1)) : Int).toNat).size) = False := eq_false (Nat.not_lt.2 c17)
           (try (have c17s := c17; rw [ByteArray.size_extract, Nat.min_eq_left (by omega)] at c17s; have c17n := eq_false (Nat.not_lt.2 c17s)));obtain ⟨px, hy193⟩ : ∃ y_ : List ByteArray, y_ = (x5_1.set ((ji11) : Int).toNat ((rdOf ByteArray.empty x5_1 (ji11)) ++ (a0.extract (x6_1 : Int).toNat ((wrap64 (x6_1 + 1)) : Int).toNat))) := ⟨_, rfl⟩;replace H : (tollref01_Split.l0 k1 a0 a1 px (wrap64 (x6_1 + 1))) = some r := by first | (rw [hy193]; with_reducible exact H) | (have H2_ := (Option.bind_some _ _).symm.trans H; rw [hy193]; with_reducible exact H2_) | (have H2_ := (Option.bind_some _ _).symm.trans H; with_reducible exact H2_) | with_reducible exact H | (rw [hy193]; exact H) | exact H
           have Ny193 := Aside0.mk hy193;clear hy193;have H' := Aside0.mk H;clear H;have p7 : 0 ≤ (x6_1 : Int) := of_decide_eq_true as_;have q7 : x6_1 < (a0.size : Int) := of_decide_eq_true as_;have hx7 := bt_at a0 x6_1;replace p7 := eq_true p7;replace q7 := eq_true q7;try go_wp2
           have n0_ := am_ (Kd.R_drew pc.out);have n1_ := am_ (below_drew1 HB.out);clear pc HB;have pc := n0_;have HB := n1_;clear n0_ n1_;obtain ⟨pS, pT, eo20⟩ := Kd.R_slice pc.out;(first | subst eo20 | (injection eo20 with f1_ f2_ f3_; have f4_ := f1_.symm; have f5_ := f3_.symm; clear f1_ f2_ f3_; subst f4_; subst f5_));have p192 : 0 ≤ ((ji11) : Int) := of_decide_eq_true as_;have q192 : (ji11) < (x5_1.length : Int) := of_decide_eq_true as_;obtain ⟨pU, e192, hx192_0⟩ := Kd.at_string (Kd.R_reads' pc.out).2.2 (ji11) p192 q192;cases e192;replace p192 := eq_true p192;replace q192 := eq_true q192;have p18 : 0 ≤ ((ji11) : Int) := of_decide_eq_true as_;have q18 : ((ji11) : Int) < ((x5_1.length : Int) : Int) := of_decide_eq_true as_;obtain ⟨go18, pV, eo18, pz, gl18, cl18, HG18⟩ := Kd.R_form pc.out (by omega);(first | cases eo18 | (injection eo18 with ea_ en_ ec_; (first | subst ea_ | (injection ea_ with ea_; subst ea_)); subst ec_; clear en_));have GB18 := Aside0.mk pz;have GG18 := Aside0.mk HG18;clear pz gl18 HG18;(first | simp only [add_plain] at hx192_0 | skip);obtain ⟨hx18_0, hf18_0⟩ := Kd.R_celln (⟨#[]⟩ : ByteArray) pc.out ((ji11) : Int) p18 q18;replace p18 := eq_true p18;replace q18 := eq_true q18;have HP21 := Kd.R_putn pc.out ((ji11) : Int) ((rdOf ByteArray.empty x5_1 (ji11)) ++ (a0.extract (x6_1 : Int).toNat ((wrap64 (x6_1 + 1)) : Int).toNat));rw [← Ny193.out] at HP21;have HQ21 := Aside0.mk HP21;clear HP21;refine start_ (n := 14) (S := fun w' => w'.cell? ⟨go18, ((ji11)).toNat, none⟩ = some (.string (rdOf ByteArray.empty x5_1 (ji11)))) (ds := [13]) #[false, false, false, false, false, false, false, false, false, false, false, false, false, false] kr_ rfl rfl (hx192_0) (fun hHeld => ?_); refine with_tabW tollref01_Split.tab7 tollref01_Split.bits7 (fun HT_ HW_ => ?_);generalize wr.drew = w19 at pc HB GG18 HQ21 hf18_0 hx18_0 hx192_0 hHeld ⊢;refine pure_ (i := 0) (N := some 22) (v := ?_) (a' := ?_) #[true, false, false, false, false, false, false, false, false, false, false, false, false, false] rfl rfl (any_of HT_.out kr_) (fun _ _ _ h => h) (Or.inl ⟨by rfl, ?_⟩) ?_ ?_;rotate_left
           ·intro w'
            go_simp
            with_reducible rfl
           rotate_left
           ·simp only [Act.put, sx_, s0_, s1_, i64_w, i32_w]
            rfl
           refine pure_ (i := 1) (N := some 23) (v := ?_) (a' := ?_) #[true, true, false, false, false, false, false, false, false, false, false, false, false, false] rfl rfl (any_of HT_.out kr_) (fun _ _ _ h => h) (Or.inl ⟨by rfl, ?_⟩) ?_ ?_;rotate_left
           ·intro w'
            go_simp
            with_reducible rfl
           rotate_left
           ·simp only [Act.put, sx_, s0_, s1_, i64_w, i32_w]
            rfl
           refine pure_ (i := 2) (N := some 24) (v := ?_) (a' := ?_) #[true, true, true, false, false, false, false, false, false, false, false, false, false, false] rfl rfl (any_of HT_.out kr_) (fun _ _ _ h => h) (Or.inl ⟨by rfl, ?_⟩) ?_ ?_;rotate_left
           ·intro w'
            go_simp
            with_reducible rfl
           rotate_left
           ·simp only [Act.put, sx_, s0_, s1_, i64_w, i32_w]
            rfl
           refine pure_ (i := 3) (N := some 25) (v := ?_) (a' := ?_) #[true, true, true, true, false, false, false, false, false, false, false, false, false, false] rfl rfl (any_of HT_.out kr_) (fun _ _ _ h => h) (Or.inl ⟨by rfl, ?_⟩) ?_ ?_;rotate_left
           ·intro w'
            go_simp
            with_reducible rfl
           rotate_left
           ·simp only [Act.put, sx_, s0_, s1_, i64_w, i32_w]
            rfl
           refine pure_ (i := 4) (N := some 26) (v := ?_) (a' := ?_) #[true, true, true, true, true, false, false, false, false, false, false, false, false, false] rfl rfl (any_of HT_.out kr_) (fun _ _ _ h => h) (Or.inl ⟨by rfl, ?_⟩) ?_ ?_;rotate_left
           ·intro w'
            go_simp
            with_reducible rfl
           rotate_left
           ·simp only [Act.put, sx_, s0_, s1_, i64_w, i32_w]
            rfl
           refine pure_ (i := 6) (N := some 28) (v := ?_) (a' := ?_) #[true, true, true, true, true, false, true, false, false, false, false, false, false, false] rfl rfl (any_of HT_.out kr_) (fun _ _ _ h => h) (Or.inl ⟨by rfl, ?_⟩) ?_ ?_;rotate_left
           ·intro w'
            go_simp
            with_reducible rfl
           rotate_left
           ·simp only [Act.put, sx_, s0_, s1_, i64_w, i32_w]
            rfl
           refine pure_ (i := 7) (N := some 29) (v := ?_) (a' := ?_) #[true, true, true, true, true, false, true, true, false, false, false, false, false, false] rfl rfl (any_of HT_.out kr_) (fun _ _ _ h => h) (Or.inl ⟨by rfl, ?_⟩) ?_ ?_;rotate_left
           ·intro w'
            go_simp
            with_reducible rfl
           rotate_left
           ·simp only [Act.put, sx_, s0_, s1_, i64_w, i32_w]
            rfl
           refine pure_ (i := 8) (N := some 30) (v := ?_) (a' := ?_) #[true, true, true, true, true, false, true, true, true, false, false, false, false, false] rfl rfl (any_of HT_.out kr_) (fun _ _ _ h => h) (Or.inl ⟨by rfl, ?_⟩) ?_ ?_;rotate_left
           ·intro w'
            go_simp
            with_reducible rfl
           rotate_left
           ·simp only [Act.put, sx_, s0_, s1_, i64_w, i32_w]
            rfl
           refine pure_ (i := 9) (N := some 31) (v := ?_) (a' := ?_) #[true, true, true, true, true, false, true, true, true, true, false, false, false, false] rfl rfl (any_of HT_.out kr_) (fun _ _ _ h => h) (Or.inl ⟨by rfl, ?_⟩) ?_ ?_;rotate_left
           ·intro w'
            go_simp
            with_reducible rfl
           rotate_left
           ·simp only [Act.put, sx_, s0_, s1_, i64_w, i32_w]
            rfl
           refine pure_ (i := 10) (N := some 32) (v := ?_) (a' := ?_) #[true, true, true, true, true, false, true, true, true, true, true, false, false, false] rfl rfl (any_of HT_.out kr_) (fun _ _ _ h => h) (Or.inl ⟨by rfl, ?_⟩) ?_ ?_;rotate_left
           ·intro w'
            go_simp
            with_reducible rfl
           rotate_left
           ·simp only [Act.put, sx_, s0_, s1_, i64_w, i32_w]
            rfl
           refine take_ (i := 5) (N := some 27) (v := ?_) (a' := ?_) #[true, true, true, true, true, true, true, true, true, true, true, false, false, false] rfl rfl (take_ofW HT_.out HW_.out kr_) (fun _ _ _ h => h) (Or.inl ⟨by rfl, ?_⟩) hHeld ?_ ?_;rotate_left
           ·intro w' s0
            go_simp
            with_reducible rfl
           rotate_left
           ·simp only [Act.put, sx_, s0_, s1_, i64_w, i32_w]
            rfl
           refine pure_ (i := 11) (N := some 33) (v := ?_) (a' := ?_) #[true, true, true, true, true, true, true, true, true, true, true, true, false, false] rfl rfl (any_of HT_.out kr_) (fun _ _ _ h => h) (Or.inl ⟨by rfl, ?_⟩) ?_ ?_;rotate_left
           ·intro w'
            go_simp
            with_reducible rfl
           rotate_left
           ·simp only [Act.put, sx_, s0_, s1_, i64_w, i32_w]
            rfl
           refine pure_ (i := 12) (N := some 34) (v := ?_) (a' := ?_) #[true, true, true, true, true, true, true, true, true, true, true, true, true, false] rfl rfl (any_of HT_.out kr_) (fun _ _ _ h => h) (Or.inl ⟨by rfl, ?_⟩) ?_ ?_;rotate_left
           ·intro w'
            go_simp
            with_reducible rfl
           rotate_left
           ·simp only [Act.put, sx_, s0_, s1_, i64_w, i32_w]
            rfl
           refine last_ (i := 13) (N := none) #[true, true, true, true, true, true, true, true, true, true, true, true, true, true] rfl rfl (one_of HT_.out kr_) (by decide) (fun K hK => ?_);refine skip_ (w1 := ?_) (by rfl) rfl ?_ ?_;rotate_left
           ·go_simp
            rfl
           refine hK.out _ _ ?_;clear hK K;refine done_ (done_of HT_.out kr_) ?_;try go_wp2
           go_roundg k1
           case measure => have := HK1.out; omega
           case rel => exact ⟨(px), (wrap64 (x6_1 + 1)), sd_, H', ⟨by have := HK1.out; omega⟩, ⟨by (with_reducible repeat (first | apply Kd.R_alloc | apply Kd.R_drewN | apply Kd.R_drew)); exact HQ21.out⟩, ⟨bel_ HB.out⟩⟩
          ·rw [if_neg c17] at H
           exact absurd H (by simp)
         ·rw [if_neg c16] at H
          exact absurd H (by simp)
        ·rw [if_neg c15] at H
         exact absurd H (by simp)
       ·rw [if_neg c13] at H
        exact absurd H (by simp)
      ·rw [if_neg c12] at H
       exact absurd H (by simp)
    ·rw [if_neg c6] at H
     exact absurd H (by simp)
   ·rw [if_neg c5] at H
    have c5b0 : decide (x6_1 < (a0.size : Int)) = false := decide_eq_false c5;clear c5;obtain rfl := Option.some.inj H;go_wp2
    go_ret
    exact ⟨_, by first | rfl | (simp [errW_none, errW_some] <;> rfl) | (simp [*, errW_none, errW_some] <;> rfl), by (with_reducible repeat (first | apply Kd.R_alloc | apply Kd.R_drewN | apply Kd.R_drew)); exact pc.out, bel_ HB.out⟩

end Go.Proofs.YtpmllmfamjpinaaGreatDoor.P
