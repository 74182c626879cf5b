-- written by wip/tool/hprint.py of this repo: the kit's print, with contracts by hand joined; Lean checks it.
import Derived.Test.YtnldeohdojemlaaDoorPx0
import Derived.Test.YtnldeohdojemlaaDoorPx3
namespace Go.Proofs.YtnldeohdojemlaaDoor.P
open Go.RowKit Go.Proofs.YtnldeohdojemlaaDoorW.PrintWords Go.Proofs.YtnldeohdojemlaaDoorW.PrintLast Go.Proofs.YtnldeohdojemlaaDoorW.PrintMore
attribute [local go_sem] max2_int min2_int max_two min_two max_three min_three max_four min_four   -- for this text's walks alone
set_option linter.unusedVariables false
set_option linter.unusedSimpArgs false

/-! ### tollref01_Same: function 14 -/
def tollref01_Same.l0 : Nat → List ByteArray → List ByteArray → Int → Option (Bool)
  | 0, _, _, _ => none
  | k + 1, x0, x1, x5 => if x5 < (x0.length : Int) then (if 0 ≤ x5 then (if x5 < (x1.length : Int) then (if (rdOf ByteArray.empty x0 x5).toList = (rdOf ByteArray.empty x1 x5).toList then (tollref01_Same.l0 k x0 x1 (wrap64 (x5 + 1))) else (some false)) else (none)) else (none)) else (some true)
def tollref01_Same.f (k : Nat) (l0 : List ByteArray) (l1 : List ByteArray) : Option (Bool) := if (l0.length : Int) = (l1.length : Int) then (tollref01_Same.l0 k l0 l1 0) else (some false)
theorem tollref01_Same.mono_l : ∀ k, (∀ y0 y1 y2, LeO (tollref01_Same.l0 k y0 y1 y2) (tollref01_Same.l0 (k + 1) y0 y1 y2))
  | 0 => fun _ _ _ r h => by simp [tollref01_Same.l0] at h
  | k + 1 => by
    have ih0 := tollref01_Same.mono_l k
    · intro y0 y1 y2
      unfold tollref01_Same.l0
      repeat' first
      | (with_reducible exact ih0 _ _ _)
      | (with_reducible exact LeO.refl _)
      | (with_reducible exact LeO.none _)
      | (with_reducible refine LeO.ite ?_ ?_)
      | (with_reducible refine LeO.bind ?_ (fun _ => ?_))
      | exact ih0 _ _ _
      | exact LeO.none _
      | refine LeO.ite ?_ ?_
      | refine LeO.bind ?_ (fun _ => ?_)
theorem tollref01_Same.mono : ∀ a0 a1 k, LeO (tollref01_Same.f k a0 a1) (tollref01_Same.f (k + 1) a0 a1) := by
  intro a0 a1 k
  have ih0 := tollref01_Same.mono_l k
  unfold tollref01_Same.f
  repeat' first
      | (with_reducible exact ih0 _ _ _)
      | (with_reducible exact LeO.refl _)
      | (with_reducible exact LeO.none _)
      | (with_reducible refine LeO.ite ?_ ?_)
      | (with_reducible refine LeO.bind ?_ (fun _ => ?_))
      | exact ih0 _ _ _
      | exact LeO.none _
      | refine LeO.ite ?_ ?_
      | refine LeO.bind ?_ (fun _ => ?_)
set_option maxHeartbeats 8000000 in
set_option maxRecDepth 100000 in
theorem tollref01_Same.calls (k : Nat) (A0 : Option Addr) (c0 : Nat) (l0 : List ByteArray) (A1 : Option Addr) (c1 : Nat) (l1 : List ByteArray) (r : Bool) (w : World) (hr0 : Kd.C Kd.string w A0 l0.length l0) (hc0 : l0.length ≤ c0) (hr1 : Kd.C Kd.string w A1 l1.length l1) (hc1 : l1.length ≤ c1) (h : tollref01_Same.f k l0 l1 = some r) :
    Calls Tryd.prog 14 #[.slice A0 l0.length c0, .slice A1 l1.length c1] w fun e w' => e = .returned (.bool r) ∧ Drawn0 w w' := by
  have HR0 := Aside0.mk hr0
  have HC0 := Aside0.mk hc0
  clear hr0 hc0
  have HR1 := Aside0.mk hr1
  have HC1 := Aside0.mk hc1
  clear hr1 hc1
  have H : (if (l0.length : Int) = (l1.length : Int) then (tollref01_Same.l0 k l0 l1 0) else (some false)) = some r := h
  clear h
  by_cases c3 : (l0.length : Int) = (l1.length : Int)
  · rw [if_pos c3] at H
    have c3b0 : ((l0.length : Int) == (l1.length : Int)) = true := beq_iff_eq.mpr c3
    have c3b1 : ((l0.length : Int) != (l1.length : Int)) = false := bne_eq_false_iff_eq.mpr c3
    have c3b2 : (l0.length == l1.length) = true := by first | simpa using c3 | (simp at c3 ⊢; omega)
    clear c3
    have H' := Aside0.mk H
    clear H
    go_enter Tryd.func14, Tryd.ntmps14
    go_wp2
    repeat (go_quiet (fail); try go_wp2)
    go_loopg [5] k (fun kq v5 w' => ∃ (x5_1 : Int), v5 = .int .i64 x5_1 ∧ Aside0 (tollref01_Same.l0 kq l0 l1 x5_1 = some r) ∧ Aside0 (kq ≤ k) ∧ Drawn0 w w')
    case atStart => exact ⟨(0), (by first | rfl | (simp; done) | (simp [*]; done) | (simp [bne_nil_isEmpty, beq_nil_isEmpty]; done) | (simp [*, bne_nil_isEmpty, beq_nil_isEmpty]; done)), H', ⟨Nat.le_refl _⟩, by repeat (first | exact Drawn0.refl _ | apply Drawn0.step)⟩
    case round =>
      clear H'
      try clear c1
      try clear p2
      try clear c3
      try clear c3b0
      try clear c3b1
      try clear c3b2
      obtain ⟨x5_1, rfl, HA, HK1, ⟨m1, rfl⟩⟩ := hrel
      cases gk with
      | zero => exact absurd HA.out (by simp [tollref01_Same.l0])
      | succ k1 =>
        have H := HA.out
        clear HA
        simp only [tollref01_Same.l0] at H
        by_cases c4 : x5_1 < (l0.length : Int)
        · rw [if_pos c4] at H
          have c4b0 : decide (x5_1 < (l0.length : Int)) = true := decide_eq_true c4
          clear c4
          by_cases c5 : 0 ≤ x5_1
          · rw [if_pos c5] at H
            have c5b0 : decide (0 ≤ x5_1) = true := decide_eq_true c5
            clear c5
            by_cases c6 : x5_1 < (l1.length : Int)
            · rw [if_pos c6] at H
              have c6b0 : decide (x5_1 < (l1.length : Int)) = true := decide_eq_true c6
              clear c6
              by_cases c7 : (rdOf ByteArray.empty l0 x5_1).toList = (rdOf ByteArray.empty l1 x5_1).toList
              · rw [if_pos c7] at H
                have c7b0 : ((rdOf ByteArray.empty l0 x5_1).toList == (rdOf ByteArray.empty l1 x5_1).toList) = true := beq_iff_eq.mpr c7
                have c7b1 : ((rdOf ByteArray.empty l0 x5_1).toList != (rdOf ByteArray.empty l1 x5_1).toList) = false := bne_eq_false_iff_eq.mpr c7
                clear c7
                have H' := Aside0.mk H
                clear H
                have p136 : 0 ≤ (x5_1 : Int) := of_decide_eq_true (by first | (with_reducible assumption) | assumption)
                have q136 : x5_1 < (l0.length : Int) := of_decide_eq_true (by first | (with_reducible assumption) | assumption)
                obtain ⟨ad136, e136, hx136_0⟩ := Kd.at_string HR0.out x5_1 p136 q136
                cases e136
                replace p136 := eq_true p136
                replace q136 := eq_true q136
                have p137 : 0 ≤ (x5_1 : Int) := of_decide_eq_true (by first | (with_reducible assumption) | assumption)
                have q137 : x5_1 < (l1.length : Int) := of_decide_eq_true (by first | (with_reducible assumption) | assumption)
                obtain ⟨ad137, e137, hx137_0⟩ := Kd.at_string HR1.out x5_1 p137 q137
                cases e137
                replace p137 := eq_true p137
                replace q137 := eq_true q137
                go_wp2
                repeat (go_quiet (fail); try go_wp2)
                go_roundg k1
                case measure => have := HK1.out; omega
                case rel => exact ⟨(wrap64 (x5_1 + 1)), (by first | rfl | (simp; done) | (simp [*]; done) | (simp [bne_nil_isEmpty, beq_nil_isEmpty]; done) | (simp [*, bne_nil_isEmpty, beq_nil_isEmpty]; done)), H', ⟨by have := HK1.out; omega⟩, by repeat (first | exact Drawn0.refl _ | apply Drawn0.step)⟩
              · rw [if_neg c7] at H
                have c7b0 : ((rdOf ByteArray.empty l0 x5_1).toList == (rdOf ByteArray.empty l1 x5_1).toList) = false := beq_eq_false_iff_ne.mpr c7
                have c7b1 : ((rdOf ByteArray.empty l0 x5_1).toList != (rdOf ByteArray.empty l1 x5_1).toList) = true := bne_iff_ne.mpr c7
                obtain rfl := Option.some.inj H
                have p136 : 0 ≤ (x5_1 : Int) := of_decide_eq_true (by first | (with_reducible assumption) | assumption)
                have q136 : x5_1 < (l0.length : Int) := of_decide_eq_true (by first | (with_reducible assumption) | assumption)
                obtain ⟨ad136, e136, hx136_0⟩ := Kd.at_string HR0.out x5_1 p136 q136
                cases e136
                replace p136 := eq_true p136
                replace q136 := eq_true q136
                have p137 : 0 ≤ (x5_1 : Int) := of_decide_eq_true (by first | (with_reducible assumption) | assumption)
                have q137 : x5_1 < (l1.length : Int) := of_decide_eq_true (by first | (with_reducible assumption) | assumption)
                obtain ⟨ad137, e137, hx137_0⟩ := Kd.at_string HR1.out x5_1 p137 q137
                cases e137
                replace p137 := eq_true p137
                replace q137 := eq_true q137
                go_wp2
                repeat (go_quiet (fail); try go_wp2)
                go_ret
                exact ⟨by first | rfl | (simp; done) | (simp [*]; done) | (simp [bne_nil_isEmpty, beq_nil_isEmpty]; done) | (simp [*, bne_nil_isEmpty, beq_nil_isEmpty]; done), by repeat (first | exact Drawn0.refl _ | apply Drawn0.step)⟩
            · rw [if_neg c6] at H
              exact absurd H (by simp)
          · rw [if_neg c5] at H
            exact absurd H (by simp)
        · rw [if_neg c4] at H
          have c4b0 : decide (x5_1 < (l0.length : Int)) = false := decide_eq_false c4
          clear c4
          obtain rfl := Option.some.inj H
          go_wp2
          repeat (go_quiet (fail); try go_wp2)
          go_ret
          exact ⟨by first | rfl | (simp; done) | (simp [*]; done) | (simp [bne_nil_isEmpty, beq_nil_isEmpty]; done) | (simp [*, bne_nil_isEmpty, beq_nil_isEmpty]; done), by repeat (first | exact Drawn0.refl _ | apply Drawn0.step)⟩
  · rw [if_neg c3] at H
    have c3b0 : ((l0.length : Int) == (l1.length : Int)) = false := beq_eq_false_iff_ne.mpr c3
    have c3b1 : ((l0.length : Int) != (l1.length : Int)) = true := bne_iff_ne.mpr c3
    have c3b2 : (l0.length == l1.length) = false := by first | simpa using c3 | (simp at c3 ⊢; omega)
    obtain rfl := Option.some.inj H
    go_enter Tryd.func14, Tryd.ntmps14
    go_wp2
    repeat (go_quiet (fail); try go_wp2)
    go_ret
    exact ⟨by first | rfl | (simp; done) | (simp [*]; done) | (simp [bne_nil_isEmpty, beq_nil_isEmpty]; done) | (simp [*, bne_nil_isEmpty, beq_nil_isEmpty]; done), by repeat (first | exact Drawn0.refl _ | apply Drawn0.step)⟩

/-! ### pairs_All: function 15 -/
def pairs_All.l0 : Nat → ByteArray → List ByteArray → List (S35) → Int → Int → Option (List ByteArray)
  | 0, _, _, _, _, _ => none
  | k + 1, x1, x5, x8, x9, x10 => if x10 < x9 then (if 0 ≤ x10 then (if x10 < (x8.length : Int) then ((pairs_Same.f ((rd_T35 x8 x10).f0) x1).bind fun t140 => (if t140 = true then (if x5.length < 8796093022208 then (pairs_All.l0 k x1 (x5 ++ [(rd_T35 x8 x10).f1]) x8 x9 (wrap64 (x10 + 1))) else (none)) else (pairs_All.l0 k x1 x5 x8 x9 (wrap64 (x10 + 1))))) else (none)) else (none)) else (some x5)
def pairs_All.f (k : Nat) (l0 : List (S35)) (a1 : ByteArray) : Option (List ByteArray) := pairs_All.l0 k a1 ([] : List ByteArray) l0 (l0.length : Int) 0
theorem pairs_All.mono_l : ∀ k, (∀ y0 y1 y2 y3 y4, LeO (pairs_All.l0 k y0 y1 y2 y3 y4) (pairs_All.l0 (k + 1) y0 y1 y2 y3 y4))
  | 0 => fun _ _ _ _ _ r h => by simp [pairs_All.l0] at h
  | k + 1 => by
    have ih0 := pairs_All.mono_l k
    · intro y0 y1 y2 y3 y4
      unfold pairs_All.l0
      repeat' first
      | (with_reducible exact ih0 _ _ _ _ _)
      | (with_reducible exact LeO.refl _)
      | (with_reducible exact LeO.none _)
      | (with_reducible refine LeO.ite ?_ ?_)
      | (with_reducible refine LeO.bind ?_ (fun _ => ?_))
      | exact ih0 _ _ _ _ _
      | exact LeO.none _
      | refine LeO.ite ?_ ?_
      | refine LeO.bind ?_ (fun _ => ?_)
theorem pairs_All.mono : ∀ a0 a1 k, LeO (pairs_All.f k a0 a1) (pairs_All.f (k + 1) a0 a1) := by
  intro a0 a1 k
  have ih0 := pairs_All.mono_l k
  unfold pairs_All.f
  repeat' first
      | (with_reducible exact ih0 _ _ _ _ _)
      | (with_reducible exact LeO.refl _)
      | (with_reducible exact LeO.none _)
      | (with_reducible refine LeO.ite ?_ ?_)
      | (with_reducible refine LeO.bind ?_ (fun _ => ?_))
      | exact ih0 _ _ _ _ _
      | exact LeO.none _
      | refine LeO.ite ?_ ?_
      | refine LeO.bind ?_ (fun _ => ?_)
set_option maxHeartbeats 8000000 in
set_option maxRecDepth 100000 in
theorem pairs_All.calls (k : Nat) (A0 : Option Addr) (c0 : Nat) (l0 : List (S35)) (a1 : ByteArray) (r : List ByteArray) (w : World) (hr0 : Kd.C k35 w A0 l0.length l0) (hc0 : l0.length ≤ c0) (h : pairs_All.f k l0 a1 = some r) :
    Calls Tryd.prog 15 #[.slice A0 l0.length c0, .string a1] w fun e w' => ∃ v0_ : Value, e = .returned (v0_) ∧ Kd.R Kd.string 9 w' w.heap.size (fun _ => True) v0_ r ∧ Below w.heap.size w w' := by
  have hu35 := Tryd.underlying35
  have HR0 := Aside0.mk hr0
  have HC0 := Aside0.mk hc0
  clear hr0 hc0
  have HB := Aside0.mk (Below.refl w.heap.size w)
  have H : (pairs_All.l0 k a1 ([] : List ByteArray) l0 (l0.length : Int) 0) = some r := h
  clear h
  have H' := Aside0.mk H
  clear H
  go_enter Tryd.func15, Tryd.ntmps15
  go_wp2
  go_loopg [5, 10] k (fun kq v5 v10 w' => ∃ (x5_1 : List ByteArray) (x10_1 : Int), v10 = .int .i64 x10_1 ∧ Aside0 (pairs_All.l0 kq a1 x5_1 l0 (l0.length : Int) x10_1 = some r) ∧ Aside0 (kq ≤ k) ∧ Aside0 (Kd.R Kd.string 9 w' w.heap.size (fun _ => True) v5 x5_1) ∧ Aside0 (Below w.heap.size w w'))
  case atStart => exact ⟨(([] : List ByteArray)), (0), (by first | rfl | (simp; done) | (simp [*]; done) | (simp [bne_nil_isEmpty, beq_nil_isEmpty]; done) | (simp [*, bne_nil_isEmpty, beq_nil_isEmpty]; done)), H', ⟨Nat.le_refl _⟩, ⟨by first | exact Kd.R_nil _ _ _ _ _ | exact Kd.N_nil _ _ _ _ _ | exact Kd.V_nil _ _ _ _ _ | exact Kd.Q_nil _ _ _ _ _ | exact Kd.S_nil _ _ _ _ _⟩, ⟨by repeat (first | (with_reducible first | exact HB.out | apply below_alloc | apply pw_below_drewN | apply below_drew1) | exact HB.out)⟩⟩
  case round =>
    clear H'
    try clear c1
    try clear p2
    obtain ⟨x5_1, x10_1, rfl, HA, HK1, HO_5, HB⟩ := hrel
    cases gk with
    | zero => exact absurd HA.out (by simp [pairs_All.l0])
    | succ k1 =>
      have H := HA.out
      clear HA
      simp only [pairs_All.l0] at H
      by_cases c3 : x10_1 < (l0.length : Int)
      · rw [if_pos c3] at H
        have c3b0 : decide (x10_1 < (l0.length : Int)) = true := decide_eq_true c3
        clear c3
        by_cases c4 : 0 ≤ x10_1
        · rw [if_pos c4] at H
          have c4b0 : decide (0 ≤ x10_1) = true := decide_eq_true c4
          clear c4
          by_cases c5 : x10_1 < (l0.length : Int)
          · rw [if_pos c5] at H
            have c5b0 : decide (x10_1 < (l0.length : Int)) = true := decide_eq_true c5
            clear c5
            replace H := Option.bind_eq_some_iff.mp H
            obtain ⟨t140, A60, H⟩ := H
            replace H : (if t140 = true then (if x5_1.length < 8796093022208 then (pairs_All.l0 k1 a1 (x5_1 ++ [(rd_T35 l0 x10_1).f1]) l0 (l0.length : Int) (wrap64 (x10_1 + 1))) else (none)) else (pairs_All.l0 k1 a1 x5_1 l0 (l0.length : Int) (wrap64 (x10_1 + 1)))) = some r := H
            have A6 := Aside0.mk A60
            clear A60
            by_cases c7 : t140 = true
            · subst c7
              have H1 : (if x5_1.length < 8796093022208 then (pairs_All.l0 k1 a1 (x5_1 ++ [(rd_T35 l0 x10_1).f1]) l0 (l0.length : Int) (wrap64 (x10_1 + 1))) else (none)) = some r := by rw [if_pos rfl] at H; exact H
              clear H
              have H := H1
              clear H1
              by_cases c8 : x5_1.length < 8796093022208
              · rw [if_pos c8] at H
                have LMc8 := Aside0.mk c8
                clear c8
                obtain ⟨y141, hy141⟩ : ∃ y_ : List ByteArray, y_ = (x5_1 ++ [(rd_T35 l0 x10_1).f1]) := ⟨_, rfl⟩
                replace H : (pairs_All.l0 k1 a1 y141 l0 (l0.length : Int) (wrap64 (x10_1 + 1))) = some r := by first | (rw [hy141]; with_reducible exact H) | (have H2_ := (Option.bind_some _ _).symm.trans H; rw [hy141]; with_reducible exact H2_) | (have H2_ := (Option.bind_some _ _).symm.trans H; with_reducible exact H2_) | with_reducible exact H | (rw [hy141]; exact H) | exact H
                have Ny141 := Aside0.mk hy141
                clear hy141
                have H' := Aside0.mk H
                clear H
                have p138 : 0 ≤ (x10_1 : Int) := of_decide_eq_true (by first | (with_reducible assumption) | assumption)
                have q138 : x10_1 < (l0.length : Int) := of_decide_eq_true (by first | (with_reducible assumption) | assumption)
                obtain ⟨ad138, e138, hx138_0, hx138_1⟩ := at_T35 HR0.out x10_1 p138 q138
                cases e138
                replace hx138_0 := (HB.out.cell (World.block_lt_of_cell? w _ hx138_0)).trans hx138_0
                replace hx138_1 := (HB.out.cell (World.block_lt_of_cell? w _ hx138_1)).trans hx138_1
                replace p138 := eq_true p138
                replace q138 := eq_true q138
                go_wp2_with (first | ((with_reducible refine gate_dst (N := 7) rfl ?_); refine box_event ?hg (N := 7) ?hd (cs := #[.string (⟨#[]⟩ : ByteArray), .string (⟨#[]⟩ : ByteArray)]) (t := 35) ?hr ?_; (case hd => rfl); (case hg => rfl); (case hr => first | (go_simp; done) | (go_simp; rfl)); intro gb139 hg w9 hbox hb; have n0_ := Aside0.mk (Kd.R_below (by (with_reducible repeat (first | apply Kd.R_alloc | apply Kd.R_drewN | apply Kd.R_drew)); exact HO_5.out) hb); have n1_ := Aside0.mk (below_step (by repeat (first | (with_reducible first | exact HB.out | apply below_alloc | apply pw_below_drewN | apply below_drew1) | exact HB.out)) hb); have n2_ := Aside0.mk (hbox); have n3_ := Aside0.mk ((by rw [hg]; exact (below_size (by repeat (first | (with_reducible first | exact HB.out | apply below_alloc | apply pw_below_drewN | apply below_drew1) | exact HB.out))) : w.heap.size ≤ gb139)); have n4_ := Aside0.mk ((by rw [hg]; exact (below_size (by repeat (first | (with_reducible first | exact HB.out | apply below_alloc | apply pw_below_drewN | apply below_drew1) | exact HB.out))) : w.heap.size ≤ gb139)); clear HO_5; clear HB; have HO_5 := n0_; have HB := n1_; have BK139 := n2_; have GW139 := n3_; have GE139 := n4_; clear n0_ n1_ n2_ n3_ n4_; clear hb hbox hg; have hcz10_0 : w9.cell? ⟨gb139, 0, none⟩ = some (.string (⟨#[]⟩ : ByteArray)) := (blk_cell BK139.out 0).trans rfl; have hcz10_1 : w9.cell? ⟨gb139, 1, none⟩ = some (.string (⟨#[]⟩ : ByteArray)) := (blk_cell BK139.out 1).trans rfl; have hfz10_0 := blk_frozen BK139.out 0; have hfz10_1 := blk_frozen BK139.out 1) | ((with_reducible refine gate_callee (f := 12) rfl ?_); refine goesL_ (some 17) rfl rfl Tryd.func12 (by kernel_rfl) rfl #[.string ((rd_T35 l0 x10_1).f0), .string a1] rfl (by (try simp only [List.map_toArray, List.map_cons, List.map_nil]); first | done | rfl | (simp only [List.length_drop, List.length_take]; rfl)) ?_; (with_reducible refine (pairs_Same.calls ((rd_T35 l0 x10_1).f0) a1 true _ A6.out).mono ?_); rintro e w11 ⟨rfl, hb⟩; refine ⟨_, rfl, ?_⟩; have n0_ := Aside0.mk (Kd.R_below (by (with_reducible repeat (first | apply Kd.R_alloc | apply Kd.R_drewN | apply Kd.R_drew)); exact (Kd.R_mono (Kd.R_far (p := ⟨gb139, 1, none⟩) (Kd.R_far (p := ⟨gb139, 0, none⟩) (Kd.R_types HO_5.out BK139.out (by decide)) (fun _ hk => hk.2) (.string ((rd_T35 l0 x10_1).f0))) (fun _ hk => hk.2) (.string ((rd_T35 l0 x10_1).f1))) (fun _ h_ => h_.1))) hb); have n1_ := Aside0.mk (blk_below (g := gb139) (o := .cells #[.string ((rd_T35 l0 x10_1).f0), .string ((rd_T35 l0 x10_1).f1)] 35 (0, 0)) (by (with_reducible repeat (first | refine blk_drewN ?_ _ | refine blk_drew ?_ | refine blk_alloc ?_ _)); refine blk_put (cs := #[.string ((rd_T35 l0 x10_1).f0), .string (⟨#[]⟩ : ByteArray)]) ?_ 1 _ rfl; (with_reducible repeat (first | refine blk_drewN ?_ _ | refine blk_drew ?_ | refine blk_alloc ?_ _)); refine blk_put (cs := #[.string (⟨#[]⟩ : ByteArray), .string (⟨#[]⟩ : ByteArray)]) ?_ 0 _ rfl; (with_reducible repeat (first | refine blk_drewN ?_ _ | refine blk_drew ?_ | refine blk_alloc ?_ _)); exact BK139.out) hb); have n2_ := Aside0.mk (below_step (by repeat (first | (with_reducible first | exact HB.out | apply below_alloc | apply pw_below_drewN | apply below_drew1 | refine below_set ?_ GE139.out) | exact HB.out)) hb); clear HO_5; clear BK139; clear HB; have HO_5 := n0_; have BK139 := n1_; have HB := n2_; clear n0_ n1_ n2_; (try clear hb); (try clear hb2); (try clear hk); (try clear hi); have hcz12_0 : w11.cell? ⟨gb139, 0, none⟩ = some (.string ((rd_T35 l0 x10_1).f0)) := (blk_cell BK139.out 0).trans rfl; have hcz12_1 : w11.cell? ⟨gb139, 1, none⟩ = some (.string ((rd_T35 l0 x10_1).f1)) := (blk_cell BK139.out 1).trans rfl; have hfz12_0 := blk_frozen BK139.out 0; have hfz12_1 := blk_frozen BK139.out 1) | ((with_reducible refine gate_builtin (b := .append) (xs := #[.tmp 18, .tmp 21]) rfl ?_); at_builtin; refine Kd.R_append Kd.string (w0 := w) w.heap.size rfl (.tmp 18) (.tmp 21) 25 9 (.string ⟨#[]⟩) 16 rfl Tryd.underlying25 info9 rfl (by decide) (by omega) u5 x5_1 ((rd_T35 l0 x10_1).f1) [.string ((rd_T35 l0 x10_1).f1)] (fun _ => True) (fun _ => False) rfl rfl ?aP (fun _ hk => hk.elim) ?aF ?aO ?aB ?aS ?aL ?_; (case aP => exact rfl); (case aB => exact (by repeat (first | (with_reducible first | exact HB.out | apply below_alloc | apply pw_below_drewN | apply below_drew1 | refine below_set ?_ GE139.out) | exact HB.out))); (case aF => exact (fun _ _ => trivial)); (case aO => exact (by (with_reducible repeat (first | apply Kd.R_alloc | apply Kd.R_drewN | apply Kd.R_drew)); exact HO_5.out)); (case aS => exact (below_size (by repeat (first | (with_reducible first | exact HB.out | apply below_alloc | apply pw_below_drewN | apply below_drew1 | refine below_set ?_ GE139.out) | exact HB.out)))); (case aL => have := LMc8.out; omega); intro v142 w13 ho hb hg hat; rw [← Ny141.out] at ho; have n0_ := Aside0.mk (blk_grown (g := gb139) (o := .cells #[.string ((rd_T35 l0 x10_1).f0), .string ((rd_T35 l0 x10_1).f1)] 35 (0, 0)) (by (with_reducible repeat (first | refine blk_drewN ?_ _ | refine blk_drew ?_ | refine blk_alloc ?_ _)); exact BK139.out) hg (Kd.R_ne HO_5.out BK139.out (by decide))); have n1_ := Aside0.mk (hb); have n2_ := Aside0.mk (ho); clear BK139; clear HB; clear HO_5; have BK139 := n0_; have HB := n1_; have HO143 := n2_; clear n0_ n1_ n2_; clear ho hb hg hat))
                go_roundg k1
                case measure => have := HK1.out; omega
                case rel => exact ⟨(y141), (wrap64 (x10_1 + 1)), (by first | rfl | (simp; done) | (simp [*]; done) | (simp [bne_nil_isEmpty, beq_nil_isEmpty]; done) | (simp [*, bne_nil_isEmpty, beq_nil_isEmpty]; done)), H', ⟨by have := HK1.out; omega⟩, ⟨by (with_reducible repeat (first | apply Kd.R_alloc | apply Kd.R_drewN | apply Kd.R_drew)); exact HO143.out⟩, ⟨by repeat (first | (with_reducible first | exact HB.out | apply below_alloc | apply pw_below_drewN | apply below_drew1 | refine below_set ?_ GE139.out) | exact HB.out)⟩⟩
              · rw [if_neg c8] at H
                exact absurd H (by simp)
            · replace c7 := Bool.eq_false_iff.mpr c7
              subst c7
              have H1 : (pairs_All.l0 k1 a1 x5_1 l0 (l0.length : Int) (wrap64 (x10_1 + 1))) = some r := by rw [if_neg (show ¬ (false = true) by decide)] at H; exact H
              clear H
              have H := H1
              clear H1
              have H' := Aside0.mk H
              clear H
              have p138 : 0 ≤ (x10_1 : Int) := of_decide_eq_true (by first | (with_reducible assumption) | assumption)
              have q138 : x10_1 < (l0.length : Int) := of_decide_eq_true (by first | (with_reducible assumption) | assumption)
              obtain ⟨ad138, e138, hx138_0, hx138_1⟩ := at_T35 HR0.out x10_1 p138 q138
              cases e138
              replace hx138_0 := (HB.out.cell (World.block_lt_of_cell? w _ hx138_0)).trans hx138_0
              replace hx138_1 := (HB.out.cell (World.block_lt_of_cell? w _ hx138_1)).trans hx138_1
              replace p138 := eq_true p138
              replace q138 := eq_true q138
              go_wp2_with (first | ((with_reducible refine gate_dst (N := 7) rfl ?_); refine box_event ?hg (N := 7) ?hd (cs := #[.string (⟨#[]⟩ : ByteArray), .string (⟨#[]⟩ : ByteArray)]) (t := 35) ?hr ?_; (case hd => rfl); (case hg => rfl); (case hr => first | (go_simp; done) | (go_simp; rfl)); intro gb139 hg w14 hbox hb; have n0_ := Aside0.mk (Kd.R_below (by (with_reducible repeat (first | apply Kd.R_alloc | apply Kd.R_drewN | apply Kd.R_drew)); exact HO_5.out) hb); have n1_ := Aside0.mk (below_step (by repeat (first | (with_reducible first | exact HB.out | apply below_alloc | apply pw_below_drewN | apply below_drew1) | exact HB.out)) hb); have n2_ := Aside0.mk (hbox); have n3_ := Aside0.mk ((by rw [hg]; exact (below_size (by repeat (first | (with_reducible first | exact HB.out | apply below_alloc | apply pw_below_drewN | apply below_drew1) | exact HB.out))) : w.heap.size ≤ gb139)); have n4_ := Aside0.mk ((by rw [hg]; exact (below_size (by repeat (first | (with_reducible first | exact HB.out | apply below_alloc | apply pw_below_drewN | apply below_drew1) | exact HB.out))) : w.heap.size ≤ gb139)); clear HO_5; clear HB; have HO_5 := n0_; have HB := n1_; have BK139 := n2_; have GW139 := n3_; have GE139 := n4_; clear n0_ n1_ n2_ n3_ n4_; clear hb hbox hg; have hcz15_0 : w14.cell? ⟨gb139, 0, none⟩ = some (.string (⟨#[]⟩ : ByteArray)) := (blk_cell BK139.out 0).trans rfl; have hcz15_1 : w14.cell? ⟨gb139, 1, none⟩ = some (.string (⟨#[]⟩ : ByteArray)) := (blk_cell BK139.out 1).trans rfl; have hfz15_0 := blk_frozen BK139.out 0; have hfz15_1 := blk_frozen BK139.out 1) | ((with_reducible refine gate_callee (f := 12) rfl ?_); refine goesL_ (some 17) rfl rfl Tryd.func12 (by kernel_rfl) rfl #[.string ((rd_T35 l0 x10_1).f0), .string a1] rfl (by (try simp only [List.map_toArray, List.map_cons, List.map_nil]); first | done | rfl | (simp only [List.length_drop, List.length_take]; rfl)) ?_; (with_reducible refine (pairs_Same.calls ((rd_T35 l0 x10_1).f0) a1 false _ A6.out).mono ?_); rintro e w16 ⟨rfl, hb⟩; refine ⟨_, rfl, ?_⟩; have n0_ := Aside0.mk (Kd.R_below (by (with_reducible repeat (first | apply Kd.R_alloc | apply Kd.R_drewN | apply Kd.R_drew)); exact (Kd.R_mono (Kd.R_far (p := ⟨gb139, 1, none⟩) (Kd.R_far (p := ⟨gb139, 0, none⟩) (Kd.R_types HO_5.out BK139.out (by decide)) (fun _ hk => hk.2) (.string ((rd_T35 l0 x10_1).f0))) (fun _ hk => hk.2) (.string ((rd_T35 l0 x10_1).f1))) (fun _ h_ => h_.1))) hb); have n1_ := Aside0.mk (blk_below (g := gb139) (o := .cells #[.string ((rd_T35 l0 x10_1).f0), .string ((rd_T35 l0 x10_1).f1)] 35 (0, 0)) (by (with_reducible repeat (first | refine blk_drewN ?_ _ | refine blk_drew ?_ | refine blk_alloc ?_ _)); refine blk_put (cs := #[.string ((rd_T35 l0 x10_1).f0), .string (⟨#[]⟩ : ByteArray)]) ?_ 1 _ rfl; (with_reducible repeat (first | refine blk_drewN ?_ _ | refine blk_drew ?_ | refine blk_alloc ?_ _)); refine blk_put (cs := #[.string (⟨#[]⟩ : ByteArray), .string (⟨#[]⟩ : ByteArray)]) ?_ 0 _ rfl; (with_reducible repeat (first | refine blk_drewN ?_ _ | refine blk_drew ?_ | refine blk_alloc ?_ _)); exact BK139.out) hb); have n2_ := Aside0.mk (below_step (by repeat (first | (with_reducible first | exact HB.out | apply below_alloc | apply pw_below_drewN | apply below_drew1 | refine below_set ?_ GE139.out) | exact HB.out)) hb); clear HO_5; clear BK139; clear HB; have HO_5 := n0_; have BK139 := n1_; have HB := n2_; clear n0_ n1_ n2_; (try clear hb); (try clear hb2); (try clear hk); (try clear hi)))
              go_roundg k1
              case measure => have := HK1.out; omega
              case rel => exact ⟨(x5_1), (wrap64 (x10_1 + 1)), (by first | rfl | (simp; done) | (simp [*]; done) | (simp [bne_nil_isEmpty, beq_nil_isEmpty]; done) | (simp [*, bne_nil_isEmpty, beq_nil_isEmpty]; done)), H', ⟨by have := HK1.out; omega⟩, ⟨by (with_reducible repeat (first | apply Kd.R_alloc | apply Kd.R_drewN | apply Kd.R_drew)); exact HO_5.out⟩, ⟨by repeat (first | (with_reducible first | exact HB.out | apply below_alloc | apply pw_below_drewN | apply below_drew1 | refine below_set ?_ GE139.out) | exact HB.out)⟩⟩
          · rw [if_neg c5] at H
            exact absurd H (by simp)
        · rw [if_neg c4] at H
          exact absurd H (by simp)
      · rw [if_neg c3] at H
        have c3b0 : decide (x10_1 < (l0.length : Int)) = false := decide_eq_false c3
        clear c3
        obtain rfl := Option.some.inj H
        go_wp2
        go_ret
        exact ⟨_, by first | rfl | (simp [errW_none, errW_some] <;> rfl) | (simp [*, errW_none, errW_some] <;> rfl), by (with_reducible repeat (first | apply Kd.R_alloc | apply Kd.R_drewN | apply Kd.R_drew)); exact HO_5.out, by repeat (first | (with_reducible first | exact HB.out | apply below_alloc | apply pw_below_drewN | apply below_drew1) | exact HB.out)⟩

/-! ### api_Pair_45: function 45 -/
def api_Pair_45.f (l0 : List (S35)) : Option (List (S35)) := if l0.length * 32 ≤ 140737488355328 then some l0 else none
set_option maxHeartbeats 8000000 in
set_option maxRecDepth 100000 in
theorem api_Pair_45.calls (A0 : Option Addr) (c0 : Nat) (l0 : List (S35)) (r : List (S35)) (w : World) (hr0 : Kd.C k35 w A0 l0.length l0) (hc0 : l0.length ≤ c0) (h : api_Pair_45.f l0 = some r) :
    Calls Tryd.prog 45 #[.slice A0 l0.length c0] w fun e w' => ∃ v0_ : Value, e = .returned (v0_) ∧ Kd.R k35 35 w' w.heap.size (fun _ => True) v0_ r ∧ Below w.heap.size w w' := by
  have hlim : l0.length * 32 ≤ 140737488355328 := by
    by_cases hx : l0.length * 32 ≤ 140737488355328
    · exact hx
    · rw [api_Pair_45.f, if_neg hx] at h; cases h
  rw [api_Pair_45.f, if_pos hlim] at h
  obtain rfl := Option.some.inj h
  clear h
  have HR := Aside0.mk hr0
  have LM := Aside0.mk hlim
  clear hlim hc0
  have hq := fun (W : World) (a : Option Addr) (n c n' c' : Nat) => Lib.run_eql_slice_nil (P := Tryd.prog) W 22 35 a n c n' c' Tryd.underlying22
  cases A0 with
  | none =>
    have h0 : l0 = [] := by
      rcases Nat.eq_zero_or_pos l0.length with h0 | h0
      · exact List.eq_nil_of_length_eq_zero h0
      · obtain ⟨ad, he, _⟩ := hr0.2.2 h0
        cases he
    subst h0
    clear hr0 HR
    go_enter Tryd.func45, Tryd.ntmps45
    go_wp2
    go_ret
    exact ⟨_, rfl, Kd.R_nil _ _ _ _ _, Below.refl _ _⟩
  | some ad =>
    clear hr0
    go_enter Tryd.func45, Tryd.ntmps45
    go_wp2_with (at_builtin; refine Kd.R_append_rows k35 (w0 := w) w.heap.size rfl (.tmp 5) (.tmp 6) 22 35 (.agg #[(.string ⟨#[]⟩), (.string ⟨#[]⟩)]) 32 rfl Tryd.underlying22 info35 rfl (by decide) (by decide) (.slice (some ⟨w.heap.size, 0, none⟩) 0 0) [] l0 (some ad) l0.length c0 (fun _ => True) (fun _ => False) rfl rfl ?aO ?aR (fun _ _ h => h) (fun _ h => h.elim) (fun _ _ => trivial) ?aB ?aS ?aL ?_; (case aO => exact ⟨fun _ _ => trivial, [], World.ownsRow_made w #[] 0 (Nat.le_refl _) (Nat.zero_le _) (by simp), Reps.none _ _⟩); (case aR => exact Kd.C_alloc HR.out _); (case aB => exact (Below.refl _ w).alloc (Nat.le_refl _) _); (case aS => simp); (case aL => have := LM.out; simp; omega); intro v1 w1 ho hb hg hat; rw [List.nil_append] at ho; have n0_ := Aside0.mk ho; have n1_ := Aside0.mk hb; clear ho hb hg hat)
    go_ret
    exact ⟨_, rfl, n0_.out, n1_.out⟩

/-! ### pairs_Add: function 34 -/
def pairs_Add.f (l0 : List (S35)) (a1 : ByteArray) (a2 : ByteArray) : Option ((List (S35))) := (api_Pair_45.f l0).bind fun t144 => (if t144.length < 4398046511104 then (some (t144 ++ [(⟨a1, a2⟩ : S35)])) else (none))
set_option maxHeartbeats 8000000 in
set_option maxRecDepth 100000 in
theorem pairs_Add.calls (A0 : Option Addr) (c0 : Nat) (l0 : List (S35)) (a1 : ByteArray) (a2 : ByteArray) (r : List (S35)) (w : World) (hr0 : Kd.C k35 w A0 l0.length l0) (hc0 : l0.length ≤ c0) (h : pairs_Add.f l0 a1 a2 = some r) :
    Calls Tryd.prog 34 #[.slice A0 l0.length c0, .string a1, .string a2] w fun e w' => ∃ v0_ : Value, e = .returned (v0_) ∧ Kd.R k35 35 w' w.heap.size (fun _ => True) v0_ r ∧ Below w.heap.size w w' := by
  have hu35 := Tryd.underlying35
  have HR0 := Aside0.mk hr0
  have HC0 := Aside0.mk hc0
  clear hr0 hc0
  have HB := Aside0.mk (Below.refl w.heap.size w)
  have H : ((api_Pair_45.f l0).bind fun t144 => (if t144.length < 4398046511104 then (some (t144 ++ [(⟨a1, a2⟩ : S35)])) else (none))) = some r := h
  clear h
  replace H := Option.bind_eq_some_iff.mp H
  obtain ⟨t144, A40, H⟩ := H
  replace H : (if t144.length < 4398046511104 then (some (t144 ++ [(⟨a1, a2⟩ : S35)])) else (none)) = some r := H
  have A4 := Aside0.mk A40
  clear A40
  by_cases c5 : t144.length < 4398046511104
  · rw [if_pos c5] at H
    have LMc5 := Aside0.mk c5
    clear c5
    obtain ⟨y147, hy147⟩ : ∃ y_ : List (S35), y_ = (t144 ++ [(⟨a1, a2⟩ : S35)]) := ⟨_, rfl⟩
    replace H : (some y147) = some r := by first | (rw [hy147]; with_reducible exact H) | (have H2_ := (Option.bind_some _ _).symm.trans H; rw [hy147]; with_reducible exact H2_) | (have H2_ := (Option.bind_some _ _).symm.trans H; with_reducible exact H2_) | with_reducible exact H | (rw [hy147]; exact H) | exact H
    have Ny147 := Aside0.mk hy147
    clear hy147
    obtain rfl := Option.some.inj H
    go_enter Tryd.func34, Tryd.ntmps34
    go_wp2_with (first | ((with_reducible refine gate_callee (f := 45) rfl ?_); refine goesL_ (some 8) rfl rfl Tryd.func45 (by kernel_rfl) rfl #[.slice A0 l0.length c0] rfl (by (try simp only [List.map_toArray, List.map_cons, List.map_nil]); first | done | rfl | (simp only [List.length_drop, List.length_take]; rfl)) ?_; (with_reducible refine (api_Pair_45.calls _ _ l0 t144 _ ?side1 ?side2 A4.out).mono ?_); (case side1 => repeat (first | exact HR0.out | (with_reducible refine Kd.C_alloc ?_ _) | (with_reducible refine Kd.C_drewN ?_ _) | (with_reducible refine Kd.C_drew ?_))); (case side2 => exact HC0.out); rintro e w6 ⟨v145, rfl, ho0, hb⟩; refine ⟨_, rfl, ?_⟩; have n0_ := Aside0.mk (Kd.R_lower ho0 (below_size (by repeat (first | (with_reducible first | exact HB.out | apply below_alloc | apply pw_below_drewN | apply below_drew1) | exact HB.out)))); have n1_ := Aside0.mk (below_step (by repeat (first | (with_reducible first | exact HB.out | apply below_alloc | apply pw_below_drewN | apply below_drew1) | exact HB.out)) hb); clear HB; have HO146 := n0_; have HB := n1_; clear n0_ n1_; (try clear hb); (try clear hb2); (try clear hk); (try clear hi); (try clear ho0)) | ((with_reducible refine gate_builtin (b := .append) (xs := #[.tmp 8, .tmp 12]) rfl ?_); at_builtin; refine Kd.R_append k35 (w0 := w) w.heap.size rfl (.tmp 8) (.tmp 12) 22 35 (.agg #[(.string ⟨#[]⟩), (.string ⟨#[]⟩)]) 32 rfl Tryd.underlying22 info35 rfl (by decide) (by omega) v145 t144 (⟨a1, a2⟩ : S35) [.string a1, .string a2] (fun _ => True) (fun _ => False) rfl rfl ?aP (fun _ hk => hk.elim) ?aF ?aO ?aB ?aS ?aL ?_; (case aP => exact k35_mkM _ _ _ (⟨a1, a2⟩ : S35)); (case aB => exact (by repeat (first | (with_reducible first | exact HB.out | apply below_alloc | apply pw_below_drewN | apply below_drew1) | exact HB.out))); (case aF => exact (fun _ _ => trivial)); (case aO => exact (by (with_reducible repeat (first | apply Kd.R_alloc | apply Kd.R_drewN | apply Kd.R_drew)); exact HO146.out)); (case aS => exact (below_size (by repeat (first | (with_reducible first | exact HB.out | apply below_alloc | apply pw_below_drewN | apply below_drew1) | exact HB.out)))); (case aL => have := LMc5.out; omega); intro v148 w7 ho hb hg hat; rw [← Ny147.out] at ho; have n0_ := Aside0.mk (hb); have n1_ := Aside0.mk (ho); clear HB; clear HO146; have HB := n0_; have HO149 := n1_; clear n0_ n1_; clear ho hb hg hat))
    go_ret
    exact ⟨_, by first | rfl | (simp [errW_none, errW_some] <;> rfl) | (simp [*, errW_none, errW_some] <;> rfl), by (with_reducible repeat (first | apply Kd.R_alloc | apply Kd.R_drewN | apply Kd.R_drew)); exact HO149.out, by repeat (first | (with_reducible first | exact HB.out | apply below_alloc | apply pw_below_drewN | apply below_drew1) | exact HB.out)⟩
  · rw [if_neg c5] at H
    exact absurd H (by simp)

/-! ### api_Pair_46: function 46 -/
def api_Pair_46.f (l0 : List (S35)) (l1 : List (S35)) : Option (Bool) := none
theorem api_Pair_46.calls (A0 : Option Addr) (c0 : Nat) (l0 : List (S35)) (A1 : Option Addr) (c1 : Nat) (l1 : List (S35)) (r : Bool) (w : World) (hr0 : Kd.C k35 w A0 l0.length l0) (hc0 : l0.length ≤ c0) (hr1 : Kd.C k35 w A1 l1.length l1) (hc1 : l1.length ≤ c1) (h : api_Pair_46.f l0 l1 = some r) :
    Calls Tryd.prog 46 #[.slice A0 l0.length c0, .slice A1 l1.length c1] w fun e w' => e = .returned (.bool r) ∧ Drawn0 w w' := by
  exact absurd h (by simp [api_Pair_46.f])

-- function 57: told where it is called

-- function 53: told where it is called

-- function 47: told where it is called

/-- Pairs in a block of cells of their own. -/
def Row2 (w : World) (g cap : Nat) (l : List S35) : Prop := ∃ cur, w.heap[g]? = some (.cells cur 35 (0, 0)) ∧ cur.size = cap * 2 ∧ l.length ≤ cap ∧ ∀ j (hj : j < l.length), cur[j * 2]? = some (.string (l[j]'hj).f0) ∧ cur[j * 2 + 1]? = some (.string (l[j]'hj).f1)
theorem Row2.cell {w : World} {g cap : Nat} {l : List S35} (h : Row2 w g cap l) (j : Nat) (hj : j < l.length) : w.cell? ⟨g, j * 2, none⟩ = some (.string (l[j]'hj).f0) ∧ w.cell? ⟨g, j * 2 + 1, none⟩ = some (.string (l[j]'hj).f1) := by
  obtain ⟨cur, hh, hs, hl, hc⟩ := h
  exact ⟨(blk_cell hh _).trans (hc j hj).1, (blk_cell hh _).trans (hc j hj).2⟩
theorem Row2.room {w : World} {g cap : Nat} {l : List S35} (h : Row2 w g cap l) (j : Nat) (hj : j < cap * 2) : (w.cell? ⟨g, j, none⟩).isSome = true := by
  obtain ⟨cur, hh, hs, hl, hc⟩ := h
  rw [blk_cell hh, Array.getElem?_eq_getElem (by omega)]; rfl
theorem Row2.frozen {w : World} {g cap : Nat} {l : List S35} (h : Row2 w g cap l) (j : Nat) : w.frozen? ⟨g, j, none⟩ = false := by
  obtain ⟨cur, hh, hs, hl, hc⟩ := h
  exact blk_frozen hh _
theorem Row2.lt {w : World} {g cap : Nat} {l : List S35} (h : Row2 w g cap l) : g < w.heap.size := by
  obtain ⟨cur, hh, hs, hl, hc⟩ := h
  exact blk_lt hh
theorem Row2.put {w : World} {g cap : Nat} {l : List S35} (h : Row2 w g cap l) (i : Nat) (hi : i < l.length) (x : S35) : Row2 ((w.setCell ⟨g, i * 2, none⟩ (.string x.f0)).setCell ⟨g, i * 2 + 1, none⟩ (.string x.f1)) g cap (l.set i x) := by
  obtain ⟨cur, hh, hs, hl, hc⟩ := h
  refine ⟨_, blk_put (blk_put hh (i * 2) _ rfl) (i * 2 + 1) _ rfl, by simpa using hs, by simpa using hl, fun j hj => ?_⟩
  have hj' : j < l.length := by simpa using hj
  have := hc j hj'
  simp only [Array.getElem?_setIfInBounds, Array.size_setIfInBounds, List.getElem_set]
  by_cases e : i = j
  · subst e
    simp [show i * 2 < cur.size by omega, show i * 2 + 1 < cur.size by omega]
  · have e1 : ¬ i * 2 = j * 2 := by omega
    have e2 : ¬ i * 2 + 1 = j * 2 + 1 := by omega
    have e3 : ¬ i * 2 + 1 = j * 2 := by omega
    have e4 : ¬ i * 2 = j * 2 + 1 := by omega
    simp [e, e1, e2, e3, e4, this]
theorem Row2.move {w w' : World} {g cap : Nat} {l : List S35} (h : Row2 w g cap l) (hm : w'.heap[g]? = w.heap[g]?) : Row2 w' g cap l := by
  obtain ⟨cur, hh, h⟩ := h
  exact ⟨cur, hm.trans hh, h⟩
theorem Row2.below {w w' : World} {g cap : Nat} {l : List S35} (h : Row2 w g cap l) (hb : Below w.heap.size w w') : Row2 w' g cap l := h.move (hb.block g h.lt)
theorem Row2.take {w : World} {g cap : Nat} {l : List S35} (h : Row2 w g cap l) (k : Nat) : Row2 w g cap (l.take k) := by
  obtain ⟨cur, hh, hs, hl, hc⟩ := h
  exact ⟨cur, hh, hs, by rw [List.length_take]; omega, fun j hj => by rw [List.getElem_take]; exact hc j (by rw [List.length_take] at hj; omega)⟩
theorem row2_of {w : World} {base : Nat} {ok : Nat → Prop} {A : Addr} {n c : Nat} {l : List S35} (h : Kd.R k35 35 w base ok (.slice (some A) n c) l) : ∃ g, A = ⟨g, 0, none⟩ ∧ n = l.length ∧ base ≤ g ∧ c ≤ maxLen ∧ Row2 w g c l := by
  obtain ⟨_, inner, ⟨hl, ho⟩, hr⟩ := h
  rcases ho with ⟨e, _⟩ | ⟨g, cap, cur, e, hb, hh, hn, hx, hs, ht⟩
  · cases e
  · injection e with e1 e2 e3
    injection e1 with e1
    subst e1 e2 e3
    refine ⟨g, rfl, rfl, hb, hx, cur, hh, hs, hn, fun j hj => ?_⟩
    have hK := k35_openM (hr.2 j (l[j]'hj) (List.getElem?_eq_getElem hj))
    have hz : k35.sz = 2 := rfl
    rw [hz] at hK ht
    have g0 : inner[j * 2]? = some (.string (l[j]'hj).f0) := by
      have := congrArg (fun z => z[0]?) hK
      simpa [List.getElem?_take, List.getElem?_drop] using this
    have g1 : inner[j * 2 + 1]? = some (.string (l[j]'hj).f1) := by
      have := congrArg (fun z => z[1]?) hK
      simpa [List.getElem?_take, List.getElem?_drop] using this
    rw [← ht, List.getElem?_take] at g0 g1
    rw [if_pos (by omega)] at g0 g1
    exact ⟨by simpa using g0, by simpa using g1⟩
theorem Row2.R {w : World} {g cap : Nat} {l : List S35} (h : Row2 w g cap l) {base : Nat} (hb : base ≤ g) (hx : cap ≤ maxLen) : Kd.R k35 35 w base (fun _ => True) (.slice (some ⟨g, 0, none⟩) l.length cap) l := by
  obtain ⟨cur, hh, hs, hn, hc⟩ := h
  have hz : k35.sz = 2 := rfl
  have hcl : (cur.toList.take (l.length * 2)).length = l.length * 2 := by simp only [List.length_take, Array.length_toList]; omega
  refine ⟨fun _ _ => trivial, cur.toList.take (l.length * 2), ⟨by rw [hz]; exact hcl, .inr ⟨g, cap, cur, rfl, hb, hh, hn, hx, hs, rfl⟩⟩, by rw [hz]; exact hcl, fun j p hj => ?_⟩
  obtain ⟨hj1, rfl⟩ := List.getElem?_eq_some_iff.1 hj
  have hc' := hc j hj1
  rw [hz, show ((cur.toList.take (l.length * 2)).drop (j * 2)).take 2 = [.string (l[j]'hj1).f0, .string (l[j]'hj1).f1] from ?_]
  · exact k35_mkM _ _ _ _
  · apply List.ext_getElem?
    intro k
    rw [List.getElem?_take, List.getElem?_drop, List.getElem?_take]
    rcases k with _ | _ | k
    · rw [if_pos (by omega), if_pos (by omega)]; simpa using hc'.1
    · rw [if_pos (by omega), if_pos (by omega)]; simpa using hc'.2
    · rw [if_neg (by omega)]; simp
theorem gb_below {w W : World} {row : Option Nat} (h : Below w.heap.size w W) : w.grownBy W row := ⟨h.os, h.tape, h.output, h.size, fun k hk _ => h.block k hk⟩
theorem gb_trans {w W W' : World} {row : Option Nat} (h : w.grownBy W row) (hb : W.grownBy W' row) : w.grownBy W' row := ⟨hb.os.trans h.os, hb.tape.trans h.tape, hb.output.trans h.output, Nat.le_trans h.size hb.size, fun k hk hr => (hb.block k (Nat.lt_of_lt_of_le hk h.size) hr).trans (h.block k hk hr)⟩
theorem gb_step {w W W' : World} {row : Option Nat} (h : w.grownBy W row) (hb : Below W.heap.size W W') : w.grownBy W' row := gb_trans h (gb_below hb)
theorem gb_set {w W : World} {g : Nat} (h : w.grownBy W (some g)) (j : Nat) (u : Value) : w.grownBy (W.setCell ⟨g, j, none⟩ u) (some g) :=
  gb_trans h ⟨rfl, rfl, rfl, by simp [World.setCell], fun k hk hr => Below.heap_setCell W ⟨g, j, none⟩ u k (fun e => hr (by rw [e]))⟩
/-- What grew but for a block made later than B is as it was below B. -/
theorem gb_out {w W : World} {B : Nat} {row : Option Nat} (h : w.grownBy W row) (hB : B ≤ w.heap.size) (hr : ∀ k, row = some k → B ≤ k) : Below B w W := ⟨h.os, h.tape, h.output, h.size, fun k hk => h.block k (by omega) (fun e => by have := hr k e.symm; omega)⟩

/-! ### api_Pair_35: function 35 -/
/-- Cells copied into a row of cells: elements of any number of cells. -/
theorem run_copy_cells2 {P : Program} (w : World) (dT sT ty elem sz : Nat) (g o dLen dCap : Nat) (a : Addr) (sLen sCap : Nat) (cur : Array Value) (t : TypeId) (cs : List Value)
    (hu : P.underlying dT = some (.slice elem)) (hs : (P.info? elem).map (·.size) = some sz)
    (hg : w.heap[g]? = some (.cells cur t (0, 0))) (hn : cs.length = Nat.min sLen dLen * sz)
    (hsrc : ∀ j v, cs[j]? = some v → w.cell? (a.add j) = some v) (hfit : o + cs.length ≤ cur.size) (h1 : ∀ v ∈ cs, v.oneCell' = true) :
    (Builtin.copy_ #[dT, sT] ty #[.slice (some ⟨g, o, none⟩) dLen dCap, .slice (some a) sLen sCap]).run P w =
      .ok (goInt (Nat.min sLen dLen)) (w.setRow g (cur.toList.take o ++ cs ++ cur.toList.drop (o + cs.length)).toArray) := by
  have hl := run_loadCells_list (P := P) w a cs hsrc
  have hst := run_storeCells_at P g o t cs 0 cur w hg (by simpa using hfit) h1
  cases hq : P.info? elem with
  | none => simp [hq] at hs
  | some i =>
    have hi : i.size = sz := by simpa [hq] using hs
    simp [Builtin.copy_, run_underlying hu, Builtin.lenOf, Builtin.firstCells, sizeOf, typeInfo, hq, hi, ← hn, hl, hst]
theorem cells2_one {l : List S35} {cur : Array Value} (hc : ∀ j (hj : j < l.length), cur[j * 2]? = some (.string (l[j]'hj).f0) ∧ cur[j * 2 + 1]? = some (.string (l[j]'hj).f1)) (k : Nat) (hk : k < l.length * 2) (v : Value) (h : cur[k]? = some v) : v.oneCell' = true := by
  rcases Nat.mod_two_eq_zero_or_one k with e | e
  · have := (hc (k / 2) (by omega)).1
    rw [show k / 2 * 2 = k by omega, h] at this
    cases this; rfl
  · have := (hc (k / 2) (by omega)).2
    rw [show k / 2 * 2 + 1 = k by omega, h] at this
    cases this; rfl
theorem sizeE : (Tryd.prog.info? 35).map (·.size) = some 2 := by
  have := info35
  cases hq : Tryd.prog.info? 35 with
  | none => rw [hq] at this; cases this
  | some i =>
    rw [hq] at this
    simp only [Option.map_some, Option.some.injEq, Prod.mk.injEq] at this
    simp [this.2.1]
theorem run_sizeE (W : World) : (sizeOf 35).run Tryd.prog W = .ok 2 W := by
  have := sizeE
  cases hq : Tryd.prog.info? 35 with
  | none => rw [hq] at this; cases this
  | some i0 =>
    rw [hq] at this
    simp only [Option.map_some, Option.some.injEq] at this
    simp [sizeOf, typeInfo, hq, this]
theorem Row2.shift {w : World} {g c : Nat} {l : List S35} (h : Row2 w g c l) (i : Nat) (hi : i < l.length) (hroom : l.length + 1 ≤ c) :
    ∃ w1, (∀ ty dc sc, (Builtin.copy_ #[22, 22] ty #[.slice (some ⟨g, (i + 1) * 2, none⟩) (l.length - i) dc, .slice (some ⟨g, i * 2, none⟩) (l.length + 1 - i) sc]).run Tryd.prog w = .ok (goInt ((l.length - i : Nat) : Int)) w1) ∧ Row2 w1 g c (l.take (i + 1) ++ l.drop i) ∧ w.grownBy w1 (some g) := by
  obtain ⟨cur, hh, hs, hl, hc⟩ := h
  have hm : Nat.min (l.length + 1 - i) (l.length - i) = l.length - i := by simp only [Nat.min_def]; split <;> omega
  generalize hcs : (cur.toList.drop (i * 2)).take ((l.length - i) * 2) = cs
  have hcl : cs.length = (l.length - i) * 2 := by rw [← hcs]; simp only [List.length_take, List.length_drop, Array.length_toList]; omega
  have hce : ∀ k, k < (l.length - i) * 2 → cs[k]? = cur[i * 2 + k]? := fun k hk => by
    rw [← hcs, List.getElem?_take, if_pos hk, List.getElem?_drop, Array.getElem?_toList]
  refine ⟨w.setRow g (cur.toList.take ((i + 1) * 2) ++ cs ++ cur.toList.drop ((i + 1) * 2 + cs.length)).toArray, fun ty dc sc => ?_, ⟨_, setRow_heap w g cur _ 35 _ hh, ?_, ?_, fun j hj => ?_⟩, rfl, rfl, rfl, by simp [World.setRow], fun k _ hk => by simp [World.setRow, Array.getElem?_modify, show ¬ g = k from fun e => hk (by rw [e])]⟩
  · have := run_copy_cells2 (P := Tryd.prog) w 22 22 ty 35 2 g ((i + 1) * 2) (l.length - i) dc ⟨g, i * 2, none⟩ (l.length + 1 - i) sc cur 35 cs Tryd.underlying22 sizeE hh (by rw [hm, hcl]) (fun j v hj => by
      have hjl : j < (l.length - i) * 2 := by rw [← hcl]; exact (List.getElem?_eq_some_iff.1 hj).1
      rw [Addr.add_lit, blk_cell hh, ← hce j hjl]; exact hj) (by rw [hcl]; omega) (fun v hv => by
      obtain ⟨j, hj⟩ := List.getElem?_of_mem hv
      have hjl : j < (l.length - i) * 2 := by rw [← hcl]; exact (List.getElem?_eq_some_iff.1 hj).1
      rw [hce j hjl] at hj
      exact cells2_one hc _ (by omega) v hj)
    rw [this, hm]
  · simp only [List.size_toArray, List.length_append, List.length_take, List.length_drop, Array.length_toList, hcl]; omega
  · rw [List.length_append, List.length_take, List.length_drop]; omega
  · have hjl : j < l.length + 1 := by rw [List.length_append, List.length_take, List.length_drop] at hj; omega
    simp only [List.getElem?_toArray]
    have ht : (cur.toList.take ((i + 1) * 2)).length = (i + 1) * 2 := by rw [List.length_take, Array.length_toList]; omega
    have htl : (l.take (i + 1)).length = i + 1 := by rw [List.length_take]; omega
    have hA : ∀ k, k < (i + 1) * 2 → (cur.toList.take ((i + 1) * 2) ++ cs ++ cur.toList.drop ((i + 1) * 2 + cs.length))[k]? = cur[k]? := fun k hk => by
      rw [List.append_assoc, List.getElem?_append_left (by rw [ht]; exact hk), List.getElem?_take, if_pos hk, Array.getElem?_toList]
    have hB : ∀ k, k < (l.length - i) * 2 → (cur.toList.take ((i + 1) * 2) ++ cs ++ cur.toList.drop ((i + 1) * 2 + cs.length))[(i + 1) * 2 + k]? = cur[i * 2 + k]? := fun k hk => by
      rw [List.append_assoc, List.getElem?_append_right (by rw [ht]; omega), ht, List.getElem?_append_left (by rw [hcl]; omega), show (i + 1) * 2 + k - (i + 1) * 2 = k by omega, hce k hk]
    by_cases e : j < i + 1
    · rw [hA _ (by omega), hA _ (by omega), List.getElem_append_left (by rw [htl]; exact e), List.getElem_take]
      exact hc j (by omega)
    · have h1 := hB ((j - (i + 1)) * 2) (by omega)
      have h2 := hB ((j - (i + 1)) * 2 + 1) (by omega)
      rw [show (i + 1) * 2 + (j - (i + 1)) * 2 = j * 2 by omega, show i * 2 + (j - (i + 1)) * 2 = (j - 1) * 2 by omega] at h1
      rw [show (i + 1) * 2 + ((j - (i + 1)) * 2 + 1) = j * 2 + 1 by omega, show i * 2 + ((j - (i + 1)) * 2 + 1) = (j - 1) * 2 + 1 by omega] at h2
      have hg : (l.take (i + 1) ++ l.drop i)[j]'hj = l[j - 1]'(by omega) := by
        rw [List.getElem_append_right (by rw [htl]; omega), List.getElem_drop]
        congr 1
        rw [htl]; omega
      rw [h1, h2, hg]
      exact hc (j - 1) (by omega)
theorem Row2.copy1 {w : World} {g c : Nat} {l : List S35} (h : Row2 w g c l) (i : Nat) (hi : i < l.length) (vb : Nat) (x : S35) (hv : w.heap[vb]? = some (.cells #[.string x.f0, .string x.f1] 35 (0, 0))) :
    (∀ ty dl dc vc, 0 < dl → (Builtin.copy_ #[22, 22] ty #[.slice (some ⟨g, i * 2, none⟩) dl dc, .slice (some ⟨vb, 0, none⟩) 1 vc]).run Tryd.prog w = .ok (goInt 1) ((w.setCell ⟨g, i * 2, none⟩ (.string x.f0)).setCell ⟨g, i * 2 + 1, none⟩ (.string x.f1))) := by
  have h' := h
  obtain ⟨cur, hh, hs, hl, hc⟩ := h
  intro ty dl dc vc hdl
  have hm : Nat.min 1 dl = 1 := by simp only [Nat.min_def]; split <;> omega
  have hl0 : (loadCells ⟨vb, 0, none⟩ 2).run Tryd.prog w = .ok #[.string x.f0, .string x.f1] w :=
    run_loadCells_list (P := Tryd.prog) w ⟨vb, 0, none⟩ [.string x.f0, .string x.f1] (fun j v hj => by rw [Addr.add_lit, Nat.zero_add, blk_cell hv]; simpa using hj)
  have hq : ∃ i0, Tryd.prog.info? 35 = some i0 ∧ i0.size = 2 := by
    have := sizeE
    cases hq : Tryd.prog.info? 35 with
    | none => rw [hq] at this; cases this
    | some i0 => rw [hq] at this; exact ⟨i0, rfl, by simpa using this⟩
  obtain ⟨i0, hq, hi0⟩ := hq
  have h1 : ∀ v ∈ [Value.string x.f0, Value.string x.f1], v.oneCell' = true := fun v hv => by
    simp only [List.mem_cons, List.not_mem_nil, or_false] at hv
    cases hv with
    | inl e => rw [e]; rfl
    | inr e => rw [e]; rfl
  have hst := run_storeCells_cells (P := Tryd.prog) g (i * 2) [.string x.f0, .string x.f1] 0 w (fun j hj => h'.room _ (by simp at hj; omega)) (fun j hj => h'.frozen _) h1
  simp only [Nat.add_zero, World.setCells] at hst
  simp [Builtin.copy_, run_underlying Tryd.underlying22, Builtin.lenOf, Builtin.firstCells, sizeOf, typeInfo, hq, hi0, hm, hl0, hst]
/-- THE OPERATION 'copy(d, s)' where its run is known by an equation. -/
theorem wp_copy_run2 {P : Program} (w : World) {ops : Array Oper} {rest : List Oper} {o : Oper} {a : Act} {Q : Exit → Act → World → Prop} (hgd : o.guard = none) (d s : Operand) (t t' : TypeId)
    (ho : o.op = .call { callee := .builtin .copy, args := #[d, s], argTypes := #[t, t'] }) (v u : Value) (hd : a.eval d = v) (hs : a.eval s = u) {v' : Value} {w' : World}
    (hr : (Builtin.copy_ #[t, t'] o.type #[v, u]).run P w = .ok v' w') (h : wpList P ops Q rest (a.put o.dst v') w') : wpList P ops Q (o :: rest) a w :=
  wpList_plain hgd fun K hK => by
    have := hK _ _ h
    unfold Oper.wp execOp
    simp only [ho, resolve, invoke, builtin, Sem.run_bind, Sem.run_pure, Result.andThen_ok, List.map_toArray, List.map_cons, List.map_nil, hd, hs, hr]
    exact this
theorem step_copy_run2 {P : Program} {ops : Array Oper} {o : Oper} {a : Act} {w : World} {K : Act → World → Prop} {Q : Exit → Act → World → Prop} {E : Prop}
    (hg : o.guard = none) (d x : Operand) (dT sT : TypeId) (hop : o.op = Op.call { callee := Callee.builtin Builtin.copy, args := #[d, x], argTypes := #[dT, sT] })
    (v u : Value) (hd : a.eval d = v) (hx : a.eval x = u) {v' : Value} {w' : World} (hr : (Builtin.copy_ #[dT, sT] o.type #[v, u]).run P w = .ok v' w') (hK : K (a.put o.dst v') w') :
    if Region.wanted o (yielded ops a.tmps) = true then Oper.wp P o a w K Q else E := by
  have hw : Region.wanted o (yielded ops a.tmps) = true := by simp [Region.wanted, hg]
  rw [if_pos hw]
  unfold Oper.wp
  simp [execOp, hop, resolve, invoke, builtin, hd, hx, hr, Result.andThen]
  exact hK
set_option maxHeartbeats 8000000 in
set_option maxRecDepth 100000 in
theorem insert_end (base g1 c : Nat) (l : List S35) (w : World) (hR : Kd.R k35 35 w base (fun _ => True) (.slice (some ⟨g1, 0, none⟩) l.length c) l) (hb : base ≤ w.heap.size) (hroom : l.length + 1 ≤ c) (hlim : (l.length + 1) * 32 ≤ 140737488355328) (vb vc : Nat) (x : S35) (hv : w.heap[vb]? = some (.cells #[.string x.f0, .string x.f1] 35 (0, 0))) :
    Calls Tryd.prog 35 #[.slice (some ⟨g1, 0, none⟩) l.length c, .int .i64 (l.length : Int), .slice (some ⟨vb, 0, none⟩) 1 vc] w fun e w' => ∃ v1, e = .returned v1 ∧ Kd.R k35 35 w' base (fun _ => True) v1 (l ++ [x]) ∧ Below base w w' := by
  have hlc : l.length ≤ c := by
    obtain ⟨A, c', e, h, _⟩ := Kd.R_reads hR
    injection e with _ _ e
    omega
  have hn0 : ¬ ((1 : Int) = 0) := by omega
  have hlc2 : (l.length : Int) ≤ (c : Int) := by omega
  have hb4 : ¬ (c = l.length) := by omega
  have hl0 : (0 : Int) ≤ (l.length : Int) := by omega
  have HR := Aside0.mk hR
  have HB := Aside0.mk hb
  have HL := Aside0.mk hlim
  have HV := Aside0.mk hv
  clear hR hb hlim hv hlc hroom
  go_enter Tryd.func35, Tryd.ntmps35
  go_wp2_with (at_builtin; refine Kd.R_append_rows k35 (Rr := k35.K w) (w0 := w) base rfl (.tmp 23) (.tmp 24) 22 35 (.agg #[(.string ⟨#[]⟩), (.string ⟨#[]⟩)]) 32 rfl Tryd.underlying22 info35 rfl (by decide) (by decide) _ l [x] (some ⟨vb, 0, none⟩) 1 vc (fun _ => True) (fun _ => False) rfl rfl HR.out ?aR (fun y cs h => (by obtain rfl := k35_open h; exact k35_mkM _ _ _ _)) (fun _ h => h.elim) (fun _ _ => trivial) (Below.refl _ w) HB.out HL.out ?_; (case aR => exact ⟨rfl, by decide, fun _ => ⟨_, rfl, fun j p hj => by (cases j with | zero => (cases hj; exact ⟨[.string x.f0, .string x.f1], rfl, k35_mk _ _, fun i u hi => by rw [Addr.add_lit, blk_cell HV.out]; simpa using hi⟩) | succ j => simp at hj)⟩⟩); intro v1 w1 ho hb hg hat; have n0_ := Aside0.mk ho; have n1_ := Aside0.mk hb; clear ho hb hg hat)
  go_ret
  exact ⟨_, rfl, n0_.out, n1_.out⟩
set_option maxHeartbeats 8000000 in
set_option maxRecDepth 100000 in
theorem insert_shift (base g1 c : Nat) (l : List S35) (w : World) (hR : Kd.R k35 35 w base (fun _ => True) (.slice (some ⟨g1, 0, none⟩) l.length c) l) (hb : base ≤ w.heap.size) (hroom : l.length + 1 ≤ c) (i : Nat) (hi : i < l.length) (vb vc : Nat) (hvb : vb ≠ g1) (x : S35) (hv : w.heap[vb]? = some (.cells #[.string x.f0, .string x.f1] 35 (0, 0))) :
    Calls Tryd.prog 35 #[.slice (some ⟨g1, 0, none⟩) l.length c, .int .i64 (i : Int), .slice (some ⟨vb, 0, none⟩) 1 vc] w fun e w' => ∃ v1, e = .returned v1 ∧ Kd.R k35 35 w' base (fun _ => True) v1 (l.take i ++ x :: l.drop i) ∧ Below base w w' := by
  obtain ⟨g, e, -, hgb, hcm, hrow⟩ := row2_of hR
  obtain rfl : g1 = g := by cases e; rfl
  clear e
  have hov : ∀ lb cb, (callFunc 46 #[.slice (some ⟨vb, 0, none⟩) 1 vc, .slice (some ⟨g1, (i + 1) * 2, none⟩) lb cb]).run Tryd.prog w = .ok (.value (.bool false)) w := fun lb cb => by
    obtain ⟨cur, hh, hs, hl, hc⟩ := hrow
    rw [run_callFunc_extern Tryd.func46 (by kernel_rfl) (by kernel_rfl) (by kernel_rfl) (e := Extern.SlicesOverlaps.overlaps #[22, 22] #[4]) (by kernel_rfl),
      Lib.run_overlaps_apart w 22 4 35 Tryd.underlying22 2 run_sizeE ⟨vb, 0, none⟩ ⟨g1, (i + 1) * 2, none⟩ 1 vc lb cb hvb 35 35 2 cur.size (by simp [World.shape?, hv]) (by simp [World.shape?, hh]) (by omega) (blk_frozen hv _) (blk_frozen hv _)]
    rfl
  have hrd : Row2 w.drew g1 c l := hrow.move rfl
  obtain ⟨w1, hcp1, hr1, hg1⟩ := hrd.shift i hi hroom
  have hv1 : w1.heap[vb]? = some (.cells #[.string x.f0, .string x.f1] 35 (0, 0)) := (hg1.block vb (blk_lt (show w.drew.heap[vb]? = _ from hv)) (fun e => hvb (Option.some.inj e))).trans hv
  have hcp2 := hr1.copy1 i (by rw [List.length_append, List.length_take, List.length_drop]; omega) vb x hv1
  have hr2 := hr1.put i (by rw [List.length_append, List.length_take, List.length_drop]; omega) x
  rw [show (l.take (i + 1) ++ l.drop i).set i x = l.take i ++ x :: l.drop i from by
    rw [List.take_succ_eq_append_getElem hi, List.append_assoc, List.set_append_right _ _ (by rw [List.length_take]; omega)]
    rw [show i - (l.take i).length = 0 by rw [List.length_take]; omega]
    rfl] at hr2
  have hg2 : w.grownBy ((w1.setCell ⟨g1, i * 2, none⟩ (.string x.f0)).setCell ⟨g1, i * 2 + 1, none⟩ (.string x.f1)) (some g1) := gb_set (gb_set (gb_trans (show w.grownBy w.drew (some g1) from ⟨rfl, rfl, rfl, Nat.le_refl _, fun _ _ _ => rfl⟩) hg1) _ _) _ _
  have hfin := hr2.R hgb hcm
  have hlen : (l.take i ++ x :: l.drop i).length = l.length + 1 := by rw [List.length_append, List.length_cons, List.length_take, List.length_drop]; omega
  rw [hlen] at hfin
  have hbel : Below base w _ := gb_out hg2 hb (fun k hk => by cases hk; exact hgb)
  have FIN := Aside0.mk hfin
  have BEL := Aside0.mk hbel
  have hm63 : c ≤ 9223372036854775807 := hcm
  have hz1 : ¬ ((1 : Int) = 0) := by omega
  have hz2 : ¬ ((i : Int) = (l.length : Int)) := by omega
  have hw0 : IntKind.i64.wrap ((l.length : Int) + 1) = (l.length : Int) + 1 := by rw [IntKind.wrap_i64]; omega
  have hw1 : IntKind.i64.wrap ((i : Int) + 1) = (i : Int) + 1 := by rw [IntKind.wrap_i64]; omega
  have hc1 : ¬ ((c : Int) < (l.length : Int) + 1) := by omega
  have hb1 : (0 : Int) ≤ (i : Int) + 1 := by omega
  have hb0 : (0 : Int) ≤ (i : Int) := by omega
  have hin : (i : Int) ≤ (l.length : Int) := by omega
  have htn : ((i : Int) + 1).toNat = i + 1 := by omega
  have htl : ((l.length : Int) + 1).toNat = l.length + 1 := by omega
  have hb2 : ¬ (c = i + 1) := by omega
  have hb3 : (i : Int) ≤ (l.length : Int) + 1 := by omega
  have hb5 : (i : Int) + 1 ≤ (l.length : Int) + 1 := by omega
  have hb6 : (l.length : Int) + 1 ≤ (c : Int) := by omega
  have hb7 : (0 : Int) ≤ (l.length : Int) + 1 := by omega
  have hb4 : ¬ (c = i) := by omega
  have hdl : 0 < l.length + 1 - i := by omega
  have HH := Aside0.mk (And.intro hcp1 hcp2)
  clear hR hrow hrd hr1 hg1 hr2 hg2 hfin hbel hv hv1 hcp1 hcp2 hlen
  go_enter Tryd.func35, Tryd.ntmps35
  go_wp2_with (simp only [hov])
  have mixed : Tryd.prog.follows Departure.mixedOrders = true := by kernel_rfl
  have hcp1 := HH.out.1
  go_region_law_o (refine step_copy_run2 rfl _ _ 22 22 rfl _ _ (by simp [Act.eval, Act.put]) (by simp [Act.eval, Act.put]) (hcp1 _ _ _) ?_)
  have hcp2 := fun ty dc => HH.out.2 ty (l.length + 1 - i) dc vc hdl
  go_wp2_with (simp only [hcp2])
  go_ret
  exact ⟨_, rfl, FIN.out, BEL.out⟩
theorem insert_at (base g1 c : Nat) (l : List S35) (w : World) (hR : Kd.R k35 35 w base (fun _ => True) (.slice (some ⟨g1, 0, none⟩) l.length c) l) (hb : base ≤ w.heap.size) (hroom : l.length + 1 ≤ c) (hlim : (l.length + 1) * 32 ≤ 140737488355328) (i : Nat) (hi : i ≤ l.length) (vb vc : Nat) (hvb : vb ≠ g1) (x : S35) (hv : w.heap[vb]? = some (.cells #[.string x.f0, .string x.f1] 35 (0, 0))) :
    Calls Tryd.prog 35 #[.slice (some ⟨g1, 0, none⟩) l.length c, .int .i64 (i : Int), .slice (some ⟨vb, 0, none⟩) 1 vc] w fun e w' => ∃ v1, e = .returned v1 ∧ Kd.R k35 35 w' base (fun _ => True) v1 (l.take i ++ x :: l.drop i) ∧ Below base w w' := by
  rcases Nat.lt_or_ge i l.length with h | h
  · exact insert_shift base g1 c l w hR hb hroom i h vb vc hvb x hv
  · obtain rfl : i = l.length := by omega
    rw [List.take_length, List.drop_length]
    exact insert_end base g1 c l w hR hb hroom hlim vb vc x hv

/-! ### api_Pair_48: function 48 -/
theorem idxI_spec {α : Type} (p : α → Bool) (l : List α) : (idxI p l = -1 ∧ ∀ x ∈ l, p x = false) ∨ ∃ (k : Nat) (hk : k < l.length), idxI p l = (k : Int) ∧ p (l[k]'hk) = true ∧ ∀ j (hj : j < k), p (l[j]'(by omega)) = false := by
  by_cases h : l.any p = true
  · have hlt : l.findIdx p < l.length := List.findIdx_lt_length_of_exists (by obtain ⟨x, hx, hp⟩ := List.any_eq_true.1 h; exact ⟨x, hx, hp⟩)
    have h2 := (List.findIdx_eq hlt).1 rfl
    refine .inr ⟨_, hlt, by unfold idxI; rw [if_pos h], h2.1, fun j hj => by simpa using h2.2 j hj⟩
  · refine .inl ⟨by unfold idxI; rw [if_neg h], fun x hx => ?_⟩
    have h' : l.any p = false := by simpa using h
    simpa using List.any_eq_false.1 h' x hx
/-- What the deleting loop keeps: of the first j elements i are kept, and lie at the head; from place i on all is as it was. -/
structure Kept2 {α : Type} (p : α → Bool) (l : List α) (i j : Nat) (dk : List α) : Prop where
  len : dk.length = l.length
  lt : i < j
  le : j ≤ l.length
  head : dk.take i = (l.take j).filter (fun x => !p x)
  tail : dk.drop i = l.drop i
theorem Kept2.start {α : Type} {p : α → Bool} {l : List α} {k : Nat} (hk : k < l.length) (h0 : ∀ j (hj : j < k), p (l[j]'(by omega)) = false) (h1 : p (l[k]'hk) = true) : Kept2 p l k (k + 1) l := by
  refine ⟨rfl, by omega, by omega, ?_, rfl⟩
  rw [List.take_succ_eq_append_getElem hk, List.filter_append, List.filter_cons, h1]
  have : (l.take k).filter (fun x => !p x) = l.take k := List.filter_eq_self.2 fun x hx => by
    obtain ⟨j, hj, rfl⟩ := List.getElem_of_mem hx
    rw [List.length_take] at hj
    rw [List.getElem_take, h0 j (by omega)]; rfl
  rw [this]; simp
theorem Kept2.at_ {α : Type} {p : α → Bool} {l dk : List α} {i j : Nat} (h : Kept2 p l i j dk) (hj : j < l.length) : dk[j]'(by rw [h.len]; exact hj) = l[j]'hj := by
  have h1 := congrArg (fun z => z[j - i]?) h.tail
  have := h.lt
  simp only [List.getElem?_drop, show i + (j - i) = j by omega] at h1
  rw [List.getElem?_eq_getElem hj, List.getElem?_eq_getElem (by rw [h.len]; exact hj)] at h1
  exact Option.some.inj h1
theorem Kept2.keep {α : Type} {p : α → Bool} {l dk : List α} {i j : Nat} (h : Kept2 p l i j dk) (hj : j < l.length) (hp : p (l[j]'hj) = false) : Kept2 p l (i + 1) (j + 1) (dk.set i (l[j]'hj)) := by
  have h1 := h.lt; have h2 := h.len
  refine ⟨by simpa using h2, by omega, by omega, ?_, ?_⟩
  · rw [List.take_succ_eq_append_getElem hj, List.filter_append, List.filter_cons, hp, ← h.head, List.take_succ_eq_append_getElem (by simp; omega), List.take_set_of_le (Nat.le_refl _)]
    simp
  · rw [List.drop_set_of_lt (by omega)]
    have := congrArg (List.drop 1) h.tail
    simpa [List.drop_drop, Nat.add_comm] using this
theorem Kept2.skip {α : Type} {p : α → Bool} {l dk : List α} {i j : Nat} (h : Kept2 p l i j dk) (hj : j < l.length) (hp : p (l[j]'hj) = true) : Kept2 p l i (j + 1) dk := by
  have h1 := h.lt
  refine ⟨h.len, by omega, by omega, ?_, h.tail⟩
  rw [List.take_succ_eq_append_getElem hj, List.filter_append, List.filter_cons, hp, ← h.head]
  simp
theorem Kept2.done {α : Type} {p : α → Bool} {l dk : List α} {i j : Nat} (h : Kept2 p l i j dk) (hj : ¬ j < l.length) : dk.take i = l.filter (fun x => !p x) ∧ i = (l.filter (fun x => !p x)).length ∧ i < l.length := by
  have h1 := h.lt; have h2 := h.le; have h3 := h.len
  have e := h.head
  rw [show l.take j = l from List.take_of_length_le (by omega)] at e
  refine ⟨e, ?_, by omega⟩
  rw [← e, List.length_take]; omega
theorem run_clear_pair {w : World} {g cap : Nat} {l : List S35} (h : Row2 w g cap l) (k : Nat) (hk : k < l.length) (ty c : Nat) :
    ∃ w1, (Builtin.clear_ #[22] ty #[.slice (some ⟨g, k * 2, none⟩) (l.length - k) c]).run Tryd.prog w = .ok (.tuple #[]) w1 ∧ Row2 w1 g cap (l.take k) ∧ w.grownBy w1 (some g) := by
  obtain ⟨cur, hh, hs, hl, hc⟩ := h
  have hv : ∀ W, (zeroValue 35).run Tryd.prog W = .ok ((.agg #[(.string ⟨#[]⟩), (.string ⟨#[]⟩)])) W := fun W => by
    have := info35
    cases hq : Tryd.prog.info? 35 with
    | none => rw [hq] at this; cases this
    | some i =>
      rw [hq] at this
      simp only [Option.map_some, Option.some.injEq, Prod.mk.injEq] at this
      simp [zeroValue, typeInfo, hq, this.1]
  have hz : ∀ v ∈ (Builtin.zeroCells ((.agg #[(.string ⟨#[]⟩), (.string ⟨#[]⟩)]) : Value).cells (l.length - k)).toList, v.oneCell' = true := fun v hv => by
    simp only [Builtin.zeroCells, Array.toList_map, List.mem_map] at hv
    obtain ⟨i, _, rfl⟩ := hv
    have : ∀ j, j < 2 → ((((.agg #[(.string ⟨#[]⟩), (.string ⟨#[]⟩)]) : Value).cells)[j]!).oneCell' = true := by decide
    exact this _ (Nat.mod_lt _ (by decide))
  have hzl : (Builtin.zeroCells ((.agg #[(.string ⟨#[]⟩), (.string ⟨#[]⟩)]) : Value).cells (l.length - k)).toList.length = (l.length - k) * 2 := by
    simp [Builtin.zeroCells]; rfl
  have hst := run_storeCells_at Tryd.prog g (k * 2) 35 (Builtin.zeroCells ((.agg #[(.string ⟨#[]⟩), (.string ⟨#[]⟩)]) : Value).cells (l.length - k)).toList 0 cur w hh (by rw [hzl]; omega) hz
  have hlt := blk_lt hh
  generalize hV : Builtin.zeroCells ((.agg #[(.string ⟨#[]⟩), (.string ⟨#[]⟩)]) : Value).cells (l.length - k) = V at hz hzl hst
  refine ⟨w.setRow g (cur.toList.take (k * 2 + 0) ++ V.toList ++ cur.toList.drop (k * 2 + 0 + V.toList.length)).toArray, ?_, ?_, ?_⟩
  · obtain ⟨m, hm⟩ : ∃ m, l.length - k = m + 1 := ⟨l.length - k - 1, by omega⟩
    rw [hm] at hV ⊢
    simp only [Builtin.clear_, List.getElem?_toArray, List.getElem?_cons_zero, Sem.run_bind, run_underlying Tryd.underlying22, Result.andThen_ok, hv, hV, hst, Sem.run_pure]
  · refine ⟨_, setRow_heap w g cur _ 35 _ hh, ?_, by rw [List.length_take]; omega, fun j hj => ?_⟩
    · simp only [List.size_toArray, List.length_append, List.length_take, List.length_drop, Array.length_toList, hzl]; omega
    · have hj' : j < k := by rw [List.length_take] at hj; omega
      have := hc j (by omega)
      rw [List.getElem_take]
      simp only [List.getElem?_toArray]
      rw [List.append_assoc, List.getElem?_append_left (by simp; omega), List.getElem?_append_left (by simp; omega), List.getElem?_take, List.getElem?_take, if_pos (by omega), if_pos (by omega)]
      simpa using this
  · exact ⟨rfl, rfl, rfl, by simp [World.setRow], fun i _ hi => by simp [World.setRow, Array.getElem?_modify, show ¬ g = i from fun e => hi (by rw [e])]⟩
set_option maxHeartbeats 8000000 in
set_option maxRecDepth 100000 in
theorem api_Pair_48.calls (base : Nat) (v0 : Value) (l0 : List S35) (w : World) (hr : Kd.R k35 35 w base (fun _ => True) v0 l0) (p : S35 → Bool) (g : Nat) (lb : Array Value)
    (eg : ∀ args W, (callFunc g args).run Tryd.prog W = .ok (.enter g args) W)
    (hp : ∀ (W : World) (x : S35), x ∈ l0 → w.grownBy W v0.ownBlock → Calls Tryd.prog g (#[.agg #[.string x.f0, .string x.f1]] ++ lb) W fun e w' => e = .returned (.bool (p x)) ∧ Below W.heap.size W w') :
    Calls Tryd.prog 48 #[v0, .func (.func g) #[] lb] w fun e w' => ∃ v1, e = .returned v1 ∧ Kd.R k35 35 w' base (fun _ => True) v1 (l0.filter fun x => !p x) ∧ w.grownBy w' v0.ownBlock ∧ ((∃ x ∈ l0, p x = true) → ∃ g1 c, v0 = .slice (some ⟨g1, 0, none⟩) l0.length c ∧ v1 = .slice (some ⟨g1, 0, none⟩) (l0.filter fun x => !p x).length c) := by
  obtain ⟨A0, c0, rfl, hc0, hC⟩ := Kd.R_reads hr
  have hmx := hC.2.1
  have hix := api_Pair_38.calls A0 c0 l0 w hC p g lb eg (fun W x cs hx hb hk => by
    obtain rfl := k35_open hk
    exact (hp W x hx (gb_below hb)).mono (fun e w' h => ⟨h.1, hb.trans (h.2.mono hb.size)⟩))
  rcases idxI_spec p l0 with ⟨e0, hall⟩ | ⟨k0, hk0, e0, hpk, hbef⟩
  · rw [e0] at hix
    have hf : (l0.filter fun x => !p x) = l0 := List.filter_eq_self.2 fun x hx => by rw [hall x hx]; rfl
    rw [hf]
    have HR := Aside0.mk hr
    have HI := Aside0.mk hix
    have HA := Aside0.mk hall
    clear hr hix hp hC hall e0 hf
    go_enter Tryd.func48, Tryd.ntmps48
    go_wp2_with (go_at_call 38; refine HI.out.mono ?_; rintro e w' ⟨rfl, hb'⟩; have HB' := Aside0.mk hb'; clear hb')
    go_ret
    exact ⟨_, rfl, Kd.R_below HR.out HB'.out, gb_below HB'.out, fun ⟨x, hx, hpx⟩ => absurd hpx (by rw [HA.out x hx]; decide)⟩
  · rw [e0] at hix
    obtain ⟨ad, rfl⟩ : ∃ ad, A0 = some ad := by
      obtain ⟨ad, he, _⟩ := hC.2.2 (by omega)
      exact ⟨ad, he⟩
    obtain ⟨gb, rfl, -, hgb, hcm, hrow⟩ := row2_of hr
    have hp' : ∀ (W : World) (x : S35), x ∈ l0 → w.grownBy W (some gb) → Calls Tryd.prog g (#[.agg #[.string x.f0, .string x.f1]] ++ lb) W fun e w' => e = .returned (.bool (p x)) ∧ Below W.heap.size W w' := hp
    have HI := Aside0.mk hix
    have HP := Aside0.mk hp'
    have HW := Aside0.mk hrow
    have HK2 := Aside0.mk (Kept2.start hk0 hbef hpk)
    have HGB := Aside0.mk (And.intro hgb hcm)
    have hne1 : ((k0 : Int) == -1) = false := beq_eq_false_iff_ne.2 (by omega)
    clear hr hix hp hC hrow hbef hpk e0 hp' hgb hcm
    go_enter Tryd.func48, Tryd.ntmps48
    go_wp2_with (go_at_call 38; refine HI.out.mono ?_; rintro e w' ⟨rfl, hb'⟩; have HB' := Aside0.mk hb'; clear hb')
    go_loopg [5, 6, 7] l0.length (fun gg s5 s6 _ wr => ∃ (i j : Nat) (dk : List S35), s5 = .int .i64 i ∧ s6 = .int .i64 j ∧ j ≤ l0.length ∧ l0.length - j ≤ gg ∧ Aside0 (Kept2 p l0 i j dk) ∧ Aside0 (Row2 wr gb c0 dk) ∧ Aside0 (w.grownBy wr (some gb)))
    case atStart => exact ⟨k0, k0 + 1, l0, rfl, by go_num, by omega, by omega, HK2, ⟨HW.out.below HB'.out⟩, ⟨gb_below HB'.out⟩⟩
    case round =>
      clear HW HK2 HB' HI
      obtain ⟨i, j, dk, rfl, rfl, hjl, hgg, KI, RW, KB⟩ := hrel
      have hij := KI.out.lt
      have hdl := KI.out.len
      by_cases hlt : j < l0.length
      · have p1 : (0 : Int) ≤ (j : Int) := by omega
        have q1 : (j : Int) < (l0.length : Int) := by omega
        have p2 : (0 : Int) ≤ (i : Int) := by omega
        have q2 : (i : Int) < (l0.length : Int) := by omega
        obtain ⟨hx0, hx1⟩ := RW.out.cell j (by omega)
        have hgl := RW.out.lt
        rw [KI.out.at_ hlt] at hx0 hx1
        have hmem : l0[j]'hlt ∈ l0 := List.getElem_mem hlt
        have hcall := HP.out (wr.alloc (.cells #[.string (l0[j]'hlt).f0, .string (l0[j]'hlt).f1] 35)) _ hmem (gb_step KB.out ((Below.refl _ wr).alloc (Nat.le_refl _) _))
        clear hmem
        have KKeep : p (l0[j]'hlt) = false → Kept2 p l0 (i + 1) (j + 1) (dk.set i (l0[j]'hlt)) := fun hq => KI.out.keep hlt hq
        have KSkip : p (l0[j]'hlt) = true → Kept2 p l0 i (j + 1) dk := fun hq => KI.out.skip hlt hq
        generalize hy : l0[j]'hlt = y at *
        clear hy
        have hil : i < dk.length := by omega
        replace p1 := eq_true p1
        replace q1 := eq_true q1
        replace p2 := eq_true p2
        replace q2 := eq_true q2
        cases hq : p y with
        | true =>
          rw [hq] at hcall
          have K2 := Aside0.mk (KSkip hq)
          have HC := Aside0.mk hcall
          clear hcall hq KSkip KKeep
          go_wp2_with (go_at_fn g; refine HC.out.mono ?_; rintro e w' ⟨rfl, hb'⟩; have HB' := Aside0.mk (((Below.refl wr.heap.size wr).alloc (Nat.le_refl _) _).trans (hb'.mono (by simp))); clear hb')
          go_roundg (l0.length - (j + 1))
          case measure => omega
          case rel => exact ⟨i, j + 1, dk, rfl, by go_num, by omega, by omega, K2, ⟨RW.out.below HB'.out⟩, ⟨gb_step KB.out HB'.out⟩⟩
        | false =>
          rw [hq] at hcall
          have K2 := Aside0.mk (KKeep hq)
          have HC := Aside0.mk hcall
          clear hcall hq KSkip KKeep
          go_wp2_with (go_at_fn g; refine HC.out.mono ?_; rintro e w' ⟨rfl, hb'⟩; have HB' := Aside0.mk (((Below.refl wr.heap.size wr).alloc (Nat.le_refl _) _).trans (hb'.mono (by simp))); have hp0 : w'.cell? ⟨wr.heap.size, 0, none⟩ = some (.string y.f0) := (hb'.cell (p := ⟨wr.heap.size, 0, none⟩) (by simp)).trans (by simp [World.cell?_alloc_new]); have hp1 : w'.cell? ⟨wr.heap.size, 1, none⟩ = some (.string y.f1) := (hb'.cell (p := ⟨wr.heap.size, 1, none⟩) (by simp)).trans (by simp [World.cell?_alloc_new]); obtain ⟨ho0, ho1⟩ := (RW.out.below HB'.out).cell i hil; have hz0 := (RW.out.below HB'.out).frozen (i * 2); have hz1 := (RW.out.below HB'.out).frozen (i * 2 + 1); clear hb')
          go_roundg (l0.length - (j + 1))
          case measure => omega
          case rel => exact ⟨i + 1, j + 1, dk.set i y, by go_num, by go_num, by omega, by omega, K2, ⟨(RW.out.below HB'.out).put i hil y⟩, ⟨gb_set (gb_set (gb_step KB.out HB'.out) _ _) _ _⟩⟩
      · obtain ⟨hd1, hd2, hd3⟩ := KI.out.done hlt
        obtain ⟨w1, hcl0, hr1, hk1⟩ := run_clear_pair RW.out i (by omega) 0 (c0 - i)
        have hcl : ∀ ty, (Builtin.clear_ #[22] ty #[.slice (some ⟨gb, i * 2, none⟩) (l0.length - i) (c0 - i)]).run Tryd.prog wr = .ok (.tuple #[]) w1 := fun ty => by rw [← hdl]; exact hcl0
        clear hcl0
        rw [hd1] at hr1
        have q1 : ¬ (j : Int) < (l0.length : Int) := by omega
        have hb1 : (0 : Int) ≤ (i : Int) := by omega
        have hb2 : (i : Int) ≤ (l0.length : Int) := by omega
        have hb3 : (i : Int) ≤ (c0 : Int) := by omega
        have R1 := Aside0.mk hr1
        have K1 := Aside0.mk hk1
        have D1 := Aside0.mk hd2
        obtain rfl : j = l0.length := by omega
        clear hr1 hk1 hd1 hd2
        go_wp2
        go_ret
        refine ⟨_, rfl, ?_, ?_, ?_⟩
        · have := R1.out.R HGB.out.1 HGB.out.2
          rwa [← D1.out] at this
        · exact gb_trans KB.out K1.out
        · exact fun _ _ _ => ⟨gb, c0, ⟨rfl, rfl⟩, by rw [← D1.out]; rfl⟩

-- NOT PRINTED: function 49 (pairs_Drop_1)

/-! ### pairs_Drop: function 36 -/
set_option maxHeartbeats 8000000 in
set_option maxRecDepth 100000 in
theorem drop1_at (nb : Nat) (name : ByteArray) (W : World) (x : S35) (b : Bool) (hn : W.cell? ⟨nb, 0, none⟩ = some (.string name)) (hnl : nb < W.heap.size) (hq : pairs_Same.f x.f0 name = some b) :
    Calls Tryd.prog 49 #[.agg #[.string x.f0, .string x.f1], .pointer (some ⟨nb, 0, none⟩)] W fun e w' => e = .returned (.bool b) ∧ Below W.heap.size W w' := by
  have HQ := Aside0.mk hq
  have hn1 : nb ≠ W.heap.size := by omega
  clear hq
  go_enter Tryd.func49, Tryd.ntmps49
  go_wp2_with (go_at_call 12; refine (pairs_Same.calls x.f0 name b _ HQ.out).mono ?_; rintro e w' ⟨rfl, hb'⟩; have HB' := Aside0.mk hb'; clear hb')
  go_ret
  exact ⟨rfl, ((Below.refl _ W).alloc (Nat.le_refl _) _).trans (HB'.out.mono (by simp))⟩
def pairs_Drop.f (l0 : List (S35)) (a1 : ByteArray) : Option (List (S35)) := if qAll pairs_Same.f l0 a1 = true ∧ l0.length * 32 ≤ 140737488355328 then some (l0.filter fun x => !pOf pairs_Same.f a1 x) else none
set_option maxHeartbeats 8000000 in
set_option maxRecDepth 100000 in
/-- Dropped in a row of its own; its room is no less than what there was. -/
theorem drop_at (A0 : Option Addr) (c0 : Nat) (l0 : List (S35)) (a1 : ByteArray) (r : List (S35)) (w : World) (hr0 : Kd.C k35 w A0 l0.length l0) (hc0 : l0.length ≤ c0) (h : pairs_Drop.f l0 a1 = some r) :
    Calls Tryd.prog 36 #[.slice A0 l0.length c0, .string a1] w fun e w' => ∃ v0_ : Value, e = .returned (v0_) ∧ (Kd.R k35 35 w' w.heap.size (fun _ => True) v0_ r ∧ ((∃ x ∈ l0, pOf pairs_Same.f a1 x = true) → ∃ g1 c, v0_ = .slice (some ⟨g1, 0, none⟩) r.length c ∧ l0.length ≤ c)) ∧ Below w.heap.size w w' := by
  obtain ⟨hq, hl⟩ : qAll pairs_Same.f l0 a1 = true ∧ l0.length * 32 ≤ 140737488355328 := by
    by_cases hx : qAll pairs_Same.f l0 a1 = true ∧ l0.length * 32 ≤ 140737488355328
    · exact hx
    · rw [pairs_Drop.f, if_neg hx] at h; cases h
  rw [pairs_Drop.f, if_pos ⟨hq, hl⟩] at h
  obtain rfl := Option.some.inj h
  clear h
  have eg : ∀ args W, (callFunc 49 args).run Tryd.prog W = .ok (.enter 49 args) W := enters_of Tryd.func49 (by kernel_rfl) rfl
  have hcl := fun (W : World) (hW : Kd.C k35 W A0 l0.length l0) => api_Pair_45.calls A0 c0 l0 l0 W hW hc0 (by rw [api_Pair_45.f, if_pos hl])
  have HCL := Aside0.mk hcl
  have HR := Aside0.mk hr0
  have HQ := Aside0.mk hq
  have EG := Aside0.mk eg
  clear hcl hr0 hq hl eg hc0
  go_enter Tryd.func36, Tryd.ntmps36
  go_wp2_with (first | (go_at_call 45; refine (HCL.out _ (by exact Kd.C_alloc HR.out _)).mono ?_; rintro e w2 ⟨v0, rfl, hR, hb⟩; have HV := Aside0.mk hR; have HB := Aside0.mk hb; clear hR hb) | (go_at_call 48; refine (api_Pair_48.calls _ v0 l0 w2 HV.out (pOf pairs_Same.f a1) 49 _ EG.out (fun W x hx hg => by (have hne : v0.ownBlock ≠ some w.heap.size := fun e => (by have := own_base (Kd.R_own HV.out).choose_spec _ e; simp at this; omega)); have hcell : W.cell? ⟨w.heap.size, 0, none⟩ = some (.string a1) := hg.cell ((HB.out.cell (p := ⟨w.heap.size, 0, none⟩) (by simp)).trans (by simp [World.cell?_alloc_new])) (fun e => hne e.symm); exact drop1_at w.heap.size a1 W x _ hcell (by have := hg.size; have := HB.out.size; simp at this; omega) (by have := List.all_eq_true.1 HQ.out x hx; unfold pOf; (cases h : pairs_Same.f x.f0 a1 with | none => (rw [h] at this; cases this) | some b => cases b <;> rfl)))).mono ?_; rintro e w3 ⟨v1, rfl, hR, hg, hcap⟩; have HG := Aside0.mk hg; have HV1 := Aside0.mk hR; have HCP := Aside0.mk hcap; clear hR hg hcap))
  go_ret
  have hB3 : Below w.heap.size w w3 := (((Below.refl _ w).alloc (Nat.le_refl _) _).trans (HB.out.mono (by simp))).trans (gb_out HG.out (by have := HB.out.size; simp at this; omega) (fun k hk => (by have := own_base (Kd.R_own HV.out).choose_spec _ hk; simp at this; omega)))
  refine ⟨_, rfl, ⟨Kd.R_lower HV1.out (by simp), fun hx => ?_⟩, hB3⟩
  obtain ⟨g1, c, e0, e1⟩ := HCP.out hx
  obtain ⟨A, c', e', hl', _⟩ := Kd.R_reads HV.out
  rw [e0] at e'
  injection e' with _ _ e'
  exact ⟨g1, c, e1, by rw [e']; exact hl'⟩
theorem pairs_Drop.calls (A0 : Option Addr) (c0 : Nat) (l0 : List (S35)) (a1 : ByteArray) (r : List (S35)) (w : World) (hr0 : Kd.C k35 w A0 l0.length l0) (hc0 : l0.length ≤ c0) (h : pairs_Drop.f l0 a1 = some r) :
    Calls Tryd.prog 36 #[.slice A0 l0.length c0, .string a1] w fun e w' => ∃ v0_ : Value, e = .returned (v0_) ∧ Kd.R k35 35 w' w.heap.size (fun _ => True) v0_ r ∧ Below w.heap.size w w' :=
  (drop_at A0 c0 l0 a1 r w hr0 hc0 h).mono fun _ _ ⟨v, e, h1, h2⟩ => ⟨v, e, h1.1, h2⟩

end Go.Proofs.YtnldeohdojemlaaDoor.P
