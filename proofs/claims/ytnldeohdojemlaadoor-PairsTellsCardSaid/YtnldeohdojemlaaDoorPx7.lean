-- written by wip/tool/hprint.py of this repo: the kit's print, with contracts by hand joined; Lean checks it.
import Derived.Test.YtnldeohdojemlaaDoorPx0
import Derived.Test.YtnldeohdojemlaaDoorPx1
import Derived.Test.YtnldeohdojemlaaDoorPx3
import Derived.Test.YtnldeohdojemlaaDoorPx6
namespace Go.Proofs.YtnldeohdojemlaaDoor.P
open Go.RowKit Go.Proofs.YtnldeohdojemlaaDoorW.PrintWords Go.Proofs.YtnldeohdojemlaaDoorW.PrintLast Go.Proofs.YtnldeohdojemlaaDoorW.PrintMore
attribute [local go_sem] max2_int min2_int max_two min_two max_three min_three max_four min_four   -- for this text's walks alone
set_option linter.unusedVariables false
set_option linter.unusedSimpArgs false

attribute [local go_sem high] eqA35
/-! ### pairs_Set: function 22 -/
def pairs_Set.f (l0 : List (S35)) (a1 : ByteArray) (a2 : ByteArray) : Option (List (S35)) :=
  if qAll pairs_Same.f l0 a1 = true then (if idxI (pOf pairs_Same.f a1) l0 < 0 then pairs_Add.f l0 a1 a2 else (pairs_Drop.f l0 a1).map fun d => d.take (idxI (pOf pairs_Same.f a1) l0).toNat ++ (⟨a1, a2⟩ : S35) :: d.drop (idxI (pOf pairs_Same.f a1) l0).toNat) else none
theorem set_room {α : Type} (p : α → Bool) (l : List α) (k : Nat) (hk : k < l.length) (h1 : p (l[k]'hk) = true) (h0 : ∀ j (hj : j < k), p (l[j]'(by omega)) = false) : (l.filter fun x => !p x).length + 1 ≤ l.length ∧ k ≤ (l.filter fun x => !p x).length := by
  have e : l = l.take k ++ l[k]'hk :: l.drop (k + 1) := by rw [List.getElem_cons_drop, List.take_append_drop]
  have hf : (l.take k).filter (fun x => !p x) = l.take k := List.filter_eq_self.2 fun x hx => by
    obtain ⟨j, hj, rfl⟩ := List.getElem_of_mem hx
    rw [List.length_take] at hj
    rw [List.getElem_take, h0 j (by omega)]; rfl
  have h2 : (l.filter fun x => !p x) = l.take k ++ (l.drop (k + 1)).filter (fun x => !p x) := by
    conv => lhs; rw [e]
    rw [List.filter_append, List.filter_cons, h1, hf]; simp
  have h3 := List.length_filter_le (fun x => !p x) (l.drop (k + 1))
  rw [h2, List.length_append, List.length_take]
  rw [List.length_drop] at h3
  omega
set_option maxHeartbeats 8000000 in
set_option maxRecDepth 100000 in
theorem pairs_Set.calls (A0 : Option Addr) (c0 : Nat) (l0 : List (S35)) (a1 : ByteArray) (a2 : ByteArray) (r : List (S35)) (w : World) (hr0 : Kd.C k35 w A0 l0.length l0) (hc0 : l0.length ≤ c0) (h : pairs_Set.f l0 a1 a2 = some r) :
    Calls Tryd.prog 22 #[.slice A0 l0.length c0, .string a1, .string a2] w fun e w' => ∃ v0_ : Value, e = .returned (v0_) ∧ Kd.R k35 35 w' w.heap.size (fun _ => True) v0_ r ∧ Below w.heap.size w w' := by
  have hq : qAll pairs_Same.f l0 a1 = true := by
    by_cases hx : qAll pairs_Same.f l0 a1 = true
    · exact hx
    · rw [pairs_Set.f, if_neg hx] at h; cases h
  rw [pairs_Set.f, if_pos hq] at h
  have eg : ∀ args W, (callFunc 12 args).run Tryd.prog W = .ok (.enter 12 args) W := enters_of Tryd.func12 (by kernel_rfl) rfl
  have hfs := fun W (hW : Kd.C k35 W A0 l0.length l0) => finder_first.calls 12 pairs_Same.f same_at eg A0 c0 l0 a1 W hW hq
  rcases idxI_spec (pOf pairs_Same.f a1) l0 with ⟨e0, hall⟩ | ⟨k0, hk0, e0, hpk, hbef⟩
  · rw [if_pos (by rw [e0]; decide)] at h
    rw [e0] at hfs
    have HFS := Aside0.mk hfs
    have HA := Aside0.mk (fun W (hW : Kd.C k35 W A0 l0.length l0) => pairs_Add.calls A0 c0 l0 a1 a2 r W hW hc0 h)
    have HR := Aside0.mk hr0
    clear hfs h hr0 hq eg hall e0 hc0
    go_enter Tryd.func22, Tryd.ntmps22
    go_wp2_with (first | (go_at_call 25; refine (HFS.out _ HR.out).mono ?_; rintro e w2 ⟨rfl, hb⟩; have HB := Aside0.mk hb; clear hb) | (go_at_call 34; refine (HA.out _ (by exact Kd.C_below HR.out HB.out)).mono ?_; rintro e w3 ⟨v0, rfl, hR, hb⟩; have HV := Aside0.mk hR; have HB3 := Aside0.mk hb; clear hR hb))
    go_ret
    exact ⟨_, rfl, Kd.R_lower HV.out HB.out.size, HB.out.trans (HB3.out.mono HB.out.size)⟩
  · rw [if_neg (by rw [e0]; omega)] at h
    rw [e0] at hfs h
    simp only [Int.toNat_natCast] at h
    obtain ⟨d, hd, rfl⟩ := Option.map_eq_some_iff.1 h
    clear h
    have hdl : d = l0.filter (fun x => !pOf pairs_Same.f a1 x) ∧ l0.length * 32 ≤ 140737488355328 := by
      by_cases hx : qAll pairs_Same.f l0 a1 = true ∧ l0.length * 32 ≤ 140737488355328
      · rw [pairs_Drop.f, if_pos hx] at hd
        exact ⟨(Option.some.inj hd).symm, hx.2⟩
      · rw [pairs_Drop.f, if_neg hx] at hd; cases hd
    obtain ⟨hr1, hr2⟩ := set_room (pOf pairs_Same.f a1) l0 k0 hk0 hpk hbef
    rw [← hdl.1] at hr1 hr2
    have hlim : (d.length + 1) * 32 ≤ 140737488355328 := Nat.le_trans (Nat.mul_le_mul_right _ hr1) hdl.2
    have HFS := Aside0.mk hfs
    have HD := Aside0.mk (fun W (hW : Kd.C k35 W A0 l0.length l0) => drop_at A0 c0 l0 a1 d W hW hc0 hd)
    have HR := Aside0.mk hr0
    have HM := Aside0.mk (show ∃ x ∈ l0, pOf pairs_Same.f a1 x = true from ⟨_, List.getElem_mem hk0, hpk⟩)
    have HN := Aside0.mk (And.intro hr1 (And.intro hr2 hlim))
    have hk1 : ¬ ((k0 : Int) < 0) := by omega
    clear hfs hr0 hq eg hbef hpk e0 hc0 hd hdl hr1 hr2 hlim hk0
    go_enter Tryd.func22, Tryd.ntmps22
    go_wp2_with (first | (go_at_call 25; refine (HFS.out _ HR.out).mono ?_; rintro e w2 ⟨rfl, hb⟩; have HB := Aside0.mk hb; clear hb) | (go_at_call 36; refine (HD.out _ (by exact Kd.C_below HR.out HB.out)).mono ?_; rintro e w3 ⟨v0, rfl, ⟨hR, hcap⟩, hb⟩; obtain ⟨g1, c, rfl, hcc⟩ := hcap HM.out; have HV := Aside0.mk hR; have HB3 := Aside0.mk hb; have HC := Aside0.mk hcc; clear hR hb hcap hcc))
    have hg1 : g1 < w3.heap.size := by
      obtain ⟨g, e, -, -, -, hrow⟩ := row2_of HV.out
      cases e
      exact hrow.lt
    refine (insert_at w.heap.size g1 c d _ (by exact Kd.R_lower (Kd.R_below HV.out ((Below.refl _ w3).alloc (Nat.le_refl _) _)) HB.out.size) (by have := HB.out.size; have := HB3.out.size; simp; omega) (Nat.le_trans HN.out.1 HC.out) HN.out.2.2 k0 HN.out.2.1 _ _ (by omega) (⟨a1, a2⟩ : S35) (by unfold World.alloc; exact Array.getElem?_push_size)).mono ?_
    rintro e w4 ⟨v1, rfl, hR, hb⟩
    have HV4 := Aside0.mk hR
    have HB4 := Aside0.mk (Below.trans (((HB.out.trans (HB3.out.mono HB.out.size)).alloc (by have := HB.out.size; have := HB3.out.size; omega) _)) hb)
    clear hR hb
    go_wp2
    go_ret
    exact ⟨_, rfl, HV4.out, HB4.out⟩

/-! ### tollref04_Same: function 23 -/
def tollref04_Same.l0 : Nat → List (S35) → List (S35) → Int → Option (Bool)
  | 0, _, _, _ => none
  | k + 1, x0, x1, x5 => if x5 < (x0.length : Int) then (if 0 ≤ x5 then (if x5 < (x1.length : Int) then (if (!((((rd_T35 x0 x5).f0).toList) == (((rd_T35 x1 x5).f0).toList)) || (!((((rd_T35 x0 x5).f1).toList) == (((rd_T35 x1 x5).f1).toList)))) = true then (some false) else (tollref04_Same.l0 k x0 x1 (wrap64 (x5 + 1)))) else (none)) else (none)) else (some true)
def tollref04_Same.f (k : Nat) (l0 : List (S35)) (l1 : List (S35)) : Option (Bool) := if (l0.length : Int) = (l1.length : Int) then (tollref04_Same.l0 k l0 l1 0) else (some false)
theorem tollref04_Same.mono_l : ∀ k, (∀ y0 y1 y2, LeO (tollref04_Same.l0 k y0 y1 y2) (tollref04_Same.l0 (k + 1) y0 y1 y2))
  | 0 => fun _ _ _ r h => by simp [tollref04_Same.l0] at h
  | k + 1 => by
    have ih0 := tollref04_Same.mono_l k
    · intro y0 y1 y2
      unfold tollref04_Same.l0
      repeat' first
      | (with_reducible exact ih0 _ _ _)
      | (with_reducible exact LeO.refl _)
      | (with_reducible exact LeO.none _)
      | (with_reducible refine LeO.ite ?_ ?_)
      | (with_reducible refine LeO.bind ?_ (fun _ => ?_))
      | exact ih0 _ _ _
      | exact LeO.none _
      | refine LeO.ite ?_ ?_
      | refine LeO.bind ?_ (fun _ => ?_)
theorem tollref04_Same.mono : ∀ a0 a1 k, LeO (tollref04_Same.f k a0 a1) (tollref04_Same.f (k + 1) a0 a1) := by
  intro a0 a1 k
  have ih0 := tollref04_Same.mono_l k
  unfold tollref04_Same.f
  repeat' first
      | (with_reducible exact ih0 _ _ _)
      | (with_reducible exact LeO.refl _)
      | (with_reducible exact LeO.none _)
      | (with_reducible refine LeO.ite ?_ ?_)
      | (with_reducible refine LeO.bind ?_ (fun _ => ?_))
      | exact ih0 _ _ _
      | exact LeO.none _
      | refine LeO.ite ?_ ?_
      | refine LeO.bind ?_ (fun _ => ?_)
set_option maxHeartbeats 8000000 in
set_option maxRecDepth 100000 in
theorem tollref04_Same.calls (k : Nat) (A0 : Option Addr) (c0 : Nat) (l0 : List (S35)) (A1 : Option Addr) (c1 : Nat) (l1 : List (S35)) (r : Bool) (w : World) (hr0 : Kd.C k35 w A0 l0.length l0) (hc0 : l0.length ≤ c0) (hr1 : Kd.C k35 w A1 l1.length l1) (hc1 : l1.length ≤ c1) (h : tollref04_Same.f k l0 l1 = some r) :
    Calls Tryd.prog 23 #[.slice A0 l0.length c0, .slice A1 l1.length c1] w fun e w' => e = .returned (.bool r) ∧ Drawn0 w w' := by
  have hu35 := Tryd.underlying35
  have HR0 := Aside0.mk hr0
  have HC0 := Aside0.mk hc0
  clear hr0 hc0
  have HR1 := Aside0.mk hr1
  have HC1 := Aside0.mk hc1
  clear hr1 hc1
  have H : (if (l0.length : Int) = (l1.length : Int) then (tollref04_Same.l0 k l0 l1 0) else (some false)) = some r := h
  clear h
  by_cases c3 : (l0.length : Int) = (l1.length : Int)
  · rw [if_pos c3] at H
    have c3b0 : ((l0.length : Int) == (l1.length : Int)) = true := beq_iff_eq.mpr c3
    have c3b1 : ((l0.length : Int) != (l1.length : Int)) = false := bne_eq_false_iff_eq.mpr c3
    have c3b2 : (l0.length == l1.length) = true := by first | simpa using c3 | (simp at c3 ⊢; omega)
    clear c3
    have H' := Aside0.mk H
    clear H
    go_enter Tryd.func23, Tryd.ntmps23
    go_wp2
    repeat (go_quiet (fail); try go_wp2)
    go_loopg [5] k (fun kq v5 w' => ∃ (x5_1 : Int), v5 = .int .i64 x5_1 ∧ Aside0 (tollref04_Same.l0 kq l0 l1 x5_1 = some r) ∧ Aside0 (kq ≤ k) ∧ Drawn0 w w')
    case atStart => exact ⟨(0), (by first | rfl | (simp; done) | (simp [*]; done) | (simp [bne_nil_isEmpty, beq_nil_isEmpty]; done) | (simp [*, bne_nil_isEmpty, beq_nil_isEmpty]; done)), H', ⟨Nat.le_refl _⟩, by repeat (first | exact Drawn0.refl _ | apply Drawn0.step)⟩
    case round =>
      clear H'
      try clear c1
      try clear c2
      try clear p2
      try clear c3
      try clear c3b0
      try clear c3b1
      try clear c3b2
      obtain ⟨x5_1, rfl, HA, HK1, ⟨m1, rfl⟩⟩ := hrel
      cases gk with
      | zero => exact absurd HA.out (by simp [tollref04_Same.l0])
      | succ k1 =>
        have H := HA.out
        clear HA
        simp only [tollref04_Same.l0] at H
        by_cases c4 : x5_1 < (l0.length : Int)
        · rw [if_pos c4] at H
          have c4b0 : decide (x5_1 < (l0.length : Int)) = true := decide_eq_true c4
          clear c4
          by_cases c5 : 0 ≤ x5_1
          · rw [if_pos c5] at H
            have c5b0 : decide (0 ≤ x5_1) = true := decide_eq_true c5
            clear c5
            by_cases c6 : x5_1 < (l1.length : Int)
            · rw [if_pos c6] at H
              have c6b0 : decide (x5_1 < (l1.length : Int)) = true := decide_eq_true c6
              clear c6
              by_cases c7 : (!((((rd_T35 l0 x5_1).f0).toList) == (((rd_T35 l1 x5_1).f0).toList)) || (!((((rd_T35 l0 x5_1).f1).toList) == (((rd_T35 l1 x5_1).f1).toList)))) = true
              · rw [if_pos c7] at H
                have c7b0 : (!((((rd_T35 l0 x5_1).f0).toList) == (((rd_T35 l1 x5_1).f0).toList)) || (!((((rd_T35 l0 x5_1).f1).toList) == (((rd_T35 l1 x5_1).f1).toList)))) = true := c7
                clear c7
                obtain rfl := Option.some.inj H
                have p150 : 0 ≤ (x5_1 : Int) := of_decide_eq_true (by first | (with_reducible assumption) | assumption)
                have q150 : x5_1 < (l0.length : Int) := of_decide_eq_true (by first | (with_reducible assumption) | assumption)
                obtain ⟨ad150, e150, hx150_0, hx150_1⟩ := at_T35 HR0.out x5_1 p150 q150
                cases e150
                replace p150 := eq_true p150
                replace q150 := eq_true q150
                have p151 : 0 ≤ (x5_1 : Int) := of_decide_eq_true (by first | (with_reducible assumption) | assumption)
                have q151 : x5_1 < (l1.length : Int) := of_decide_eq_true (by first | (with_reducible assumption) | assumption)
                obtain ⟨ad151, e151, hx151_0, hx151_1⟩ := at_T35 HR1.out x5_1 p151 q151
                cases e151
                replace p151 := eq_true p151
                replace q151 := eq_true q151
                go_wp2
                repeat (go_quiet (fail); try go_wp2)
                go_ret
                exact ⟨by first | rfl | (simp; done) | (simp [*]; done) | (simp [bne_nil_isEmpty, beq_nil_isEmpty]; done) | (simp [*, bne_nil_isEmpty, beq_nil_isEmpty]; done), by repeat (first | exact Drawn0.refl _ | apply Drawn0.step)⟩
              · rw [if_neg c7] at H
                have c7b0 : (!((((rd_T35 l0 x5_1).f0).toList) == (((rd_T35 l1 x5_1).f0).toList)) || (!((((rd_T35 l0 x5_1).f1).toList) == (((rd_T35 l1 x5_1).f1).toList)))) = false := by simpa using c7
                clear c7
                have H' := Aside0.mk H
                clear H
                have p150 : 0 ≤ (x5_1 : Int) := of_decide_eq_true (by first | (with_reducible assumption) | assumption)
                have q150 : x5_1 < (l0.length : Int) := of_decide_eq_true (by first | (with_reducible assumption) | assumption)
                obtain ⟨ad150, e150, hx150_0, hx150_1⟩ := at_T35 HR0.out x5_1 p150 q150
                cases e150
                replace p150 := eq_true p150
                replace q150 := eq_true q150
                have p151 : 0 ≤ (x5_1 : Int) := of_decide_eq_true (by first | (with_reducible assumption) | assumption)
                have q151 : x5_1 < (l1.length : Int) := of_decide_eq_true (by first | (with_reducible assumption) | assumption)
                obtain ⟨ad151, e151, hx151_0, hx151_1⟩ := at_T35 HR1.out x5_1 p151 q151
                cases e151
                replace p151 := eq_true p151
                replace q151 := eq_true q151
                go_wp2
                repeat (go_quiet (fail); try go_wp2)
                go_roundg k1
                case measure => have := HK1.out; omega
                case rel => exact ⟨(wrap64 (x5_1 + 1)), (by first | rfl | (simp; done) | (simp [*]; done) | (simp [bne_nil_isEmpty, beq_nil_isEmpty]; done) | (simp [*, bne_nil_isEmpty, beq_nil_isEmpty]; done)), H', ⟨by have := HK1.out; omega⟩, by repeat (first | exact Drawn0.refl _ | apply Drawn0.step)⟩
            · rw [if_neg c6] at H
              exact absurd H (by simp)
          · rw [if_neg c5] at H
            exact absurd H (by simp)
        · rw [if_neg c4] at H
          have c4b0 : decide (x5_1 < (l0.length : Int)) = false := decide_eq_false c4
          clear c4
          obtain rfl := Option.some.inj H
          go_wp2
          repeat (go_quiet (fail); try go_wp2)
          go_ret
          exact ⟨by first | rfl | (simp; done) | (simp [*]; done) | (simp [bne_nil_isEmpty, beq_nil_isEmpty]; done) | (simp [*, bne_nil_isEmpty, beq_nil_isEmpty]; done), by repeat (first | exact Drawn0.refl _ | apply Drawn0.step)⟩
  · rw [if_neg c3] at H
    have c3b0 : ((l0.length : Int) == (l1.length : Int)) = false := beq_eq_false_iff_ne.mpr c3
    have c3b1 : ((l0.length : Int) != (l1.length : Int)) = true := bne_iff_ne.mpr c3
    have c3b2 : (l0.length == l1.length) = false := by first | simpa using c3 | (simp at c3 ⊢; omega)
    obtain rfl := Option.some.inj H
    go_enter Tryd.func23, Tryd.ntmps23
    go_wp2
    repeat (go_quiet (fail); try go_wp2)
    go_ret
    exact ⟨by first | rfl | (simp; done) | (simp [*]; done) | (simp [bne_nil_isEmpty, beq_nil_isEmpty]; done) | (simp [*, bne_nil_isEmpty, beq_nil_isEmpty]; done), by repeat (first | exact Drawn0.refl _ | apply Drawn0.step)⟩

-- NOT PRINTED: function 37 (pairs_Holds_1)

set_option maxHeartbeats 4000000 in
theorem plain_at : SameAt Tryd.prog 37 (fun a b => some (a.toList == b.toList)) := by
  intro W a b r h
  obtain rfl := Option.some.inj h
  clear h
  go_enter Tryd.func37, Tryd.ntmps37
  go_wp2
  go_ret
  exact ⟨rfl, Below.refl _ _⟩
/-! ### pairs_Holds: function 24 -/
def holdsQ (fold : Bool) : ByteArray → ByteArray → Option Bool := if fold = true then pairs_Same.f else fun a b => some (a.toList == b.toList)
def holdsX (fold : Bool) (l : List (S35)) (x : S35) : Bool := (getI (holdsQ fold) l x.f0).2 && ((getI (holdsQ fold) l x.f0).1.toList == x.f1.toList)
theorem holdsX_true (fold : Bool) (l0 l : List (S35)) (h : ∀ j (hj : j < l0.length), holdsX fold l (l0[j]'hj) = true) : l0.all (holdsX fold l) = true :=
  List.all_eq_true.2 fun x hx => by
    obtain ⟨j, hj, rfl⟩ := List.getElem_of_mem hx
    exact h j hj
theorem holdsX_false (fold : Bool) (l0 l : List (S35)) (k : Nat) (hk : k < l0.length) (h : holdsX fold l (l0[k]'hk) = false) : l0.all (holdsX fold l) = false := by
  rw [List.all_eq_false]
  exact ⟨_, List.getElem_mem hk, by rw [h]; decide⟩
def pairs_Holds.f (l0 : List (S35)) (l1 : List (S35)) (a2 : Bool) : Option (Bool) := if (l0.all fun x => qAll (holdsQ a2) l1 x.f0) = true then some (l0.all (holdsX a2 l1)) else none
set_option maxHeartbeats 8000000 in
set_option maxRecDepth 100000 in
theorem pairs_Holds.calls (A0 : Option Addr) (c0 : Nat) (l0 : List (S35)) (A1 : Option Addr) (c1 : Nat) (l1 : List (S35)) (a2 : Bool) (r : Bool) (w : World) (hr0 : Kd.C k35 w A0 l0.length l0) (hc0 : l0.length ≤ c0) (hr1 : Kd.C k35 w A1 l1.length l1) (hc1 : l1.length ≤ c1) (h : pairs_Holds.f l0 l1 a2 = some r) :
    Calls Tryd.prog 24 #[.slice A0 l0.length c0, .slice A1 l1.length c1, .bool a2] w fun e w' => e = .returned (.bool r) ∧ Below w.heap.size w w' := by
  have hall : (l0.all fun x => qAll (holdsQ a2) l1 x.f0) = true := by
    by_cases hx : (l0.all fun x => qAll (holdsQ a2) l1 x.f0) = true
    · exact hx
    · rw [pairs_Holds.f, if_neg hx] at h; cases h
  rw [pairs_Holds.f, if_pos hall] at h
  have HR0 := Aside0.mk hr0
  have HR1 := Aside0.mk hr1
  have HA := Aside0.mk hall
  have H := Aside0.mk (Option.some.inj h)
  have hmx := hr0.2.1
  have e20 : ∀ args W, (callFunc 12 args).run Tryd.prog W = .ok (.enter 12 args) W := enters_of Tryd.func12 (by kernel_rfl) rfl
  have e30 : ∀ args W, (callFunc 37 args).run Tryd.prog W = .ok (.enter 37 args) W := enters_of Tryd.func37 (by kernel_rfl) rfl
  have E20 := Aside0.mk e20
  have E30 := Aside0.mk e30
  clear h hall hr0 hr1 hc0 hc1 e20 e30
  cases a2 with
  | true =>
    have hsame : SameAt Tryd.prog 12 (holdsQ true) := same_at
    have HSM := Aside0.mk hsame
    clear hsame
    go_enter Tryd.func24, Tryd.ntmps24
    go_wp2_with ((with_reducible refine gate_dst (N := 7) rfl ?_); refine box_event ?hg (N := 7) ?hd (cs := #[.nilFunc]) (t := 37) ?hr ?_; (case hd => rfl); (case hg => rfl); (case hr => first | (go_simp; done) | (go_simp; rfl)); intro gb hg w9 hbox hb; have hc0 : w9.cell? ⟨gb, 0, none⟩ = some .nilFunc := (blk_cell hbox 0).trans rfl; have hf0 := blk_frozen hbox 0; have HX := Aside0.mk hbox; have HB := Aside0.mk hb; have HG := Aside0.mk hg; clear hbox hb hg)
    have HL := Aside0.mk (show w.heap.size ≤ gb by rw [HG.out]; exact Nat.le_refl _)
    have hfb : ((w9.setCell ⟨gb, 0, none⟩ (.func (.func 37) #[] #[])).setCell ⟨gb, 0, none⟩ (.func (.func 12) #[] #[])).heap[gb]? = some (.cells #[.func (.func 12) #[] #[]] 37 (0, 0)) := by
      exact blk_put (cs := #[.func (.func 37) #[] #[]]) (blk_put (cs := #[.nilFunc]) HX.out 0 _ rfl) 0 _ rfl
    have hbl : Below w.heap.size w ((w9.setCell ⟨gb, 0, none⟩ (.func (.func 37) #[] #[])).setCell ⟨gb, 0, none⟩ (.func (.func 12) #[] #[])) := by
      exact below_set (below_set HB.out HL.out) HL.out
    clear HX HB HG hc0 hf0
    generalize ((w9.setCell ⟨gb, 0, none⟩ (.func (.func 37) #[] #[])).setCell ⟨gb, 0, none⟩ (.func (.func 12) #[] #[])) = W0 at hfb hbl ⊢
    have HFB := Aside0.mk hfb
    have HBL := Aside0.mk hbl
    clear hfb hbl
    go_loopg [17] l0.length (fun gg s17 wr => ∃ kk : Nat, kk ≤ l0.length ∧ l0.length - kk ≤ gg ∧ s17 = .int .i64 kk ∧ Aside0 (Below w.heap.size w wr) ∧ Aside0 (wr.heap[gb]? = some (.cells #[.func (.func 12) #[] #[]] 37 (0, 0))) ∧ Aside0 (∀ j : Nat, j < kk → holdsX true l1 (rd_T35 l0 j) = true))
    case atStart => exact ⟨0, Nat.zero_le _, by omega, rfl, HBL, HFB, ⟨fun j hj => absurd hj (Nat.not_lt_zero _)⟩⟩
    case round =>
      clear HBL HFB
      obtain ⟨kk, hkk, hg, rfl, BW, FB, AL⟩ := hrel
      by_cases hlt : kk < l0.length
      · have p1 : (0 : Int) ≤ (kk : Int) := by omega
        have q1 : (kk : Int) < (l0.length : Int) := by omega
        obtain ⟨ad, ea, hx_0, hx_1⟩ := at_T35 HR0.out (kk : Int) p1 q1
        cases ea
        replace hx_0 := (BW.out.cell (World.block_lt_of_cell? w _ hx_0)).trans hx_0
        replace hx_1 := (BW.out.cell (World.block_lt_of_cell? w _ hx_1)).trans hx_1
        have hmem : rd_T35 l0 (kk : Int) ∈ l0 := by
          unfold rd_T35
          rw [Int.toNat_natCast, getD_at _ _ hlt]
          exact List.getElem_mem hlt
        have hqa := List.all_eq_true.1 HA.out _ hmem
        clear hmem
        simp only [Int.toNat_natCast] at hx_0 hx_1
        have hX : holdsX true l1 (rd_T35 l0 (kk : Int)) = ((getI (holdsQ true) l1 (rd_T35 l0 (kk : Int)).f0).2 && ((getI (holdsQ true) l1 (rd_T35 l0 (kk : Int)).f0).1.toList == (rd_T35 l0 (kk : Int)).f1.toList)) := rfl
        have hcall := fun W hW => finder_get.calls 12 (holdsQ true) HSM.out E20.out A1 c1 l1 (rd_T35 l0 (kk : Int)).f0 W hW hqa
        clear hqa
        generalize hy : rd_T35 l0 (kk : Int) = y at *
        have HY := Aside0.mk hy
        clear hy
        generalize (getI (holdsQ true) l1 y.f0).1 = gv at *
        generalize (getI (holdsQ true) l1 y.f0).2 = gi at *
        have HC := Aside0.mk hcall
        have HX := Aside0.mk hX
        clear hcall hX
        replace p1 := eq_true p1
        replace q1 := eq_true q1
        have hfc : wr.cell? ⟨gb, 0, none⟩ = some (.func (.func 12) #[] #[]) := (blk_cell FB.out 0).trans rfl
        have hgl : gb < wr.heap.size := blk_lt FB.out
        by_cases hgi : gi = true
        · subst hgi
          by_cases hv : gv.toList = y.f1.toList
          · have hv1 : (gv.toList != y.f1.toList) = false := bne_eq_false_iff_eq.mpr hv
            have hv2 : (gv.toList == y.f1.toList) = true := beq_iff_eq.mpr hv
            have HV := Aside0.mk hv
            clear hv
            go_wp2_with (go_at_call 17; refine (HC.out _ (by exact Kd.C_alloc (Kd.C_below HR1.out BW.out) _)).mono ?_; rintro e w' ⟨rfl, hb'⟩; have BW3 := Aside0.mk ((BW.out.alloc BW.out.size _).trans (hb'.mono (by have := BW.out.size; simp; omega))); have FB3 := Aside0.mk (blk_below (blk_below FB.out ((Below.refl _ wr).alloc (Nat.le_refl _) _)) hb'); have hp1 : w'.cell? ⟨wr.heap.size, 1, none⟩ = some (.string y.f1) := (hb'.cell (p := ⟨wr.heap.size, 1, none⟩) (by simp)).trans (by simp [World.cell?_alloc_new]); clear hb')
            go_roundg (l0.length - (kk + 1))
            case measure => omega
            case rel =>
              refine ⟨kk + 1, by omega, by omega, by go_num, BW3, FB3, ⟨fun j hj => ?_⟩⟩
              by_cases e : j = kk
              · subst e
                rw [HY.out, HX.out, HV.out]; simp
              · exact AL.out j (by omega)
          · have hv1 : (gv.toList != y.f1.toList) = true := bne_iff_ne.mpr hv
            have hv2 : (gv.toList == y.f1.toList) = false := beq_eq_false_iff_ne.mpr hv
            have HV := Aside0.mk hv2
            clear hv
            go_wp2_with (go_at_call 17; refine (HC.out _ (by exact Kd.C_alloc (Kd.C_below HR1.out BW.out) _)).mono ?_; rintro e w' ⟨rfl, hb'⟩; have BW3 := Aside0.mk ((BW.out.alloc BW.out.size _).trans (hb'.mono (by have := BW.out.size; simp; omega))); have FB3 := Aside0.mk (blk_below (blk_below FB.out ((Below.refl _ wr).alloc (Nat.le_refl _) _)) hb'); have hp1 : w'.cell? ⟨wr.heap.size, 1, none⟩ = some (.string y.f1) := (hb'.cell (p := ⟨wr.heap.size, 1, none⟩) (by simp)).trans (by simp [World.cell?_alloc_new]); clear hb')
            go_ret
            refine ⟨?_, BW3.out⟩
            rw [show r = false from by rw [← H.out]; exact holdsX_false _ _ _ kk hlt (by have := HX.out; rw [HV.out, ← HY.out] at this; unfold rd_T35 at this; rw [Int.toNat_natCast, getD_at _ _ hlt] at this; rw [this]; rfl)]
            rfl
        · obtain rfl : gi = false := by simpa using hgi
          clear hgi
          go_wp2_with (go_at_call 17; refine (HC.out _ (by exact Kd.C_alloc (Kd.C_below HR1.out BW.out) _)).mono ?_; rintro e w' ⟨rfl, hb'⟩; have BW3 := Aside0.mk ((BW.out.alloc BW.out.size _).trans (hb'.mono (by have := BW.out.size; simp; omega))); have FB3 := Aside0.mk (blk_below (blk_below FB.out ((Below.refl _ wr).alloc (Nat.le_refl _) _)) hb'); have hp1 : w'.cell? ⟨wr.heap.size, 1, none⟩ = some (.string y.f1) := (hb'.cell (p := ⟨wr.heap.size, 1, none⟩) (by simp)).trans (by simp [World.cell?_alloc_new]); clear hb')
          go_ret
          refine ⟨?_, BW3.out⟩
          rw [show r = false from by rw [← H.out]; exact holdsX_false _ _ _ kk hlt (by have := HX.out; rw [← HY.out] at this; unfold rd_T35 at this; rw [Int.toNat_natCast, getD_at _ _ hlt] at this; rw [this]; rfl)]
          rfl
      · have q1 : ¬ (kk : Int) < (l0.length : Int) := by omega
        obtain rfl : kk = l0.length := by omega
        go_wp2
        go_ret
        refine ⟨?_, BW.out⟩
        rw [show r = true from by rw [← H.out]; exact holdsX_true _ _ _ (fun j hj => by have := AL.out j hj; unfold rd_T35 at this; rwa [Int.toNat_natCast, getD_at _ _ hj] at this)]
        rfl
  | false =>
    have hsame : SameAt Tryd.prog 37 (holdsQ false) := plain_at
    have HSM := Aside0.mk hsame
    clear hsame
    go_enter Tryd.func24, Tryd.ntmps24
    go_wp2_with ((with_reducible refine gate_dst (N := 7) rfl ?_); refine box_event ?hg (N := 7) ?hd (cs := #[.nilFunc]) (t := 37) ?hr ?_; (case hd => rfl); (case hg => rfl); (case hr => first | (go_simp; done) | (go_simp; rfl)); intro gb hg w9 hbox hb; have hc0 : w9.cell? ⟨gb, 0, none⟩ = some .nilFunc := (blk_cell hbox 0).trans rfl; have hf0 := blk_frozen hbox 0; have HX := Aside0.mk hbox; have HB := Aside0.mk hb; have HG := Aside0.mk hg; clear hbox hb hg)
    have HL := Aside0.mk (show w.heap.size ≤ gb by rw [HG.out]; exact Nat.le_refl _)
    have hfb : (w9.setCell ⟨gb, 0, none⟩ (.func (.func 37) #[] #[])).heap[gb]? = some (.cells #[.func (.func 37) #[] #[]] 37 (0, 0)) := by
      exact blk_put (cs := #[.nilFunc]) HX.out 0 _ rfl
    have hbl : Below w.heap.size w (w9.setCell ⟨gb, 0, none⟩ (.func (.func 37) #[] #[])) := by
      exact below_set HB.out HL.out
    clear HX HB HG hc0 hf0
    generalize (w9.setCell ⟨gb, 0, none⟩ (.func (.func 37) #[] #[])) = W0 at hfb hbl ⊢
    have HFB := Aside0.mk hfb
    have HBL := Aside0.mk hbl
    clear hfb hbl
    go_loopg [17] l0.length (fun gg s17 wr => ∃ kk : Nat, kk ≤ l0.length ∧ l0.length - kk ≤ gg ∧ s17 = .int .i64 kk ∧ Aside0 (Below w.heap.size w wr) ∧ Aside0 (wr.heap[gb]? = some (.cells #[.func (.func 37) #[] #[]] 37 (0, 0))) ∧ Aside0 (∀ j : Nat, j < kk → holdsX false l1 (rd_T35 l0 j) = true))
    case atStart => exact ⟨0, Nat.zero_le _, by omega, rfl, HBL, HFB, ⟨fun j hj => absurd hj (Nat.not_lt_zero _)⟩⟩
    case round =>
      clear HBL HFB
      obtain ⟨kk, hkk, hg, rfl, BW, FB, AL⟩ := hrel
      by_cases hlt : kk < l0.length
      · have p1 : (0 : Int) ≤ (kk : Int) := by omega
        have q1 : (kk : Int) < (l0.length : Int) := by omega
        obtain ⟨ad, ea, hx_0, hx_1⟩ := at_T35 HR0.out (kk : Int) p1 q1
        cases ea
        replace hx_0 := (BW.out.cell (World.block_lt_of_cell? w _ hx_0)).trans hx_0
        replace hx_1 := (BW.out.cell (World.block_lt_of_cell? w _ hx_1)).trans hx_1
        have hmem : rd_T35 l0 (kk : Int) ∈ l0 := by
          unfold rd_T35
          rw [Int.toNat_natCast, getD_at _ _ hlt]
          exact List.getElem_mem hlt
        have hqa := List.all_eq_true.1 HA.out _ hmem
        clear hmem
        simp only [Int.toNat_natCast] at hx_0 hx_1
        have hX : holdsX false l1 (rd_T35 l0 (kk : Int)) = ((getI (holdsQ false) l1 (rd_T35 l0 (kk : Int)).f0).2 && ((getI (holdsQ false) l1 (rd_T35 l0 (kk : Int)).f0).1.toList == (rd_T35 l0 (kk : Int)).f1.toList)) := rfl
        have hcall := fun W hW => finder_get.calls 37 (holdsQ false) HSM.out E30.out A1 c1 l1 (rd_T35 l0 (kk : Int)).f0 W hW hqa
        clear hqa
        generalize hy : rd_T35 l0 (kk : Int) = y at *
        have HY := Aside0.mk hy
        clear hy
        generalize (getI (holdsQ false) l1 y.f0).1 = gv at *
        generalize (getI (holdsQ false) l1 y.f0).2 = gi at *
        have HC := Aside0.mk hcall
        have HX := Aside0.mk hX
        clear hcall hX
        replace p1 := eq_true p1
        replace q1 := eq_true q1
        have hfc : wr.cell? ⟨gb, 0, none⟩ = some (.func (.func 37) #[] #[]) := (blk_cell FB.out 0).trans rfl
        have hgl : gb < wr.heap.size := blk_lt FB.out
        by_cases hgi : gi = true
        · subst hgi
          by_cases hv : gv.toList = y.f1.toList
          · have hv1 : (gv.toList != y.f1.toList) = false := bne_eq_false_iff_eq.mpr hv
            have hv2 : (gv.toList == y.f1.toList) = true := beq_iff_eq.mpr hv
            have HV := Aside0.mk hv
            clear hv
            go_wp2_with (go_at_call 17; refine (HC.out _ (by exact Kd.C_alloc (Kd.C_below HR1.out BW.out) _)).mono ?_; rintro e w' ⟨rfl, hb'⟩; have BW3 := Aside0.mk ((BW.out.alloc BW.out.size _).trans (hb'.mono (by have := BW.out.size; simp; omega))); have FB3 := Aside0.mk (blk_below (blk_below FB.out ((Below.refl _ wr).alloc (Nat.le_refl _) _)) hb'); have hp1 : w'.cell? ⟨wr.heap.size, 1, none⟩ = some (.string y.f1) := (hb'.cell (p := ⟨wr.heap.size, 1, none⟩) (by simp)).trans (by simp [World.cell?_alloc_new]); clear hb')
            go_roundg (l0.length - (kk + 1))
            case measure => omega
            case rel =>
              refine ⟨kk + 1, by omega, by omega, by go_num, BW3, FB3, ⟨fun j hj => ?_⟩⟩
              by_cases e : j = kk
              · subst e
                rw [HY.out, HX.out, HV.out]; simp
              · exact AL.out j (by omega)
          · have hv1 : (gv.toList != y.f1.toList) = true := bne_iff_ne.mpr hv
            have hv2 : (gv.toList == y.f1.toList) = false := beq_eq_false_iff_ne.mpr hv
            have HV := Aside0.mk hv2
            clear hv
            go_wp2_with (go_at_call 17; refine (HC.out _ (by exact Kd.C_alloc (Kd.C_below HR1.out BW.out) _)).mono ?_; rintro e w' ⟨rfl, hb'⟩; have BW3 := Aside0.mk ((BW.out.alloc BW.out.size _).trans (hb'.mono (by have := BW.out.size; simp; omega))); have FB3 := Aside0.mk (blk_below (blk_below FB.out ((Below.refl _ wr).alloc (Nat.le_refl _) _)) hb'); have hp1 : w'.cell? ⟨wr.heap.size, 1, none⟩ = some (.string y.f1) := (hb'.cell (p := ⟨wr.heap.size, 1, none⟩) (by simp)).trans (by simp [World.cell?_alloc_new]); clear hb')
            go_ret
            refine ⟨?_, BW3.out⟩
            rw [show r = false from by rw [← H.out]; exact holdsX_false _ _ _ kk hlt (by have := HX.out; rw [HV.out, ← HY.out] at this; unfold rd_T35 at this; rw [Int.toNat_natCast, getD_at _ _ hlt] at this; rw [this]; rfl)]
            rfl
        · obtain rfl : gi = false := by simpa using hgi
          clear hgi
          go_wp2_with (go_at_call 17; refine (HC.out _ (by exact Kd.C_alloc (Kd.C_below HR1.out BW.out) _)).mono ?_; rintro e w' ⟨rfl, hb'⟩; have BW3 := Aside0.mk ((BW.out.alloc BW.out.size _).trans (hb'.mono (by have := BW.out.size; simp; omega))); have FB3 := Aside0.mk (blk_below (blk_below FB.out ((Below.refl _ wr).alloc (Nat.le_refl _) _)) hb'); have hp1 : w'.cell? ⟨wr.heap.size, 1, none⟩ = some (.string y.f1) := (hb'.cell (p := ⟨wr.heap.size, 1, none⟩) (by simp)).trans (by simp [World.cell?_alloc_new]); clear hb')
          go_ret
          refine ⟨?_, BW3.out⟩
          rw [show r = false from by rw [← H.out]; exact holdsX_false _ _ _ kk hlt (by have := HX.out; rw [← HY.out] at this; unfold rd_T35 at this; rw [Int.toNat_natCast, getD_at _ _ hlt] at this; rw [this]; rfl)]
          rfl
      · have q1 : ¬ (kk : Int) < (l0.length : Int) := by omega
        obtain rfl : kk = l0.length := by omega
        go_wp2
        go_ret
        refine ⟨?_, BW.out⟩
        rw [show r = true from by rw [← H.out]; exact holdsX_true _ _ _ (fun j hj => by have := AL.out j hj; unfold rd_T35 at this; rwa [Int.toNat_natCast, getD_at _ _ hj] at this)]
        rfl

/-! ### tolllaw05_awake: function 16 -/
def tolllaw05_awake.f (k : Nat)  : Option (Bool) := (pairs_Get.f (([(⟨(⟨#[104, 111, 115, 116]⟩ : ByteArray), (⟨#[97]⟩ : ByteArray)⟩ : S35)] : List (S35))) (⟨#[72, 111, 115, 116]⟩ : ByteArray)).bind fun bt155 => ((pairs_Set.f (([(⟨(⟨#[97]⟩ : ByteArray), (⟨#[49]⟩ : ByteArray)⟩ : S35), (⟨(⟨#[98]⟩ : ByteArray), (⟨#[50]⟩ : ByteArray)⟩ : S35), (⟨(⟨#[65]⟩ : ByteArray), (⟨#[52]⟩ : ByteArray)⟩ : S35)] : List (S35))) (⟨#[97]⟩ : ByteArray) (⟨#[51]⟩ : ByteArray)).bind fun t160 => ((some (([(⟨(⟨#[120]⟩ : ByteArray), (⟨#[49]⟩ : ByteArray)⟩ : S35)] : List (S35)) : List (S35))).bind fun y163 => ((some (([(⟨(⟨#[88]⟩ : ByteArray), (⟨#[49]⟩ : ByteArray)⟩ : S35)] : List (S35)) : List (S35))).bind fun y166 => (if bt155.1.toList = ([97] : List UInt8) then (if bt155.2 = true then ((tollref04_Same.f k t160 (([(⟨(⟨#[97]⟩ : ByteArray), (⟨#[51]⟩ : ByteArray)⟩ : S35), (⟨(⟨#[98]⟩ : ByteArray), (⟨#[50]⟩ : ByteArray)⟩ : S35)] : List (S35)))).bind fun t172 => (if t172 = true then ((pairs_Holds.f y163 y166 true).bind fun t173 => (if t173 = true then ((pairs_Holds.f y163 y166 false).bind fun t174 => (if t174 = true then (none) else (some true))) else (none))) else (none))) else (none)) else (none)))))
theorem tolllaw05_awake.mono : ∀ k, LeO (tolllaw05_awake.f k ) (tolllaw05_awake.f (k + 1) ) := by
  intro  k
  unfold tolllaw05_awake.f
  repeat' first
      | (with_reducible exact tollref04_Same.mono _ _ _)
      | (with_reducible exact LeO.refl _)
      | (with_reducible exact LeO.none _)
      | (with_reducible refine LeO.ite ?_ ?_)
      | (with_reducible refine LeO.bind ?_ (fun _ => ?_))
      | exact tollref04_Same.mono _ _ _
      | exact LeO.none _
      | refine LeO.ite ?_ ?_
      | refine LeO.bind ?_ (fun _ => ?_)
set_option maxHeartbeats 8000000 in
set_option maxRecDepth 100000 in
theorem tolllaw05_awake.calls (k : Nat)  (r : Bool) (w : World) (h : tolllaw05_awake.f k  = some r) :
    Calls Tryd.prog 16 #[] w fun e w' => e = .returned (.bool r) ∧ Below w.heap.size w w' := by
  have hu35 := Tryd.underlying35
  have HB := Aside0.mk (Below.refl w.heap.size w)
  have H : ((pairs_Get.f (([(⟨(⟨#[104, 111, 115, 116]⟩ : ByteArray), (⟨#[97]⟩ : ByteArray)⟩ : S35)] : List (S35))) (⟨#[72, 111, 115, 116]⟩ : ByteArray)).bind fun bt155 => ((pairs_Set.f (([(⟨(⟨#[97]⟩ : ByteArray), (⟨#[49]⟩ : ByteArray)⟩ : S35), (⟨(⟨#[98]⟩ : ByteArray), (⟨#[50]⟩ : ByteArray)⟩ : S35), (⟨(⟨#[65]⟩ : ByteArray), (⟨#[52]⟩ : ByteArray)⟩ : S35)] : List (S35))) (⟨#[97]⟩ : ByteArray) (⟨#[51]⟩ : ByteArray)).bind fun t160 => ((some (([(⟨(⟨#[120]⟩ : ByteArray), (⟨#[49]⟩ : ByteArray)⟩ : S35)] : List (S35)) : List (S35))).bind fun y163 => ((some (([(⟨(⟨#[88]⟩ : ByteArray), (⟨#[49]⟩ : ByteArray)⟩ : S35)] : List (S35)) : List (S35))).bind fun y166 => (if bt155.1.toList = ([97] : List UInt8) then (if bt155.2 = true then ((tollref04_Same.f k t160 (([(⟨(⟨#[97]⟩ : ByteArray), (⟨#[51]⟩ : ByteArray)⟩ : S35), (⟨(⟨#[98]⟩ : ByteArray), (⟨#[50]⟩ : ByteArray)⟩ : S35)] : List (S35)))).bind fun t172 => (if t172 = true then ((pairs_Holds.f y163 y166 true).bind fun t173 => (if t173 = true then ((pairs_Holds.f y163 y166 false).bind fun t174 => (if t174 = true then (none) else (some true))) else (none))) else (none))) else (none)) else (none)))))) = some r := h
  clear h
  obtain ⟨y152, hy152⟩ : ∃ y_ : List (S35), y_ = (([(⟨(⟨#[104, 111, 115, 116]⟩ : ByteArray), (⟨#[97]⟩ : ByteArray)⟩ : S35)] : List (S35))) := ⟨_, rfl⟩
  replace H : ((pairs_Get.f y152 (⟨#[72, 111, 115, 116]⟩ : ByteArray)).bind fun bt155 => ((pairs_Set.f (([(⟨(⟨#[97]⟩ : ByteArray), (⟨#[49]⟩ : ByteArray)⟩ : S35), (⟨(⟨#[98]⟩ : ByteArray), (⟨#[50]⟩ : ByteArray)⟩ : S35), (⟨(⟨#[65]⟩ : ByteArray), (⟨#[52]⟩ : ByteArray)⟩ : S35)] : List (S35))) (⟨#[97]⟩ : ByteArray) (⟨#[51]⟩ : ByteArray)).bind fun t160 => ((some (([(⟨(⟨#[120]⟩ : ByteArray), (⟨#[49]⟩ : ByteArray)⟩ : S35)] : List (S35)) : List (S35))).bind fun y163 => ((some (([(⟨(⟨#[88]⟩ : ByteArray), (⟨#[49]⟩ : ByteArray)⟩ : S35)] : List (S35)) : List (S35))).bind fun y166 => (if bt155.1.toList = ([97] : List UInt8) then (if bt155.2 = true then ((tollref04_Same.f k t160 (([(⟨(⟨#[97]⟩ : ByteArray), (⟨#[51]⟩ : ByteArray)⟩ : S35), (⟨(⟨#[98]⟩ : ByteArray), (⟨#[50]⟩ : ByteArray)⟩ : S35)] : List (S35)))).bind fun t172 => (if t172 = true then ((pairs_Holds.f y163 y166 true).bind fun t173 => (if t173 = true then ((pairs_Holds.f y163 y166 false).bind fun t174 => (if t174 = true then (none) else (some true))) else (none))) else (none))) else (none)) else (none)))))) = some r := by first | (rw [hy152]; with_reducible exact H) | (have H2_ := (Option.bind_some _ _).symm.trans H; rw [hy152]; with_reducible exact H2_) | (have H2_ := (Option.bind_some _ _).symm.trans H; with_reducible exact H2_) | with_reducible exact H | (rw [hy152]; exact H) | exact H
  have Ny152 := Aside0.mk hy152
  clear hy152
  replace H := Option.bind_eq_some_iff.mp H
  obtain ⟨⟨t155, t156⟩, A10, H⟩ := H
  replace H : ((pairs_Set.f (([(⟨(⟨#[97]⟩ : ByteArray), (⟨#[49]⟩ : ByteArray)⟩ : S35), (⟨(⟨#[98]⟩ : ByteArray), (⟨#[50]⟩ : ByteArray)⟩ : S35), (⟨(⟨#[65]⟩ : ByteArray), (⟨#[52]⟩ : ByteArray)⟩ : S35)] : List (S35))) (⟨#[97]⟩ : ByteArray) (⟨#[51]⟩ : ByteArray)).bind fun t160 => ((some (([(⟨(⟨#[120]⟩ : ByteArray), (⟨#[49]⟩ : ByteArray)⟩ : S35)] : List (S35)) : List (S35))).bind fun y163 => ((some (([(⟨(⟨#[88]⟩ : ByteArray), (⟨#[49]⟩ : ByteArray)⟩ : S35)] : List (S35)) : List (S35))).bind fun y166 => (if t155.toList = ([97] : List UInt8) then (if t156 = true then ((tollref04_Same.f k t160 (([(⟨(⟨#[97]⟩ : ByteArray), (⟨#[51]⟩ : ByteArray)⟩ : S35), (⟨(⟨#[98]⟩ : ByteArray), (⟨#[50]⟩ : ByteArray)⟩ : S35)] : List (S35)))).bind fun t172 => (if t172 = true then ((pairs_Holds.f y163 y166 true).bind fun t173 => (if t173 = true then ((pairs_Holds.f y163 y166 false).bind fun t174 => (if t174 = true then (none) else (some true))) else (none))) else (none))) else (none)) else (none))))) = some r := H
  have A1 := Aside0.mk A10
  clear A10
  obtain ⟨y157, hy157⟩ : ∃ y_ : List (S35), y_ = (([(⟨(⟨#[97]⟩ : ByteArray), (⟨#[49]⟩ : ByteArray)⟩ : S35), (⟨(⟨#[98]⟩ : ByteArray), (⟨#[50]⟩ : ByteArray)⟩ : S35), (⟨(⟨#[65]⟩ : ByteArray), (⟨#[52]⟩ : ByteArray)⟩ : S35)] : List (S35))) := ⟨_, rfl⟩
  replace H : ((pairs_Set.f y157 (⟨#[97]⟩ : ByteArray) (⟨#[51]⟩ : ByteArray)).bind fun t160 => ((some (([(⟨(⟨#[120]⟩ : ByteArray), (⟨#[49]⟩ : ByteArray)⟩ : S35)] : List (S35)) : List (S35))).bind fun y163 => ((some (([(⟨(⟨#[88]⟩ : ByteArray), (⟨#[49]⟩ : ByteArray)⟩ : S35)] : List (S35)) : List (S35))).bind fun y166 => (if t155.toList = ([97] : List UInt8) then (if t156 = true then ((tollref04_Same.f k t160 (([(⟨(⟨#[97]⟩ : ByteArray), (⟨#[51]⟩ : ByteArray)⟩ : S35), (⟨(⟨#[98]⟩ : ByteArray), (⟨#[50]⟩ : ByteArray)⟩ : S35)] : List (S35)))).bind fun t172 => (if t172 = true then ((pairs_Holds.f y163 y166 true).bind fun t173 => (if t173 = true then ((pairs_Holds.f y163 y166 false).bind fun t174 => (if t174 = true then (none) else (some true))) else (none))) else (none))) else (none)) else (none))))) = some r := by first | (rw [hy157]; with_reducible exact H) | (have H2_ := (Option.bind_some _ _).symm.trans H; rw [hy157]; with_reducible exact H2_) | (have H2_ := (Option.bind_some _ _).symm.trans H; with_reducible exact H2_) | with_reducible exact H | (rw [hy157]; exact H) | exact H
  have Ny157 := Aside0.mk hy157
  clear hy157
  replace H := Option.bind_eq_some_iff.mp H
  obtain ⟨t160, A20, H⟩ := H
  replace H : ((some (([(⟨(⟨#[120]⟩ : ByteArray), (⟨#[49]⟩ : ByteArray)⟩ : S35)] : List (S35)) : List (S35))).bind fun y163 => ((some (([(⟨(⟨#[88]⟩ : ByteArray), (⟨#[49]⟩ : ByteArray)⟩ : S35)] : List (S35)) : List (S35))).bind fun y166 => (if t155.toList = ([97] : List UInt8) then (if t156 = true then ((tollref04_Same.f k t160 (([(⟨(⟨#[97]⟩ : ByteArray), (⟨#[51]⟩ : ByteArray)⟩ : S35), (⟨(⟨#[98]⟩ : ByteArray), (⟨#[50]⟩ : ByteArray)⟩ : S35)] : List (S35)))).bind fun t172 => (if t172 = true then ((pairs_Holds.f y163 y166 true).bind fun t173 => (if t173 = true then ((pairs_Holds.f y163 y166 false).bind fun t174 => (if t174 = true then (none) else (some true))) else (none))) else (none))) else (none)) else (none)))) = some r := H
  have A2 := Aside0.mk A20
  clear A20
  obtain ⟨y163, hy163⟩ : ∃ y_ : List (S35), y_ = (([(⟨(⟨#[120]⟩ : ByteArray), (⟨#[49]⟩ : ByteArray)⟩ : S35)] : List (S35))) := ⟨_, rfl⟩
  replace H : ((some (([(⟨(⟨#[88]⟩ : ByteArray), (⟨#[49]⟩ : ByteArray)⟩ : S35)] : List (S35)) : List (S35))).bind fun y166 => (if t155.toList = ([97] : List UInt8) then (if t156 = true then ((tollref04_Same.f k t160 (([(⟨(⟨#[97]⟩ : ByteArray), (⟨#[51]⟩ : ByteArray)⟩ : S35), (⟨(⟨#[98]⟩ : ByteArray), (⟨#[50]⟩ : ByteArray)⟩ : S35)] : List (S35)))).bind fun t172 => (if t172 = true then ((pairs_Holds.f y163 y166 true).bind fun t173 => (if t173 = true then ((pairs_Holds.f y163 y166 false).bind fun t174 => (if t174 = true then (none) else (some true))) else (none))) else (none))) else (none)) else (none))) = some r := by first | (rw [hy163]; with_reducible exact H) | (have H2_ := (Option.bind_some _ _).symm.trans H; rw [hy163]; with_reducible exact H2_) | (have H2_ := (Option.bind_some _ _).symm.trans H; with_reducible exact H2_) | with_reducible exact H | (rw [hy163]; exact H) | exact H
  have Ny163 := Aside0.mk hy163
  clear hy163
  obtain ⟨y166, hy166⟩ : ∃ y_ : List (S35), y_ = (([(⟨(⟨#[88]⟩ : ByteArray), (⟨#[49]⟩ : ByteArray)⟩ : S35)] : List (S35))) := ⟨_, rfl⟩
  replace H : (if t155.toList = ([97] : List UInt8) then (if t156 = true then ((tollref04_Same.f k t160 (([(⟨(⟨#[97]⟩ : ByteArray), (⟨#[51]⟩ : ByteArray)⟩ : S35), (⟨(⟨#[98]⟩ : ByteArray), (⟨#[50]⟩ : ByteArray)⟩ : S35)] : List (S35)))).bind fun t172 => (if t172 = true then ((pairs_Holds.f y163 y166 true).bind fun t173 => (if t173 = true then ((pairs_Holds.f y163 y166 false).bind fun t174 => (if t174 = true then (none) else (some true))) else (none))) else (none))) else (none)) else (none)) = some r := by first | (rw [hy166]; with_reducible exact H) | (have H2_ := (Option.bind_some _ _).symm.trans H; rw [hy166]; with_reducible exact H2_) | (have H2_ := (Option.bind_some _ _).symm.trans H; with_reducible exact H2_) | with_reducible exact H | (rw [hy166]; exact H) | exact H
  have Ny166 := Aside0.mk hy166
  clear hy166
  by_cases c3 : t155.toList = ([97] : List UInt8)
  · rw [if_pos c3] at H
    have c3b0 : (t155.toList == ([97] : List UInt8)) = true := beq_iff_eq.mpr c3
    have c3b1 : (t155.toList != ([97] : List UInt8)) = false := bne_eq_false_iff_eq.mpr c3
    clear c3
    by_cases c4 : t156 = true
    · subst c4
      have H1 : ((tollref04_Same.f k t160 (([(⟨(⟨#[97]⟩ : ByteArray), (⟨#[51]⟩ : ByteArray)⟩ : S35), (⟨(⟨#[98]⟩ : ByteArray), (⟨#[50]⟩ : ByteArray)⟩ : S35)] : List (S35)))).bind fun t172 => (if t172 = true then ((pairs_Holds.f y163 y166 true).bind fun t173 => (if t173 = true then ((pairs_Holds.f y163 y166 false).bind fun t174 => (if t174 = true then (none) else (some true))) else (none))) else (none))) = some r := by rw [if_pos rfl] at H; exact H
      clear H
      have H := H1
      clear H1
      obtain ⟨y169, hy169⟩ : ∃ y_ : List (S35), y_ = (([(⟨(⟨#[97]⟩ : ByteArray), (⟨#[51]⟩ : ByteArray)⟩ : S35), (⟨(⟨#[98]⟩ : ByteArray), (⟨#[50]⟩ : ByteArray)⟩ : S35)] : List (S35))) := ⟨_, rfl⟩
      replace H : ((tollref04_Same.f k t160 y169).bind fun t172 => (if t172 = true then ((pairs_Holds.f y163 y166 true).bind fun t173 => (if t173 = true then ((pairs_Holds.f y163 y166 false).bind fun t174 => (if t174 = true then (none) else (some true))) else (none))) else (none))) = some r := by first | (rw [hy169]; with_reducible exact H) | (have H2_ := (Option.bind_some _ _).symm.trans H; rw [hy169]; with_reducible exact H2_) | (have H2_ := (Option.bind_some _ _).symm.trans H; with_reducible exact H2_) | with_reducible exact H | (rw [hy169]; exact H) | exact H
      have Ny169 := Aside0.mk hy169
      clear hy169
      replace H := Option.bind_eq_some_iff.mp H
      obtain ⟨t172, A50, H⟩ := H
      replace H : (if t172 = true then ((pairs_Holds.f y163 y166 true).bind fun t173 => (if t173 = true then ((pairs_Holds.f y163 y166 false).bind fun t174 => (if t174 = true then (none) else (some true))) else (none))) else (none)) = some r := H
      have A5 := Aside0.mk A50
      clear A50
      by_cases c6 : t172 = true
      · subst c6
        have H1 : ((pairs_Holds.f y163 y166 true).bind fun t173 => (if t173 = true then ((pairs_Holds.f y163 y166 false).bind fun t174 => (if t174 = true then (none) else (some true))) else (none))) = some r := by rw [if_pos rfl] at H; exact H
        clear H
        have H := H1
        clear H1
        replace H := Option.bind_eq_some_iff.mp H
        obtain ⟨t173, A70, H⟩ := H
        replace H : (if t173 = true then ((pairs_Holds.f y163 y166 false).bind fun t174 => (if t174 = true then (none) else (some true))) else (none)) = some r := H
        have A7 := Aside0.mk A70
        clear A70
        by_cases c8 : t173 = true
        · subst c8
          have H1 : ((pairs_Holds.f y163 y166 false).bind fun t174 => (if t174 = true then (none) else (some true))) = some r := by rw [if_pos rfl] at H; exact H
          clear H
          have H := H1
          clear H1
          replace H := Option.bind_eq_some_iff.mp H
          obtain ⟨t174, A90, H⟩ := H
          replace H : (if t174 = true then (none) else (some true)) = some r := H
          have A9 := Aside0.mk A90
          clear A90
          by_cases c10 : t174 = true
          · subst c10
            have H1 : (none) = some r := by rw [if_pos rfl] at H; exact H
            clear H
            have H := H1
            clear H1
            exact absurd H (by simp)
          · replace c10 := Bool.eq_false_iff.mpr c10
            subst c10
            have H1 : (some true) = some r := by rw [if_neg (show ¬ (false = true) by decide)] at H; exact H
            clear H
            have H := H1
            clear H1
            obtain rfl := Option.some.inj H
            go_enter Tryd.func16, Tryd.ntmps16
            go_wp2_with (first | ((with_reducible refine gate_dst (N := 8) rfl ?_); (try (refine gate_guard (by rfl) ?_; dsimp only)); refine Kd.R_lit k35 _ 35 ?hg (N := 8) ?hd (xs := ([(⟨(⟨#[104, 111, 115, 116]⟩ : ByteArray), (⟨#[97]⟩ : ByteArray)⟩ : S35)] : List (S35))) (inner := [.string (⟨#[104, 111, 115, 116]⟩ : ByteArray), .string (⟨#[97]⟩ : ByteArray)]) (ok := fun _ => True) (okp := fun _ => True) ?hr ?hp (fun _ hk => hk) trivial (Below.refl _ _) (Nat.le_refl _) (by simp) ?_; (case hd => rfl); (case hg => rfl); (case hr => first | (go_simp; done) | (go_simp; rfl)); (case hp => exact (Reps.c2 (show Kd.M k35 _ _ _ (⟨(⟨#[104, 111, 115, 116]⟩ : ByteArray), (⟨#[97]⟩ : ByteArray)⟩ : S35) [.string (⟨#[104, 111, 115, 116]⟩ : ByteArray), .string (⟨#[97]⟩ : ByteArray)] from (k35_mkM _ _ _ (⟨(⟨#[104, 111, 115, 116]⟩ : ByteArray), (⟨#[97]⟩ : ByteArray)⟩ : S35) )) (Reps.none _ _))); intro v153 w11 ho12 hb hg_ hnew_; clear hg_ hnew_; (first | rw [← Ny152.out] at ho12 | (simp only [Int.reduceToNat] at ho12; rw [← Ny152.out] at ho12)); have n0_ := Aside0.mk (Kd.R_lower ho12 (below_size (by repeat (first | (with_reducible first | exact HB.out | apply below_alloc | apply pw_below_drewN | apply below_drew1) | exact HB.out)))); have n1_ := Aside0.mk (below_step (by repeat (first | (with_reducible first | exact HB.out | apply below_alloc | apply pw_below_drewN | apply below_drew1) | exact HB.out)) hb); clear HB; have HO154 := n0_; have HB := n1_; clear n0_ n1_; clear hb ho12; obtain ⟨Ao13, co13, eo13⟩ := Kd.R_slice HO154.out; subst eo13) | ((with_reducible refine gate_callee (f := 7) rfl ?_); refine goesL_ (some 9) rfl rfl Tryd.func7 (by kernel_rfl) rfl #[.slice Ao13 y152.length co13, .string (⟨#[72, 111, 115, 116]⟩ : ByteArray)] rfl (by (try simp only [List.map_toArray, List.map_cons, List.map_nil]); first | done | rfl | (simp only [List.length_drop, List.length_take]; rfl)) ?_; (with_reducible refine (pairs_Get.calls _ _ y152 (⟨#[72, 111, 115, 116]⟩ : ByteArray) t155 true _ ?side1 ?side2 A1.out).mono ?_); (case side1 => repeat (first | exact (Kd.R_reads' HO154.out).2.2 | (with_reducible refine Kd.C_alloc ?_ _) | (with_reducible refine Kd.C_drewN ?_ _) | (with_reducible refine Kd.C_drew ?_))); (case side2 => exact (Kd.R_reads' HO154.out).2.1); rintro e w14 ⟨rfl, hb⟩; refine ⟨_, rfl, ?_⟩; have n0_ := Aside0.mk (Kd.R_below (by (with_reducible repeat (first | apply Kd.R_alloc | apply Kd.R_drewN | apply Kd.R_drew)); exact HO154.out) hb); have n1_ := Aside0.mk (below_step (by repeat (first | (with_reducible first | exact HB.out | apply below_alloc | apply pw_below_drewN | apply below_drew1) | exact HB.out)) hb); clear HO154; clear HB; have HO154 := n0_; have HB := n1_; clear n0_ n1_; (try clear hb); (try clear hb2); (try clear hk); (try clear hi)) | ((with_reducible refine gate_dst (N := 15) rfl ?_); (try (refine gate_guard (by rfl) ?_; dsimp only)); refine Kd.R_lit k35 _ 35 ?hg (N := 15) ?hd (xs := ([(⟨(⟨#[97]⟩ : ByteArray), (⟨#[49]⟩ : ByteArray)⟩ : S35), (⟨(⟨#[98]⟩ : ByteArray), (⟨#[50]⟩ : ByteArray)⟩ : S35), (⟨(⟨#[65]⟩ : ByteArray), (⟨#[52]⟩ : ByteArray)⟩ : S35)] : List (S35))) (inner := [.string (⟨#[97]⟩ : ByteArray), .string (⟨#[49]⟩ : ByteArray), .string (⟨#[98]⟩ : ByteArray), .string (⟨#[50]⟩ : ByteArray), .string (⟨#[65]⟩ : ByteArray), .string (⟨#[52]⟩ : ByteArray)]) (ok := fun _ => True) (okp := fun _ => True) ?hr ?hp (fun _ hk => hk) trivial (Below.refl _ _) (Nat.le_refl _) (by simp) ?_; (case hd => rfl); (case hg => rfl); (case hr => first | (go_simp; done) | (go_simp; rfl)); (case hp => exact (Reps.c2 (show Kd.M k35 _ _ _ (⟨(⟨#[97]⟩ : ByteArray), (⟨#[49]⟩ : ByteArray)⟩ : S35) [.string (⟨#[97]⟩ : ByteArray), .string (⟨#[49]⟩ : ByteArray)] from (k35_mkM _ _ _ (⟨(⟨#[97]⟩ : ByteArray), (⟨#[49]⟩ : ByteArray)⟩ : S35) )) (Reps.c2 (show Kd.M k35 _ _ _ (⟨(⟨#[98]⟩ : ByteArray), (⟨#[50]⟩ : ByteArray)⟩ : S35) [.string (⟨#[98]⟩ : ByteArray), .string (⟨#[50]⟩ : ByteArray)] from (k35_mkM _ _ _ (⟨(⟨#[98]⟩ : ByteArray), (⟨#[50]⟩ : ByteArray)⟩ : S35) )) (Reps.c2 (show Kd.M k35 _ _ _ (⟨(⟨#[65]⟩ : ByteArray), (⟨#[52]⟩ : ByteArray)⟩ : S35) [.string (⟨#[65]⟩ : ByteArray), .string (⟨#[52]⟩ : ByteArray)] from (k35_mkM _ _ _ (⟨(⟨#[65]⟩ : ByteArray), (⟨#[52]⟩ : ByteArray)⟩ : S35) )) (Reps.none _ _))))); intro v158 w15 ho16 hb hg_ hnew_; clear hg_ hnew_; (first | rw [← Ny157.out] at ho16 | (simp only [Int.reduceToNat] at ho16; rw [← Ny157.out] at ho16)); have n0_ := Aside0.mk (Kd.R_elder' (by (with_reducible repeat (first | apply Kd.R_alloc | apply Kd.R_drewN | apply Kd.R_drew)); exact HO154.out) (Kd.R_base ho16) hb); have n1_ := Aside0.mk (Kd.R_lower (Kd.R_new' ho16 (Kd.R_lt (by (with_reducible repeat (first | apply Kd.R_alloc | apply Kd.R_drewN | apply Kd.R_drew)); exact HO154.out))) (below_size (by repeat (first | (with_reducible first | exact HB.out | apply below_alloc | apply pw_below_drewN | apply below_drew1) | exact HB.out)))); have n2_ := Aside0.mk (below_step (by repeat (first | (with_reducible first | exact HB.out | apply below_alloc | apply pw_below_drewN | apply below_drew1) | exact HB.out)) hb); clear HO154; clear HB; have HO154 := n0_; have HO159 := n1_; have HB := n2_; clear n0_ n1_ n2_; clear hb ho16; obtain ⟨Ao17, co17, eo17⟩ := Kd.R_slice HO159.out; subst eo17) | ((with_reducible refine gate_callee (f := 22) rfl ?_); refine goesL_ (some 16) rfl rfl Tryd.func22 (by kernel_rfl) rfl #[.slice Ao17 y157.length co17, .string (⟨#[97]⟩ : ByteArray), .string (⟨#[51]⟩ : ByteArray)] rfl (by (try simp only [List.map_toArray, List.map_cons, List.map_nil]); first | done | rfl | (simp only [List.length_drop, List.length_take]; rfl)) ?_; (with_reducible refine (pairs_Set.calls _ _ y157 (⟨#[97]⟩ : ByteArray) (⟨#[51]⟩ : ByteArray) t160 _ ?side1 ?side2 A2.out).mono ?_); (case side1 => repeat (first | exact (Kd.R_reads' HO159.out).2.2 | (with_reducible refine Kd.C_alloc ?_ _) | (with_reducible refine Kd.C_drewN ?_ _) | (with_reducible refine Kd.C_drew ?_))); (case side2 => exact (Kd.R_reads' HO159.out).2.1); rintro e w18 ⟨v161, rfl, ho0, hb⟩; refine ⟨_, rfl, ?_⟩; have n0_ := Aside0.mk (Kd.R_elder' (by (with_reducible repeat (first | apply Kd.R_alloc | apply Kd.R_drewN | apply Kd.R_drew)); exact HO154.out) (Kd.R_base ho0) hb); have n1_ := Aside0.mk (Kd.R_elder' (by (with_reducible repeat (first | apply Kd.R_alloc | apply Kd.R_drewN | apply Kd.R_drew)); exact HO159.out) (Kd.R_base ho0) hb); have n2_ := Aside0.mk (Kd.R_lower (Kd.R_new' (Kd.R_new' ho0 (Kd.R_lt (by (with_reducible repeat (first | apply Kd.R_alloc | apply Kd.R_drewN | apply Kd.R_drew)); exact HO154.out))) (Kd.R_lt (by (with_reducible repeat (first | apply Kd.R_alloc | apply Kd.R_drewN | apply Kd.R_drew)); exact HO159.out))) (below_size (by repeat (first | (with_reducible first | exact HB.out | apply below_alloc | apply pw_below_drewN | apply below_drew1) | exact HB.out)))); have n3_ := Aside0.mk (below_step (by repeat (first | (with_reducible first | exact HB.out | apply below_alloc | apply pw_below_drewN | apply below_drew1) | exact HB.out)) hb); clear HO154; clear HO159; clear HB; have HO154 := n0_; have HO159 := n1_; have HO162 := n2_; have HB := n3_; clear n0_ n1_ n2_ n3_; (try clear hb); (try clear hb2); (try clear hk); (try clear hi); (try clear ho0)) | ((with_reducible refine gate_dst (N := 18) rfl ?_); (try (refine gate_guard (by rfl) ?_; dsimp only)); refine Kd.R_lit k35 _ 35 ?hg (N := 18) ?hd (xs := ([(⟨(⟨#[120]⟩ : ByteArray), (⟨#[49]⟩ : ByteArray)⟩ : S35)] : List (S35))) (inner := [.string (⟨#[120]⟩ : ByteArray), .string (⟨#[49]⟩ : ByteArray)]) (ok := fun _ => True) (okp := fun _ => True) ?hr ?hp (fun _ hk => hk) trivial (Below.refl _ _) (Nat.le_refl _) (by simp) ?_; (case hd => rfl); (case hg => rfl); (case hr => first | (go_simp; done) | (go_simp; rfl)); (case hp => exact (Reps.c2 (show Kd.M k35 _ _ _ (⟨(⟨#[120]⟩ : ByteArray), (⟨#[49]⟩ : ByteArray)⟩ : S35) [.string (⟨#[120]⟩ : ByteArray), .string (⟨#[49]⟩ : ByteArray)] from (k35_mkM _ _ _ (⟨(⟨#[120]⟩ : ByteArray), (⟨#[49]⟩ : ByteArray)⟩ : S35) )) (Reps.none _ _))); intro v164 w19 ho20 hb hg_ hnew_; clear hg_ hnew_; (first | rw [← Ny163.out] at ho20 | (simp only [Int.reduceToNat] at ho20; rw [← Ny163.out] at ho20)); have n0_ := Aside0.mk (Kd.R_elder' (by (with_reducible repeat (first | apply Kd.R_alloc | apply Kd.R_drewN | apply Kd.R_drew)); exact HO154.out) (Kd.R_base ho20) hb); have n1_ := Aside0.mk (Kd.R_elder' (by (with_reducible repeat (first | apply Kd.R_alloc | apply Kd.R_drewN | apply Kd.R_drew)); exact HO159.out) (Kd.R_base ho20) hb); have n2_ := Aside0.mk (Kd.R_elder' (by (with_reducible repeat (first | apply Kd.R_alloc | apply Kd.R_drewN | apply Kd.R_drew)); exact HO162.out) (Kd.R_base ho20) hb); have n3_ := Aside0.mk (Kd.R_lower (Kd.R_new' (Kd.R_new' (Kd.R_new' ho20 (Kd.R_lt (by (with_reducible repeat (first | apply Kd.R_alloc | apply Kd.R_drewN | apply Kd.R_drew)); exact HO154.out))) (Kd.R_lt (by (with_reducible repeat (first | apply Kd.R_alloc | apply Kd.R_drewN | apply Kd.R_drew)); exact HO159.out))) (Kd.R_lt (by (with_reducible repeat (first | apply Kd.R_alloc | apply Kd.R_drewN | apply Kd.R_drew)); exact HO162.out))) (below_size (by repeat (first | (with_reducible first | exact HB.out | apply below_alloc | apply pw_below_drewN | apply below_drew1) | exact HB.out)))); have n4_ := Aside0.mk (below_step (by repeat (first | (with_reducible first | exact HB.out | apply below_alloc | apply pw_below_drewN | apply below_drew1) | exact HB.out)) hb); clear HO154; clear HO159; clear HO162; clear HB; have HO154 := n0_; have HO159 := n1_; have HO162 := n2_; have HO165 := n3_; have HB := n4_; clear n0_ n1_ n2_ n3_ n4_; clear hb ho20) | ((with_reducible refine gate_dst (N := 20) rfl ?_); (try (refine gate_guard (by rfl) ?_; dsimp only)); refine Kd.R_lit k35 _ 35 ?hg (N := 20) ?hd (xs := ([(⟨(⟨#[88]⟩ : ByteArray), (⟨#[49]⟩ : ByteArray)⟩ : S35)] : List (S35))) (inner := [.string (⟨#[88]⟩ : ByteArray), .string (⟨#[49]⟩ : ByteArray)]) (ok := fun _ => True) (okp := fun _ => True) ?hr ?hp (fun _ hk => hk) trivial (Below.refl _ _) (Nat.le_refl _) (by simp) ?_; (case hd => rfl); (case hg => rfl); (case hr => first | (go_simp; done) | (go_simp; rfl)); (case hp => exact (Reps.c2 (show Kd.M k35 _ _ _ (⟨(⟨#[88]⟩ : ByteArray), (⟨#[49]⟩ : ByteArray)⟩ : S35) [.string (⟨#[88]⟩ : ByteArray), .string (⟨#[49]⟩ : ByteArray)] from (k35_mkM _ _ _ (⟨(⟨#[88]⟩ : ByteArray), (⟨#[49]⟩ : ByteArray)⟩ : S35) )) (Reps.none _ _))); intro v167 w21 ho22 hb hg_ hnew_; clear hg_ hnew_; (first | rw [← Ny166.out] at ho22 | (simp only [Int.reduceToNat] at ho22; rw [← Ny166.out] at ho22)); have n0_ := Aside0.mk (Kd.R_elder' (by (with_reducible repeat (first | apply Kd.R_alloc | apply Kd.R_drewN | apply Kd.R_drew)); exact HO154.out) (Kd.R_base ho22) hb); have n1_ := Aside0.mk (Kd.R_elder' (by (with_reducible repeat (first | apply Kd.R_alloc | apply Kd.R_drewN | apply Kd.R_drew)); exact HO159.out) (Kd.R_base ho22) hb); have n2_ := Aside0.mk (Kd.R_elder' (by (with_reducible repeat (first | apply Kd.R_alloc | apply Kd.R_drewN | apply Kd.R_drew)); exact HO162.out) (Kd.R_base ho22) hb); have n3_ := Aside0.mk (Kd.R_elder' (by (with_reducible repeat (first | apply Kd.R_alloc | apply Kd.R_drewN | apply Kd.R_drew)); exact HO165.out) (Kd.R_base ho22) hb); have n4_ := Aside0.mk (Kd.R_lower (Kd.R_new' (Kd.R_new' (Kd.R_new' (Kd.R_new' ho22 (Kd.R_lt (by (with_reducible repeat (first | apply Kd.R_alloc | apply Kd.R_drewN | apply Kd.R_drew)); exact HO154.out))) (Kd.R_lt (by (with_reducible repeat (first | apply Kd.R_alloc | apply Kd.R_drewN | apply Kd.R_drew)); exact HO159.out))) (Kd.R_lt (by (with_reducible repeat (first | apply Kd.R_alloc | apply Kd.R_drewN | apply Kd.R_drew)); exact HO162.out))) (Kd.R_lt (by (with_reducible repeat (first | apply Kd.R_alloc | apply Kd.R_drewN | apply Kd.R_drew)); exact HO165.out))) (below_size (by repeat (first | (with_reducible first | exact HB.out | apply below_alloc | apply pw_below_drewN | apply below_drew1) | exact HB.out)))); have n5_ := Aside0.mk (below_step (by repeat (first | (with_reducible first | exact HB.out | apply below_alloc | apply pw_below_drewN | apply below_drew1) | exact HB.out)) hb); clear HO154; clear HO159; clear HO162; clear HO165; clear HB; have HO154 := n0_; have HO159 := n1_; have HO162 := n2_; have HO165 := n3_; have HO168 := n4_; have HB := n5_; clear n0_ n1_ n2_ n3_ n4_ n5_; clear hb ho22) | ((with_reducible refine gate_dst (N := 30) rfl ?_); (try (refine gate_guard (by rfl) ?_; dsimp only)); refine Kd.R_lit k35 _ 35 ?hg (N := 30) ?hd (xs := ([(⟨(⟨#[97]⟩ : ByteArray), (⟨#[51]⟩ : ByteArray)⟩ : S35), (⟨(⟨#[98]⟩ : ByteArray), (⟨#[50]⟩ : ByteArray)⟩ : S35)] : List (S35))) (inner := [.string (⟨#[97]⟩ : ByteArray), .string (⟨#[51]⟩ : ByteArray), .string (⟨#[98]⟩ : ByteArray), .string (⟨#[50]⟩ : ByteArray)]) (ok := fun _ => True) (okp := fun _ => True) ?hr ?hp (fun _ hk => hk) trivial (Below.refl _ _) (Nat.le_refl _) (by simp) ?_; (case hd => rfl); (case hg => rfl); (case hr => first | (go_simp; done) | (go_simp; rfl)); (case hp => exact (Reps.c2 (show Kd.M k35 _ _ _ (⟨(⟨#[97]⟩ : ByteArray), (⟨#[51]⟩ : ByteArray)⟩ : S35) [.string (⟨#[97]⟩ : ByteArray), .string (⟨#[51]⟩ : ByteArray)] from (k35_mkM _ _ _ (⟨(⟨#[97]⟩ : ByteArray), (⟨#[51]⟩ : ByteArray)⟩ : S35) )) (Reps.c2 (show Kd.M k35 _ _ _ (⟨(⟨#[98]⟩ : ByteArray), (⟨#[50]⟩ : ByteArray)⟩ : S35) [.string (⟨#[98]⟩ : ByteArray), .string (⟨#[50]⟩ : ByteArray)] from (k35_mkM _ _ _ (⟨(⟨#[98]⟩ : ByteArray), (⟨#[50]⟩ : ByteArray)⟩ : S35) )) (Reps.none _ _)))); intro v170 w23 ho24 hb hg_ hnew_; clear hg_ hnew_; (first | rw [← Ny169.out] at ho24 | (simp only [Int.reduceToNat] at ho24; rw [← Ny169.out] at ho24)); have n0_ := Aside0.mk (Kd.R_elder' (by (with_reducible repeat (first | apply Kd.R_alloc | apply Kd.R_drewN | apply Kd.R_drew)); exact HO154.out) (Kd.R_base ho24) hb); have n1_ := Aside0.mk (Kd.R_elder' (by (with_reducible repeat (first | apply Kd.R_alloc | apply Kd.R_drewN | apply Kd.R_drew)); exact HO159.out) (Kd.R_base ho24) hb); have n2_ := Aside0.mk (Kd.R_elder' (by (with_reducible repeat (first | apply Kd.R_alloc | apply Kd.R_drewN | apply Kd.R_drew)); exact HO162.out) (Kd.R_base ho24) hb); have n3_ := Aside0.mk (Kd.R_elder' (by (with_reducible repeat (first | apply Kd.R_alloc | apply Kd.R_drewN | apply Kd.R_drew)); exact HO165.out) (Kd.R_base ho24) hb); have n4_ := Aside0.mk (Kd.R_elder' (by (with_reducible repeat (first | apply Kd.R_alloc | apply Kd.R_drewN | apply Kd.R_drew)); exact HO168.out) (Kd.R_base ho24) hb); have n5_ := Aside0.mk (Kd.R_lower (Kd.R_new' (Kd.R_new' (Kd.R_new' (Kd.R_new' (Kd.R_new' ho24 (Kd.R_lt (by (with_reducible repeat (first | apply Kd.R_alloc | apply Kd.R_drewN | apply Kd.R_drew)); exact HO154.out))) (Kd.R_lt (by (with_reducible repeat (first | apply Kd.R_alloc | apply Kd.R_drewN | apply Kd.R_drew)); exact HO159.out))) (Kd.R_lt (by (with_reducible repeat (first | apply Kd.R_alloc | apply Kd.R_drewN | apply Kd.R_drew)); exact HO162.out))) (Kd.R_lt (by (with_reducible repeat (first | apply Kd.R_alloc | apply Kd.R_drewN | apply Kd.R_drew)); exact HO165.out))) (Kd.R_lt (by (with_reducible repeat (first | apply Kd.R_alloc | apply Kd.R_drewN | apply Kd.R_drew)); exact HO168.out))) (below_size (by repeat (first | (with_reducible first | exact HB.out | apply below_alloc | apply pw_below_drewN | apply below_drew1) | exact HB.out)))); have n6_ := Aside0.mk (below_step (by repeat (first | (with_reducible first | exact HB.out | apply below_alloc | apply pw_below_drewN | apply below_drew1) | exact HB.out)) hb); clear HO154; clear HO159; clear HO162; clear HO165; clear HO168; clear HB; have HO154 := n0_; have HO159 := n1_; have HO162 := n2_; have HO165 := n3_; have HO168 := n4_; have HO171 := n5_; have HB := n6_; clear n0_ n1_ n2_ n3_ n4_ n5_ n6_; clear hb ho24; obtain ⟨Ao25, co25, eo25⟩ := Kd.R_slice HO162.out; subst eo25; obtain ⟨Ao26, co26, eo26⟩ := Kd.R_slice HO171.out; subst eo26) | (go_at_call 23; (with_reducible refine (tollref04_Same.calls k _ _ t160 _ _ y169 true _ ?side1 ?side2 ?side3 ?side4 A5.out).mono ?_); (case side1 => repeat (first | exact (Kd.R_reads' HO162.out).2.2 | (with_reducible refine Kd.C_alloc ?_ _) | (with_reducible refine Kd.C_drewN ?_ _) | (with_reducible refine Kd.C_drew ?_))); (case side2 => exact (Kd.R_reads' HO162.out).2.1); (case side3 => repeat (first | exact (Kd.R_reads' HO171.out).2.2 | (with_reducible refine Kd.C_alloc ?_ _) | (with_reducible refine Kd.C_drewN ?_ _) | (with_reducible refine Kd.C_drew ?_))); (case side4 => exact (Kd.R_reads' HO171.out).2.1); rintro e w' ⟨rfl, ⟨nd, rfl⟩⟩; obtain ⟨Ao27, co27, eo27⟩ := Kd.R_slice HO165.out; subst eo27; obtain ⟨Ao28, co28, eo28⟩ := Kd.R_slice HO168.out; subst eo28) | (go_at_call 24; (with_reducible refine (pairs_Holds.calls _ _ y163 _ _ y166 true true _ ?side1 ?side2 ?side3 ?side4 A7.out).mono ?_); (case side1 => repeat (first | exact (Kd.R_reads' HO165.out).2.2 | (with_reducible refine Kd.C_alloc ?_ _) | (with_reducible refine Kd.C_drewN ?_ _) | (with_reducible refine Kd.C_drew ?_))); (case side2 => exact (Kd.R_reads' HO165.out).2.1); (case side3 => repeat (first | exact (Kd.R_reads' HO168.out).2.2 | (with_reducible refine Kd.C_alloc ?_ _) | (with_reducible refine Kd.C_drewN ?_ _) | (with_reducible refine Kd.C_drew ?_))); (case side4 => exact (Kd.R_reads' HO168.out).2.1); rintro e w29 ⟨rfl, hb⟩; have n0_ := Aside0.mk (Kd.R_below (by (with_reducible repeat (first | apply Kd.R_alloc | apply Kd.R_drewN | apply Kd.R_drew)); exact HO154.out) hb); have n1_ := Aside0.mk (Kd.R_below (by (with_reducible repeat (first | apply Kd.R_alloc | apply Kd.R_drewN | apply Kd.R_drew)); exact HO159.out) hb); have n2_ := Aside0.mk (Kd.R_below (by (with_reducible repeat (first | apply Kd.R_alloc | apply Kd.R_drewN | apply Kd.R_drew)); exact HO162.out) hb); have n3_ := Aside0.mk (Kd.R_below (by (with_reducible repeat (first | apply Kd.R_alloc | apply Kd.R_drewN | apply Kd.R_drew)); exact HO165.out) hb); have n4_ := Aside0.mk (Kd.R_below (by (with_reducible repeat (first | apply Kd.R_alloc | apply Kd.R_drewN | apply Kd.R_drew)); exact HO168.out) hb); have n5_ := Aside0.mk (Kd.R_below (by (with_reducible repeat (first | apply Kd.R_alloc | apply Kd.R_drewN | apply Kd.R_drew)); exact HO171.out) hb); have n6_ := Aside0.mk (below_step (by repeat (first | (with_reducible first | exact HB.out | apply below_alloc | apply pw_below_drewN | apply below_drew1) | exact HB.out)) hb); clear HO154; clear HO159; clear HO162; clear HO165; clear HO168; clear HO171; clear HB; have HO154 := n0_; have HO159 := n1_; have HO162 := n2_; have HO165 := n3_; have HO168 := n4_; have HO171 := n5_; have HB := n6_; clear n0_ n1_ n2_ n3_ n4_ n5_ n6_; (try clear hb); (try clear hb2); (try clear hk); (try clear hi)) | (go_at_call 24; (with_reducible refine (pairs_Holds.calls _ _ y163 _ _ y166 false false _ ?side1 ?side2 ?side3 ?side4 A9.out).mono ?_); (case side1 => repeat (first | exact (Kd.R_reads' HO165.out).2.2 | (with_reducible refine Kd.C_alloc ?_ _) | (with_reducible refine Kd.C_drewN ?_ _) | (with_reducible refine Kd.C_drew ?_))); (case side2 => exact (Kd.R_reads' HO165.out).2.1); (case side3 => repeat (first | exact (Kd.R_reads' HO168.out).2.2 | (with_reducible refine Kd.C_alloc ?_ _) | (with_reducible refine Kd.C_drewN ?_ _) | (with_reducible refine Kd.C_drew ?_))); (case side4 => exact (Kd.R_reads' HO168.out).2.1); rintro e w30 ⟨rfl, hb⟩; have n0_ := Aside0.mk (Kd.R_below (by (with_reducible repeat (first | apply Kd.R_alloc | apply Kd.R_drewN | apply Kd.R_drew)); exact HO154.out) hb); have n1_ := Aside0.mk (Kd.R_below (by (with_reducible repeat (first | apply Kd.R_alloc | apply Kd.R_drewN | apply Kd.R_drew)); exact HO159.out) hb); have n2_ := Aside0.mk (Kd.R_below (by (with_reducible repeat (first | apply Kd.R_alloc | apply Kd.R_drewN | apply Kd.R_drew)); exact HO162.out) hb); have n3_ := Aside0.mk (Kd.R_below (by (with_reducible repeat (first | apply Kd.R_alloc | apply Kd.R_drewN | apply Kd.R_drew)); exact HO165.out) hb); have n4_ := Aside0.mk (Kd.R_below (by (with_reducible repeat (first | apply Kd.R_alloc | apply Kd.R_drewN | apply Kd.R_drew)); exact HO168.out) hb); have n5_ := Aside0.mk (Kd.R_below (by (with_reducible repeat (first | apply Kd.R_alloc | apply Kd.R_drewN | apply Kd.R_drew)); exact HO171.out) hb); have n6_ := Aside0.mk (below_step (by repeat (first | (with_reducible first | exact HB.out | apply below_alloc | apply pw_below_drewN | apply below_drew1) | exact HB.out)) hb); clear HO154; clear HO159; clear HO162; clear HO165; clear HO168; clear HO171; clear HB; have HO154 := n0_; have HO159 := n1_; have HO162 := n2_; have HO165 := n3_; have HO168 := n4_; have HO171 := n5_; have HB := n6_; clear n0_ n1_ n2_ n3_ n4_ n5_ n6_; (try clear hb); (try clear hb2); (try clear hk); (try clear hi)))
            go_ret
            exact ⟨by first | rfl | (simp [errW_none, errW_some] <;> rfl) | (simp [*, errW_none, errW_some] <;> rfl), by repeat (first | (with_reducible first | exact HB.out | apply below_alloc | apply pw_below_drewN | apply below_drew1) | exact HB.out)⟩
        · replace c8 := Bool.eq_false_iff.mpr c8
          subst c8
          have H1 : (none) = some r := by rw [if_neg (show ¬ (false = true) by decide)] at H; exact H
          clear H
          have H := H1
          clear H1
          exact absurd H (by simp)
      · replace c6 := Bool.eq_false_iff.mpr c6
        subst c6
        have H1 : (none) = some r := by rw [if_neg (show ¬ (false = true) by decide)] at H; exact H
        clear H
        have H := H1
        clear H1
        exact absurd H (by simp)
    · replace c4 := Bool.eq_false_iff.mpr c4
      subst c4
      have H1 : (none) = some r := by rw [if_neg (show ¬ (false = true) by decide)] at H; exact H
      clear H
      have H := H1
      clear H1
      exact absurd H (by simp)
  · rw [if_neg c3] at H
    exact absurd H (by simp)

end Go.Proofs.YtnldeohdojemlaaDoor.P
