-- written by wip/tool/hprint.py of this repo: the kit's print, with contracts by hand joined; Lean checks it.
import Derived.Test.YtfdopmjgiakcdaaGreatDoorPx0
import Derived.Test.YtfdopmjgiakcdaaGreatDoorPx4
namespace Go.Proofs.YtfdopmjgiakcdaaGreatDoor.P
open Go.RowKit Go.Proofs.YtfdopmjgiakcdaaGreatDoorW.PrintWords Go.Proofs.YtfdopmjgiakcdaaGreatDoorW.PrintLast Go.Proofs.YtfdopmjgiakcdaaGreatDoorW.PrintMore
attribute [local go_sem] max2_int min2_int max_two min_two max_three min_three max_four min_four   -- for this text's walks alone
set_option linter.unusedVariables false
set_option linter.unusedSimpArgs false

/-! ### dns_octet: function 96 -/
def dns_octet.f (a0 : Int) : Option (Bool) := if a0 ≥ 97 then (if a0 ≤ 122 then (some true) else (if a0 ≥ 48 then (if a0 ≤ 57 then (some true) else (some (a0 == 45))) else (some (a0 == 45)))) else (if a0 ≥ 48 then (if a0 ≤ 57 then (some true) else (some (a0 == 45))) else (some (a0 == 45)))
set_option maxHeartbeats 8000000 in
set_option maxRecDepth 100000 in
theorem dns_octet.calls (a0 : Int) (r : Bool) (w : World) (h : dns_octet.f a0 = some r) :
  Calls Tryz.prog 96 #[.int .i32 a0] w fun e w' => e = .returned (.bool r) ∧ Drawn0 w w' := by
 have H : (if a0 ≥ 97 then (if a0 ≤ 122 then (some true) else (if a0 ≥ 48 then (if a0 ≤ 57 then (some true) else (some (a0 == 45))) else (some (a0 == 45)))) else (if a0 ≥ 48 then (if a0 ≤ 57 then (some true) else (some (a0 == 45))) else (some (a0 == 45)))) = some r := h;clear h;by_cases c2 : a0 ≥ 97
 ·rw [if_pos c2] at H
  have pa := decide_eq_true c2;clear c2;by_cases c3 : a0 ≤ 122
  ·rw [if_pos c3] at H
   have pb := decide_eq_true c3;clear c3;obtain rfl := Option.some.inj H;go_enter Tryz.func96, Tryz.ntmps96;go_wp2;go_ret;exact ⟨sd_, dr_⟩
  ·rw [if_neg c3] at H
   have pb := decide_eq_false c3;clear c3;by_cases c4 : a0 ≥ 48
   ·rw [if_pos c4] at H
    have pc := decide_eq_true c4;clear c4;by_cases c5 : a0 ≤ 57
    ·rw [if_pos c5] at H
     have pd := decide_eq_true c5;clear c5;obtain rfl := Option.some.inj H;go_enter Tryz.func96, Tryz.ntmps96;go_wp2;go_ret;exact ⟨sd_, dr_⟩
    ·rw [if_neg c5] at H
     have pd := decide_eq_false c5;clear c5;obtain rfl := Option.some.inj H;go_enter Tryz.func96, Tryz.ntmps96;go_wp2;go_ret;exact ⟨sd_, dr_⟩
   ·rw [if_neg c4] at H
    have pc := decide_eq_false c4;clear c4;obtain rfl := Option.some.inj H;go_enter Tryz.func96, Tryz.ntmps96;go_wp2;go_ret;exact ⟨sd_, dr_⟩
 ·rw [if_neg c2] at H
  have pa := decide_eq_false c2;clear c2;by_cases c6 : a0 ≥ 48
  ·rw [if_pos c6] at H
   have pf := decide_eq_true c6;clear c6;by_cases c7 : a0 ≤ 57
   ·rw [if_pos c7] at H
    have pg := decide_eq_true c7;clear c7;obtain rfl := Option.some.inj H;go_enter Tryz.func96, Tryz.ntmps96;go_wp2;go_ret;exact ⟨sd_, dr_⟩
   ·rw [if_neg c7] at H
    have pg := decide_eq_false c7;clear c7;obtain rfl := Option.some.inj H;go_enter Tryz.func96, Tryz.ntmps96;go_wp2;go_ret;exact ⟨sd_, dr_⟩
  ·rw [if_neg c6] at H
   have pf := decide_eq_false c6;clear c6;obtain rfl := Option.some.inj H;go_enter Tryz.func96, Tryz.ntmps96;go_wp2;go_ret;exact ⟨sd_, dr_⟩

/-- May an octet be in a label? -/
def octB (r : Nat) : Bool := (decide (97 ≤ r) && decide (r ≤ 122)) || ((decide (48 ≤ r) && decide (r ≤ 57)) || r == 45)
theorem octB_f (r : Nat) : dns_octet.f (r : Int) = some (octB r) := by
 have e : ((r : Int) == 45) = (r == 45) := by rw [Bool.eq_iff_iff, beq_iff_eq, beq_iff_eq]; omega
 unfold dns_octet.f octB
 rw [e]
 by_cases h1 : 97 ≤ r <;> by_cases h2 : r ≤ 122 <;> by_cases h3 : 48 ≤ r <;> by_cases h4 : r ≤ 57
 all_goals
  have g1 : (r : Int) ≥ 97 ↔ 97 ≤ r := by omega
  have g2 : (r : Int) ≤ 122 ↔ r ≤ 122 := by omega
  have g3 : (r : Int) ≥ 48 ↔ 48 ≤ r := by omega
  have g4 : (r : Int) ≤ 57 ↔ r ≤ 57 := by omega
  simp only [g1, g2, g3, g4, h1, h2, h3, h4, if_true, if_false, decide_true, decide_false, Bool.true_and, Bool.false_and, Bool.and_true, Bool.and_false, Bool.true_or, Bool.false_or]

/-! ### strings_IndexFunc: functions 97, 113 -/
/-- A function that tells of a rune. -/
def RuneAt (P : Program) (g : Nat) (p : Nat → Bool) : Prop := ∀ (W : World) (r : Nat), Calls P g #[.int .i32 (r : Int)] W fun e w' => e = .returned (.bool (p r)) ∧ Below W.heap.size W w'
/-- Where the first rune begins of which p holds, from a place on; -1: there is none. -/
def idxRuneFrom (p : Nat → Bool) (s : ByteArray) : Nat → Nat → Int
 | 0, _ => -1
 | f + 1, pos => if pos < s.size then (if p (Utf8.decode s pos).1 = true then (pos : Int) else idxRuneFrom p s f (pos + (Utf8.decode s pos).2)) else -1
def idxRune (p : Nat → Bool) (s : ByteArray) : Int := idxRuneFrom p s s.size 0
theorem idxRuneFrom_end (p : Nat → Bool) (s : ByteArray) (f pos : Nat) (h : ¬ pos < s.size) : idxRuneFrom p s f pos = -1 := by cases f <;> simp [idxRuneFrom, h]
/-- Where p holds of whatever is no octet of ASCII: there is no such rune just if it holds of no octet. -/
theorem idxRuneFrom_neg (p : Nat → Bool) (hp : ∀ r, 128 ≤ r → p r = true) (s : ByteArray) : ∀ (f pos : Nat), s.size ≤ pos + f → decide (idxRuneFrom p s f pos < 0) = (s.data.toList.drop pos).all (fun c => !p c.toNat)
 | 0, pos, h => by
  rw [List.drop_eq_nil_of_le (by rw [Array.length_toList]; exact h)]; rfl
 | f + 1, pos, h => by
  have hl : s.data.toList.length = s.size := Array.length_toList
  rw [idxRuneFrom]
  by_cases hps : pos < s.size
  ·rw [if_pos hps, List.drop_eq_getElem_cons (by omega), List.all_cons]
   have he : s.data.toList[pos]'(by omega) = s[pos]'hps := rfl
   rw [he]
   by_cases ha : (s[pos]'hps).toNat < 128
   ·rw [decode_ascii s pos hps ha]
    by_cases hq : p (s[pos]'hps).toNat = true
    ·rw [if_pos hq, hq]
     simp only [Bool.not_true, Bool.false_and]
     exact decide_eq_false (by omega)
    ·rw [if_neg hq, idxRuneFrom_neg p hp s f (pos + 1) (by omega)]
     have : p (s[pos]'hps).toNat = false := by simpa using hq
     rw [this]; rfl
   ·have h1 := hp _ (decode_high s pos hps (by omega)).1
    rw [if_pos h1, hp _ (by omega)]
    simp only [Bool.not_true, Bool.false_and]
    exact decide_eq_false (by omega)
  ·rw [if_neg hps, List.drop_eq_nil_of_le (by omega)]; rfl
theorem idxRune_neg (p : Nat → Bool) (hp : ∀ r, 128 ≤ r → p r = true) (s : ByteArray) : decide (idxRune p s < 0) = s.data.toList.all (fun c => !p c.toNat) := by
 have := idxRuneFrom_neg p hp s s.size 0 (by omega)
 rwa [List.drop_zero] at this
set_option maxHeartbeats 8000000 in
set_option maxRecDepth 100000 in
theorem strings_indexFunc_at (g : Nat) (eg : ∀ args W, (callFunc g args).run Tryz.prog W = .ok (.enter g args) W) (p : Nat → Bool) (s : ByteArray) (w : World) (hp : RuneAt Tryz.prog g p) :
  Calls Tryz.prog 113 #[.string s, .func (.func g) #[] #[], .bool true] w fun e w' => e = .returned (.int .i64 (idxRune p s)) ∧ Below w.heap.size w w' := by
 have HP := Aside0.mk hp
 clear hp
 go_enter Tryz.func113, Tryz.ntmps113
 go_wp2
 go_loopg [] s.size (fun gf wx => ∃ pos : Nat, Aside0 (wx.heap[w.heap.size]? = some (.stringIter s pos)) ∧ Aside0 (Below w.heap.size w wx) ∧ Aside0 (idxRuneFrom p s gf pos = idxRune p s) ∧ s.size ≤ pos + gf)
 case atStart => exact ⟨0, ⟨World.iter_heap w s 0⟩, ⟨(Below.refl _ w).alloc (Nat.le_refl _) _⟩, ⟨rfl⟩, by omega⟩
 case round =>
  obtain ⟨pos, IT, BW, LE, hfu⟩ := hrel
  by_cases hps : pos < s.size
  ·obtain ⟨g', rfl⟩ : ∃ g', gk = g' + 1 := ⟨gk - 1, by omega⟩
   have hnx : ∀ ty, (Instr.next (.pointer (some ⟨w.heap.size, 0, none⟩)) true ty).run Tryz.prog wr = _ := fun ty => Lib.run_next_any_at wr w.heap.size s pos ty IT.out hps
   have hwd := Lib.decode_width_pos s pos hps
   have hleft := LE.out
   rw [idxRuneFrom, if_pos hps] at hleft
   generalize (Utf8.decode s pos).1 = R at hnx hleft
   generalize (Utf8.decode s pos).2 = K at hnx hleft hwd
   have hit2 := Lib.iterAt_heap wr w.heap.size s pos (pos + K) IT.out
   have hbw2 := Lib.below_iterAt BW.out (k := w.heap.size) (Nat.le_refl _) s (pos + K)
   clear IT BW LE
   generalize wr.iterAt w.heap.size s (pos + K) = W at hnx hit2 hbw2
   have hS := HP.out W R
   have IT2 := Aside0.mk hit2
   have BW2 := Aside0.mk hbw2
   have LE2 := Aside0.mk hleft
   clear hit2 hbw2 hleft
   cases hq : p R with
   | true =>
    rw [hq] at hS LE2
    have HS := Aside0.mk hS
    clear hS hq
    go_wp2_with (go_at_fn g; refine HS.out.mono ?_; rintro e W' ⟨rfl, hb⟩; have HB := Aside0.mk hb; clear hb)
    go_ret
    exact ⟨by rw [← LE2.out, if_pos (by first | trivial | rfl)]; rfl, BW2.out.trans (HB.out.mono BW2.out.size)⟩
   | false =>
    rw [hq] at hS LE2
    have HS := Aside0.mk hS
    clear hS hq
    go_wp2_with (go_at_fn g; refine HS.out.mono ?_; rintro e W' ⟨rfl, hb⟩; have HB := Aside0.mk hb; clear hb)
    go_roundg g'
    case measure => omega
    case rel => exact ⟨pos + K, ⟨(HB.out.block _ (Array.getElem?_eq_some_iff.1 IT2.out).1).trans IT2.out⟩, ⟨BW2.out.trans (HB.out.mono BW2.out.size)⟩, ⟨by have := LE2.out; rwa [if_neg (by simp)] at this⟩, by omega⟩
  ·have hnx : ∀ ty, (Instr.next (.pointer (some ⟨w.heap.size, 0, none⟩)) true ty).run Tryz.prog wr = _ := fun ty => Lib.run_next_end_at wr w.heap.size s pos ty IT.out hps
   have hleft := LE.out
   rw [idxRuneFrom_end p s gk pos hps] at hleft
   have LE2 := Aside0.mk hleft
   clear hleft IT LE
   go_wp2
   go_ret
   exact ⟨by rw [← LE2.out]; rfl, BW.out⟩
set_option maxHeartbeats 8000000 in
theorem strings_IndexFunc_at (g : Nat) (eg : ∀ args W, (callFunc g args).run Tryz.prog W = .ok (.enter g args) W) (p : Nat → Bool) (s : ByteArray) (w : World) (hp : RuneAt Tryz.prog g p) :
  Calls Tryz.prog 97 #[.string s, .func (.func g) #[] #[]] w fun e w' => e = .returned (.int .i64 (idxRune p s)) ∧ Below w.heap.size w w' := by
 have HC := am_ (strings_indexFunc_at g eg p s w hp)
 clear hp eg
 generalize idxRune p s = x at HC
 go_enter Tryz.func97, Tryz.ntmps97
 go_wp2_with (go_at_call 113; refine HC.out.mono ?_; rintro e W' ⟨rfl, hb⟩; have HB := Aside0.mk hb; clear hb)
 go_ret
 exact ⟨rfl, HB.out⟩

/-! ### strings_IndexFunc_with_dns_Label_1: function 97 with 95 -/
def strings_IndexFunc_with_dns_Label_1.p (r : Nat) : Bool := !octB r
set_option maxHeartbeats 4000000 in
theorem strings_IndexFunc_with_dns_Label_1.at_ : RuneAt Tryz.prog 95 strings_IndexFunc_with_dns_Label_1.p := by
 intro W r
 unfold strings_IndexFunc_with_dns_Label_1.p
 have ho := am_ (octB_f r)
 go_enter Tryz.func95, Tryz.ntmps95
 go_wp2_with (go_at_call 96; refine (dns_octet.calls _ _ _ ho.out).mono ?_; rintro e w' ⟨rfl, hd⟩; have HB := am_ (show Below _ _ _ from by first | exact hd.below | exact hd); clear hd)
 go_ret
 exact ⟨rfl, HB.out⟩
def strings_IndexFunc_with_dns_Label_1.f (a0 : ByteArray) : Option (Int) := some (idxRune strings_IndexFunc_with_dns_Label_1.p a0)
theorem strings_IndexFunc_with_dns_Label_1.calls (a0 : ByteArray) (r : Int) (w : World) (h : strings_IndexFunc_with_dns_Label_1.f a0 = some r) :
  Calls Tryz.prog 97 #[.string a0, .func (.func 95) #[] #[]] w fun e w' => e = .returned (.int .i64 r) ∧ Below w.heap.size w w' := by
 obtain rfl := Option.some.inj h;exact strings_IndexFunc_at 95 (enters_of Tryz.func95 kr_ rfl) _ a0 w strings_IndexFunc_with_dns_Label_1.at_

/-! ### dns_Label: function 79 -/
def dns_Label.f (a0 : ByteArray) : Option (Bool) := if a0.toList = ([] : List UInt8) then (some false) else (if (a0.size : Int) ≤ 20 then ((strings_IndexFunc_with_dns_Label_1.f a0).bind fun t121 => (if t121 < 0 then (if 0 < (a0.size : Int) then (if (bt a0 0) = 45 then (some false) else (if 0 ≤ (wrap64 ((a0.size : Int) - 1)) then (if (wrap64 ((a0.size : Int) - 1)) < (a0.size : Int) then (some ((bt a0 (wrap64 ((a0.size : Int) - 1))) != 45)) else (none)) else (none))) else (none)) else (some false))) else (some false))
set_option maxHeartbeats 8000000 in
set_option maxRecDepth 100000 in
theorem dns_Label.calls (a0 : ByteArray) (r : Bool) (w : World) (h : dns_Label.f a0 = some r) :
  Calls Tryz.prog 79 #[.string a0] w fun e w' => e = .returned (.bool r) ∧ Below w.heap.size w w' := by
 have HB := am_ (Below.refl w.heap.size w);have H : (if a0.toList = ([] : List UInt8) then (some false) else (if (a0.size : Int) ≤ 20 then ((strings_IndexFunc_with_dns_Label_1.f a0).bind fun pa => (if pa < 0 then (if 0 < (a0.size : Int) then (if (bt a0 0) = 45 then (some false) else (if 0 ≤ (wrap64 ((a0.size : Int) - 1)) then (if (wrap64 ((a0.size : Int) - 1)) < (a0.size : Int) then (some ((bt a0 (wrap64 ((a0.size : Int) - 1))) != 45)) else (none)) else (none))) else (none)) else (some false))) else (some false))) = some r := h;clear h;by_cases c2 : a0.toList = ([] : List UInt8)
 ·rw [if_pos c2] at H
  have pc := eqb_ c2;have pd := neb_ c2;clear c2;obtain rfl := Option.some.inj H;go_enter Tryz.func79, Tryz.ntmps79;go_wp2;go_ret;exact ⟨fi_, bel_ HB.out⟩
 ·rw [if_neg c2] at H
  have pc := eqf_ c2;have pd := nef_ c2;by_cases c3 : (a0.size : Int) ≤ 20
  ·rw [if_pos c3] at H
   have pf := decide_eq_true c3;have pg : decide (a0.size ≤ 20) = true := decide_eq_true (by omega);clear c3;obtain ⟨pa, A4, H⟩ := bnd_ H;by_cases c5 : pa < 0
   ·rw [if_pos c5] at H
    have ph := decide_eq_true c5;clear c5;by_cases c6 : 0 < (a0.size : Int)
    ·rw [if_pos c6] at H
     have pl := decide_eq_true c6;have pm : decide (0 < a0.size) = true := decide_eq_true (by omega);clear c6;by_cases c8 : (bt a0 0) = 45
     ·rw [if_pos c8] at H
      have pi := eqb_ c8;have pj := neb_ c8;clear c8;obtain rfl := Option.some.inj H;go_enter Tryz.func79, Tryz.ntmps79;go_wp2_with (first | (go_at_call 97; (with_reducible refine (strings_IndexFunc_with_dns_Label_1.calls a0 pa _ A4.out).mono ?_); rintro e w9 ⟨rfl, hb⟩; replace HB := bs_ HB hb; (try clear hb); have p7 : 0 ≤ (0 : Int) := (by omega); have q7 : 0 < a0.size := (by have : (0 : Int) < (a0.size : Int) := of_decide_eq_true as_; omega); have hx7 : ∀ h : 0 < a0.size, ((a0[0]'h).toNat : Int) = bt a0 0 := bt_at a0 0; clear p7; have pk : (0 < (a0.size : Int)) = True := eq_true (of_decide_eq_true as_); replace q7 := eq_true q7));go_ret;exact ⟨fi_, bel_ HB.out⟩
     ·rw [if_neg c8] at H
      have pi := eqf_ c8;have pj := nef_ c8;obtain ⟨ji10, pb⟩ : ∃ j_ : Int, (wrap64 ((a0.size : Int) - 1)) = j_ := ⟨_, rfl⟩;replace H : (if 0 ≤ (ji10) then (if (ji10) < (a0.size : Int) then (some ((bt a0 (ji10)) != 45)) else (none)) else (none)) = some r := by first | (rw [pb] at H; exact H) | (simp only [pb] at H ⊢; exact H)
      (try rw [pb] at A4);have hji10w : (IntKind.i64.wrap ((a0.size : Int) - 1)) = ji10 := (i64_w _).trans pb;by_cases c11 : 0 ≤ (ji10)
      ·rw [if_pos c11] at H
       have pn := decide_eq_true c11;clear c11;by_cases c12 : (ji10) < (a0.size : Int)
       ·rw [if_pos c12] at H
        have po := decide_eq_true c12;clear c12;obtain rfl := Option.some.inj H;go_enter Tryz.func79, Tryz.ntmps79;go_wp2_with (first | (go_at_call 97; (with_reducible refine (strings_IndexFunc_with_dns_Label_1.calls a0 pa _ A4.out).mono ?_); rintro e w14 ⟨rfl, hb⟩; replace HB := bs_ HB hb; (try clear hb); have p7 : 0 ≤ (0 : Int) := (by omega); have q7 : 0 < a0.size := (by have : (0 : Int) < (a0.size : Int) := of_decide_eq_true as_; omega); have hx7 : ∀ h : 0 < a0.size, ((a0[0]'h).toNat : Int) = bt a0 0 := bt_at a0 0; clear p7; have pk : (0 < (a0.size : Int)) = True := eq_true (of_decide_eq_true as_); replace q7 := eq_true q7; have p13 : 0 ≤ ((ji10) : Int) := of_decide_eq_true as_; have q13 : (ji10) < (a0.size : Int) := of_decide_eq_true as_; have hx13 := bt_at a0 (ji10); replace p13 := eq_true p13; replace q13 := eq_true q13));go_ret;exact ⟨by first | rfl | (simp [errW_none, errW_some] <;> rfl) | (simp only [← pb]; first | rfl | (simp [errW_none, errW_some] <;> rfl)) | (simp [*, errW_none, errW_some] <;> rfl), bel_ HB.out⟩
       ·rw [if_neg c12] at H
        cases H
      ·rw [if_neg c11] at H
       cases H
    ·rw [if_neg c6] at H
     cases H
   ·rw [if_neg c5] at H
    have ph := decide_eq_false c5;clear c5;obtain rfl := Option.some.inj H;go_enter Tryz.func79, Tryz.ntmps79;go_wp2_with (first | (go_at_call 97; (with_reducible refine (strings_IndexFunc_with_dns_Label_1.calls a0 pa _ A4.out).mono ?_); rintro e w15 ⟨rfl, hb⟩; replace HB := bs_ HB hb; (try clear hb)));go_ret;exact ⟨fi_, bel_ HB.out⟩
  ·rw [if_neg c3] at H
   have pf := decide_eq_false c3;have pg : decide (a0.size ≤ 20) = false := decide_eq_false (by omega);clear c3;obtain rfl := Option.some.inj H;go_enter Tryz.func79, Tryz.ntmps79;go_wp2;go_ret;exact ⟨fi_, bel_ HB.out⟩

/-! ### a range over a function whose iterator keeps a state of its own in a cell -/
/-- What such an iterator promises: whatever the loop holds between two rounds, if that abides new blocks and a store into the iterator's own cell: the rounds come in order, all of them, or up to one that says no more. -/
def SeqAt {α : Type} (F : Fence) (n : Nat) (P : Program) (g : Nat) (lb : Array Value) (encs : α → Array Value) (Kp : World → World → Prop) (Bs : Nat) (S Sp : List α → Prop) (Np : List α → Prop) (GG : World → Prop) (w : World) : Prop :=
 ∀ (l : Nat) (J Jx : List α → World → Prop) (W : World), Below w.heap.size w W → AbidesFrom W.heap.size J → AbidesFrom W.heap.size Jx → (∀ s A v, J s A → J s (A.setCell ⟨Bs, 0, none⟩ v)) → (∀ s A, J s A → GG A) →
  (∀ pre x W1, J pre W1 → Np (pre ++ [x]) → YieldAt F (n - 1) P l (encs x) W1 fun e W' =>
   (e = .returned (.bool true) ∧ J (pre ++ [x]) W' ∧ Kp W1 W') ∨ (e = .returned (.bool false) ∧ Jx (pre ++ [x]) W')) →
  J [] W →
  CallsIn F n P g (#[.func (.yield l) #[] #[]] ++ lb) W fun e W' => (∃ v, e = .returned v) ∧ ((∃ xs, S xs ∧ J xs W') ∨ (∃ pre, Sp pre ∧ Jx pre W'))
/-- The loop's record and its block of calls put off lie where they were laid. -/
structure Kept2 (l : Nat) (r : Loop) (W : World) : Prop where
 rec_ : W.heap[l + 1]? = some (.loop r)
 put_ : W.heap[l]? = some (.deferred (some []))
theorem Kept2.turn {l : Nat} {r r' : Loop} {W : World} (h : Kept2 l r W) : Kept2 l r' (W.putObj (l + 1) (.loop r')) :=
 ⟨World.putObj_heap_same (Array.getElem?_eq_some_iff.1 h.1).1, (World.putObj_heap_other (by omega)).trans h.2⟩
theorem Kept2.others {B l : Nat} {r : Loop} {W W' : World} (h : Kept2 l r W) (hk : KeepsFrom B W W') (hB : B ≤ l) : Kept2 l r W' := ⟨hk.same _ _ (by omega) h.1 rfl, hk.same _ _ hB h.2 rfl⟩
theorem Kept2.grown {l : Nat} {r : Loop} {W W' : World} {row : Option Nat} (h : Kept2 l r W) (hg : W.grownBy W' row) (hr : ∀ k, row = some k → ∃ o : Obj, W.heap[k]? = some o ∧ o.isWalk = true) : Kept2 l r W' :=
 ⟨(grownBy_keeps hg hr h.1 rfl).trans h.1, (grownBy_keeps hg hr h.2 rfl).trans h.2⟩
/-- The loop's law: as the kit's, with such an iterator. -/
theorem wpIn_range_cell {F : Fence} {n : Nat} {P : Program} {α : Type} {g : Operand} {ps : Array Tmp} {assign body : Code} {Q : Exit → Act → World → Prop} {a : Act} {w : World}
  (hro : F.round = none) (h1 : 1 ≤ n) {gf : Nat} {lb : Array Value} (hg : a.eval g = .func (.func gf) #[] lb) (hFg : F.fn gf) (eg : ∀ args w, (callFunc gf args).run P w = .ok (.enter gf args) w)
  {encs : α → Array Value} {Kp : World → World → Prop} {Bs : Nat} {S Sp : List α → Prop} {Np : List α → Prop} {GG : World → Prop} {w0 : World} (hseq : SeqAt F (n - 1) P gf lb encs Kp Bs S Sp Np GG w0)
  (hKt : ∀ {A B C : World}, Kp A B → Kp B C → Kp A C) (hKb : ∀ (W : World) (l : Nat) (o o' : Obj), w.heap.size ≤ l → W.heap[l]? = some o → o.isCells = false → o.isWalk = false → Kp W (W.putObj l o')) (hb0 : Below w0.heap.size w0 w) (hps : ∀ x, (encs x).size = ps.size)
  (I : List α → World → Prop) (Ix : List α → World → Prop) (hI : OwnFrom w.heap.size I) (hIx : OwnFrom w.heap.size Ix) (hIc : ∀ s A v, I s A → I s (A.setCell ⟨Bs, 0, none⟩ v)) (hIG : ∀ s A, I s A → GG A) (h0 : I [] w) (a₁ : α → Act)
  (hassign : ∀ (l : Nat) (x : α) (W : World) (K : Act → World → Prop), K (a₁ x) W →
   assign.wpIn (F.inRound l) (n - 1 - 1) P (Exit.then K (fun _ _ _ => False)) { tmps := (ps.zip (encs x)).foldl (fun t (p, v) => t.setIfInBounds p v) a.tmps, defers := [] } W)
  (hbody : ∀ (l : Nat) (pre : List α) (x : α) (W : World), I pre W → Np (pre ++ [x]) → body.wpIn (F.inRound l) (n - 1 - 1) P
   (fun e _ W' => match e with | .normal => KeepsFrom w.heap.size W W' ∧ Kp W W' ∧ I (pre ++ [x]) W' | .ret => KeepsFrom w.heap.size W W' ∧ Ix (pre ++ [x]) W' | _ => False) (a₁ x) W)
  (hdone : ∀ (D : Nat) (xs : List α) (W : World), w.heap.size ≤ D → S xs → I xs W → W.heap[D]? = some (.deferred (some [])) → Q .normal { a with defers := { target := .collected D, args := #[] } :: a.defers } W)
  (hstop : ∀ (D : Nat) (pre : List α) (W : World), w.heap.size ≤ D → Sp pre → Ix pre W → W.heap[D]? = some (.deferred (some [])) → Code.ret.wpIn F n P Q { a with defers := { target := .collected D, args := #[] } :: a.defers } W) :
  (Code.rangeFunc g ps assign body).wpIn F n P Q a w := by
 refine wpIn_rangeFunc fun fn hfn => ?_
 rw [hro]
 obtain ⟨L, hL⟩ : ∃ L : LoopState → Option Code → Loop, L = fun st pe => { state := st, pending := pe, fn, tmps := a.tmps, params := ps, assign, body, defers := w.heap.size } := ⟨_, rfl⟩
 obtain ⟨W1, hW1⟩ : ∃ W1, (w.alloc (.deferred (some []))).alloc (.loop (L .ready none)) = W1 := ⟨_, rfl⟩
 have hk1 : Kept2 w.heap.size (L .ready none) W1 := by
  rw [← hW1]
  refine ⟨?_, (Below.heap_alloc _ _ _ (by simp)).trans (World.alloc_heap_new w _)⟩
  have := World.alloc_heap_new (w.alloc (.deferred (some []))) (.loop (L .ready none))
  rwa [World.size_alloc] at this
 have hi1 : I [] W1 := by rw [← hW1]; exact hI.alloc _ (hI.alloc _ h0)
 have hb1 : Below w0.heap.size w0 W1 := by rw [← hW1]; exact hb0.trans ((((Below.refl _ w).alloc (Nat.le_refl _) _).alloc (by simp) _).mono hb0.size)
 have hs1 : w.heap.size + 2 = W1.heap.size := by rw [← hW1]; simp
 have rows : ∀ {A : World} {row : Option Nat}, (∀ r, row = some r → W1.heap.size ≤ r ∧ ∃ o : Obj, A.heap[r]? = some o ∧ o.isWalk = true) → ∀ r, row = some r → w.heap.size ≤ r ∧ ∃ o : Obj, A.heap[r]? = some o ∧ o.isCells = false :=
  fun hr r e => by obtain ⟨hB, o, ho, hw⟩ := hr r e; exact ⟨by omega, o, ho, Obj.not_cells_of_walk hw⟩
 have cells : ∀ {A : World} {r : Loop} (v : Value), Kept2 w.heap.size r A → Kept2 w.heap.size r (A.setCell ⟨Bs, 0, none⟩ v) := fun {A r} v h => ⟨(KeepsOthers.setCell A ⟨Bs, 0, none⟩ v).same _ _ h.1 rfl, (KeepsOthers.setCell A ⟨Bs, 0, none⟩ v).same _ _ h.2 rfl⟩
 refine ⟨w.heap.size + 1, [{ target := .collected w.heap.size, args := #[] }], W1, { target := .fn (.func gf) lb, args := #[.func (.yield (w.heap.size + 1)) #[] #[]] }, W1, gf,
  #[.func (.yield (w.heap.size + 1)) #[] #[]] ++ lb, W1, by rw [← hW1, hL]; exact run_enterLoop_outer _ _ _ _ _, by simp only [resolve, hg]; simp [go_sem], fun f' hf' => by simp [Target.leads] at hf'; subst hf'; exact hFg, by simp [invoke, go_sem, eg], fun _ => h1, ?_⟩
 refine (hseq (w.heap.size + 1) (fun pre W => I pre W ∧ Kept2 w.heap.size (L .ready none) W) (fun pre W => Ix pre W ∧ Kept2 w.heap.size (L .done (some .ret)) W) W1 hb1
  (fun s A B row hs hg' hr => ⟨hI s A B row hs.1 hg' (rows hr), hs.2.grown hg' fun r e => (hr r e).2⟩) (fun s A B row hs hg' hr => ⟨hIx s A B row hs.1 hg' (rows hr), hs.2.grown hg' fun r e => (hr r e).2⟩)
  (fun s A v hs => ⟨hIc s A v hs.1, cells v hs.2⟩) (fun s A hs => hIG s A hs.1) ?round ⟨hi1, hk1⟩).mono ?_
 case round =>
  rintro pre x W ⟨hi, hk⟩ hlen
  have hy := run_yield (P := P) (args := encs x) hk.1 (by rw [hL]; exact hps x)
  rw [hL] at hy
  have busy : Kept2 w.heap.size { L .ready none with state := .busy } (W.putObj (w.heap.size + 1) (.loop { L .ready none with state := .busy })) := hk.turn
  refine ⟨fn, _, assign, body, hy, roundIn_of_wpIn hfn (hassign _ x W _ ⟨_, run_beginRound hk.1 (by rw [hL]), wpIn_mono (hbody _ pre x _ (hI.putObj _ hi (by omega) hk.1 rfl) hlen) ?_⟩)⟩
  have ends : ∀ (jump : Option Code) (W3 : World), Kept2 w.heap.size { L .ready none with state := .busy } W3 → (Instr.endRound (w.heap.size + 1) jump).run P W3 = .ok (.bool jump.isNone) (W3.putObj (w.heap.size + 1) (.loop (L (if jump.isNone then .ready else .done) jump))) := fun jump W3 h => by
   have := run_endRound (P := P) jump h.1
   rw [hL] at this ⊢
   exact this
  rintro e a3 W3 hp
  cases e with
  | normal =>
   obtain ⟨hk3, hkp3, hi3⟩ := hp
   have b3 := busy.others hk3 (Nat.le_refl _)
   exact ⟨_, _, ends none W3 b3, .inl ⟨rfl, ⟨hI.putObj _ hi3 (by omega) b3.1 rfl, b3.turn⟩, hKt (hKt (hKb _ _ _ _ (by omega) hk.1 rfl rfl) hkp3) (hKb _ _ _ _ (by omega) b3.1 rfl rfl)⟩⟩
  | ret =>
   obtain ⟨hk3, hi3⟩ := hp
   have b3 := busy.others hk3 (Nat.le_refl _)
   exact ⟨_, _, ends (some .ret) W3 b3, .inr ⟨rfl, hIx.putObj _ hi3 (by omega) b3.1 rfl, b3.turn⟩⟩
  | exit id => exact hp.elim
  | goto t => exact hp.elim
  | panic ch => exact hp.elim
  | outgrown => exact hp.elim
 rintro e W2 ⟨⟨v, rfl⟩, ⟨xs, hS, hi, hk⟩ | ⟨pre, hSp, hi, hk⟩⟩
 ·exact ⟨none, _, by have := run_endLoop (P := P) hk.1 (by rw [hL]; simp); rw [hL] at this; exact this, hdone _ xs _ (Nat.le_refl _) hS (hI.putObj _ hi (by omega) hk.1 rfl) ((World.putObj_heap_other (by omega)).trans hk.2)⟩
 ·exact ⟨some .ret, _, by have := run_endLoop (P := P) hk.1 (by rw [hL]; simp); rw [hL] at this; exact this, hstop _ pre _ (Nat.le_refl _) hSp (hIx.putObj _ hi (by omega) hk.1 rfl) ((World.putObj_heap_other (by omega)).trans hk.2)⟩

/-! ### strings_splitSeq: functions 78, 94, 111 -/
theorem new_l (W : World) (v : Value) (t : TypeId) : (W.alloc (.cells #[v] t)).cell? ⟨W.heap.size, 0, none⟩ = some v ∧ (W.alloc (.cells #[v] t)).frozen? ⟨W.heap.size, 0, none⟩ = false := by
 have h := World.alloc_heap_new W (.cells #[v] t)
 exact ⟨by unfold World.cell?; rw [h]; rfl, by unfold World.frozen?; rw [h]; rfl⟩
theorem kept_l {W : World} {a : Addr} {v : Value} (o : Obj) (h : W.cell? a = some v) : (W.alloc o).cell? a = some v := Go.cell_kept h (World.grownBy_alloc W o none) (fun r e => by cases e)
theorem kept_f {W : World} {a : Addr} {v : Value} (o : Obj) (h : W.cell? a = some v) (hf : W.frozen? a = false) : (W.alloc o).frozen? a = false := (Go.frozen_kept h (World.grownBy_alloc W o none) (fun r e => by cases e)).trans hf
/-- What lies between cuts: ix tells where the next one is; m: how long it is. -/
def cuts (ix : ByteArray → Int) (m : Nat) : Nat → ByteArray → List ByteArray
 | 0, s => [s]
 | k + 1, s => if ix s < 0 then [s] else s.extract 0 (ix s).toNat :: cuts ix m k (s.extract ((ix s).toNat + m) s.size)
theorem cuts_neg {ix : ByteArray → Int} {m : Nat} {s : ByteArray} (h : ix s < 0) : ∀ k, cuts ix m k s = [s]
 | 0 => rfl
 | k + 1 => by rw [cuts, if_pos h]
theorem cuts_pos {ix : ByteArray → Int} {m k : Nat} {s : ByteArray} (h : ¬ ix s < 0) : cuts ix m (k + 1) s = s.extract 0 (ix s).toNat :: cuts ix m k (s.extract ((ix s).toNat + m) s.size) := by rw [cuts, if_neg h]
theorem cuts_more (ix : ByteArray → Int) (m : Nat) (hm : 1 ≤ m) (hb : ∀ s, 0 ≤ ix s → (ix s).toNat + m ≤ s.size) : ∀ (k : Nat) (s : ByteArray), s.size ≤ k → cuts ix m (k + 1) s = cuts ix m k s := by
 intro k
 induction k with
 | zero =>
  intro s h
  by_cases c : ix s < 0
  ·rw [cuts_neg c, cuts_neg c]
  ·have := hb s (by omega); omega
 | succ k ih =>
  intro s h
  by_cases c : ix s < 0
  ·rw [cuts_neg c, cuts_neg c]
  ·rw [cuts_pos c, cuts_pos (k := k) c, ih _ (by have := hb s (by omega); rw [ByteArray.size_extract]; omega)]
theorem cuts_enough (ix : ByteArray → Int) (m : Nat) (hm : 1 ≤ m) (hb : ∀ s, 0 ≤ ix s → (ix s).toNat + m ≤ s.size) (s : ByteArray) : ∀ (k : Nat), s.size ≤ k → cuts ix m k s = cuts ix m s.size s := by
 intro k
 induction k with
 | zero => intro h; rw [show s.size = 0 by omega]
 | succ k ih =>
  intro h
  rcases Nat.lt_or_ge k s.size with c | c
  ·rw [show s.size = k + 1 by omega]
  ·rw [cuts_more ix m hm hb k s c, ih c]
theorem cuts_cons (ix : ByteArray → Int) (m : Nat) (hm : 1 ≤ m) (hb : ∀ s, 0 ≤ ix s → (ix s).toNat + m ≤ s.size) {s : ByteArray} {i : Nat} (h : ix s = (i : Int)) :
  cuts ix m s.size s = s.extract 0 i :: cuts ix m (s.extract (i + m) s.size).size (s.extract (i + m) s.size) := by
 have h1 := hb s (by omega)
 rw [h, Int.toNat_natCast] at h1
 obtain ⟨k, hk⟩ : ∃ k, s.size = k + 1 := ⟨s.size - 1, by omega⟩
 have h2 : cuts ix m s.size s = cuts ix m (k + 1) s := by rw [hk]
 rw [h2, cuts_pos (by omega), h, Int.toNat_natCast, cuts_enough ix m hm hb _ k (by rw [ByteArray.size_extract]; omega)]
/-- The iterator's three boxes: what is still to be cut, the cut, what is kept of it. -/
structure Boxes3 (b : Nat) (s sep : ByteArray) (W : World) : Prop where
 s_ : W.cell? ⟨b, 0, none⟩ = some (.string s)
 f_ : W.frozen? ⟨b, 0, none⟩ = false
 sep_ : W.cell? ⟨b + 1, 0, none⟩ = some (.string sep)
 save_ : W.cell? ⟨b + 2, 0, none⟩ = some (.int .i64 0)
/-- The three boxes lie as they lay. -/
def Keeps3 (b : Nat) (W W' : World) : Prop := ∀ k, b ≤ k → k < b + 3 → W'.heap[k]? = W.heap[k]?
theorem Boxes3.kept {b : Nat} {s sep : ByteArray} {W W' : World} (h : Boxes3 b s sep W) (hk : Keeps3 b W W') : Boxes3 b s sep W' :=
 ⟨(World.cell?_of_block (a := ⟨b, 0, none⟩) (hk b (Nat.le_refl _) (by omega))).trans h.s_, (World.frozen?_of_block (a := ⟨b, 0, none⟩) (hk b (Nat.le_refl _) (by omega))).trans h.f_,
  (World.cell?_of_block (a := ⟨b + 1, 0, none⟩) (hk (b + 1) (by omega) (by omega))).trans h.sep_, (World.cell?_of_block (a := ⟨b + 2, 0, none⟩) (hk (b + 2) (by omega) (by omega))).trans h.save_⟩
theorem Keeps3.drewN {b : Nat} {W : World} (n : Nat) : Keeps3 b W (W.drewN n) := fun _ _ _ => rfl
/-- How much is still to be cut. -/
def boxLen (b : Nat) (W : World) : Nat := match W.cell? ⟨b, 0, none⟩ with | some (.string t) => t.size | _ => 0
theorem boxLen_eq {b : Nat} {W : World} {s : ByteArray} (h : W.cell? ⟨b, 0, none⟩ = some (.string s)) : boxLen b W = s.size := by unfold boxLen; rw [h]
theorem seq_at (s sep : ByteArray) (w : World) : Calls Tryz.prog 78 #[.string s, .string sep] w fun e w' => ∃ n, e = .returned (.func (.func 111) #[] #[.pointer (some ⟨w.heap.size + 1, 0, none⟩), .pointer (some ⟨w.heap.size, 0, none⟩), .pointer (some ⟨w.heap.size + 2, 0, none⟩)]) ∧
  w' = (((w.alloc (.cells #[.string s] 9)).alloc (.cells #[.string sep] 9)).alloc (.cells #[.int .i64 0] 3)).drewN n := by
 have h : Calls Tryz.prog 94 #[.string s, .string sep, .int .i64 0] w fun e w' => ∃ n, e = .returned (.func (.func 111) #[] #[.pointer (some ⟨w.heap.size + 1, 0, none⟩), .pointer (some ⟨w.heap.size, 0, none⟩), .pointer (some ⟨w.heap.size + 2, 0, none⟩)]) ∧
   w' = (((w.alloc (.cells #[.string s] 9)).alloc (.cells #[.string sep] 9)).alloc (.cells #[.int .i64 0] 3)).drewN n := by
  go_enter Tryz.func94, Tryz.ntmps94
  go_wp2
  go_ret
  exact ⟨0, by simp, rfl⟩
 go_enter Tryz.func78, Tryz.ntmps78
 go_wp2_with (go_at_call 94; refine h.mono ?_; rintro e w' ⟨n, rfl, rfl⟩)
 go_ret
 exact ⟨n, rfl, rfl⟩
set_option maxRecDepth 100000 in
set_option maxHeartbeats 4000000 in
/-- The iterator: the pieces in order, all, or up to one that says no more. -/
theorem split1_in (ix : ByteArray → Int) (sep : ByteArray) (hsep : 1 ≤ sep.size) (GG : World → Prop) (M : Nat) (hix : ∀ (s : ByteArray) (W : World), s.size ≤ M → GG W → Calls Tryz.prog 112 #[.string s, .string sep] W fun e W' => e = .returned (.int .i64 (ix s)) ∧ Drawn0 W W')
  (hb : ∀ s, 0 ≤ ix s → (ix s).toNat + sep.size ≤ s.size) (s : ByteArray) (hs : s.size ≤ M) (hM : M ≤ 140737488355328) (l b : Nat) (J Jx : List ByteArray → World → Prop) (W : World)
  (hJ : AbidesFrom W.heap.size J) (hJx : AbidesFrom W.heap.size Jx) (hJc : ∀ s A v, J s A → J s (A.setCell ⟨b, 0, none⟩ v)) (hJG : ∀ s A, J s A → GG A)
  (hY : ∀ pre x W1, J pre W1 → (pre ++ [x]) <+: cuts ix sep.size s.size s → YieldAt Fence.wide 2 Tryz.prog l #[.string x] W1 fun e W' => (e = .returned (.bool true) ∧ J (pre ++ [x]) W' ∧ Keeps3 b W1 W') ∨ (e = .returned (.bool false) ∧ Jx (pre ++ [x]) W'))
  (hB : Boxes3 b s sep W) (h0 : J [] W) :
  CallsIn Fence.wide 3 Tryz.prog 111 #[.func (.yield l) #[] #[], .pointer (some ⟨b + 1, 0, none⟩), .pointer (some ⟨b, 0, none⟩), .pointer (some ⟨b + 2, 0, none⟩)] W fun e W' => (∃ v, e = .returned v) ∧
   ((∃ xs, xs = cuts ix sep.size s.size s ∧ J xs W') ∨ (∃ pre, pre <+: cuts ix sep.size s.size s ∧ Jx pre W')) := by
 have hdr : ∀ (s' : List ByteArray) (A : World) (n : Nat), J s' A → J s' (A.drewN n) := fun s' A n h => hJ s' A _ none h ⟨rfl, rfl, rfl, Nat.le_refl _, fun _ _ _ => rfl⟩ (fun r e => by cases e)
 have hne : ¬ (sep.size : Int) = 0 := by omega
 have hz0 : ((sep.size : Int) == 0) = false := beq_eq_false_iff_ne.2 hne
 have h1 := hB.s_
 have h2 := hB.sep_
 have h3 := hB.save_
 refine callsIn_of_wp Tryz.func111 rfl trivial ?_ rfl
 simp only [Tryz.ntmps111, List.size_toArray, List.length_cons, List.length_nil, Nat.reduceAdd, Nat.reduceSub, Array.replicate_succ, Array.replicate_zero, List.push_toArray, List.append_toArray, List.nil_append, List.cons_append]
 gi_wp2
 gi_loopw [7, 8] (fun i f wr => ∃ (pre : List ByteArray) (s' : ByteArray), cuts ix sep.size s.size s = pre ++ cuts ix sep.size s'.size s' ∧ s'.size ≤ s.size ∧ Boxes3 b s' sep wr ∧ J pre wr)
  (fun i f wr => boxLen b wr)
 case atStart => exact ⟨[], s, rfl, Nat.le_refl _, hB, h0⟩
 case round =>
  obtain ⟨pre, s', hx, hle, hB', hJs⟩ := hrel
  have hJGs := hJG _ _ hJs
  have g1 := hB'.s_
  have g2 := hB'.sep_
  have g3 := hB'.save_
  by_cases hneg : ix s' < 0
  ·rw [cuts_neg hneg] at hx
   gi_wp2_with (refine ⟨trivial, ?_⟩; gi_at_call 112; refine (callsIn_wide.2 (hix s' _ (by omega) hJGs)).mono ?_; rintro e w' ⟨rfl, hd⟩; obtain ⟨n, rfl⟩ := hd.out)
   obtain ⟨fn, tmps, assign, body, hy, hR⟩ := hY pre s' (wr.drewN n) (hdr _ _ _ hJs) (by rw [hx]; exact List.prefix_refl _)
   rw [hy]
   gi_wp2
   refine hR.mono ?_
   rintro e W3 (⟨rfl, hJ3, hk3⟩ | ⟨rfl, hJx3⟩)
   ·gi_wp2
    go_end0
    exact ⟨⟨_, rfl⟩, .inl ⟨_, rfl, by rw [hx]; exact hJ3⟩⟩
   ·gi_wp2
    go_end0
    exact ⟨⟨_, rfl⟩, .inr ⟨pre ++ [s'], by rw [hx]; exact List.prefix_refl _, hJx3⟩⟩
  ·obtain ⟨i, hi⟩ : ∃ i : Nat, ix s' = (i : Int) := ⟨(ix s').toNat, by omega⟩
   have hfit := hb s' (by omega)
   have hc := cuts_cons ix sep.size hsep hb hi
   have hix' := hix s'
   rw [hi] at hix' hneg
   gi_wp2_with (refine ⟨trivial, ?_⟩; gi_at_call 112; refine (callsIn_wide.2 (hix' _ (by omega) hJGs)).mono ?_; rintro e w' ⟨rfl, hd⟩; obtain ⟨n, rfl⟩ := hd.out)
   obtain ⟨fn, tmps, assign, body, hy, hR⟩ := hY pre (s'.extract 0 i) (wr.drewN n) (hdr _ _ _ hJs) (by rw [hx, hc]; exact ⟨_, List.append_assoc _ _ _⟩)
   rw [hy]
   gi_wp2
   refine hR.mono ?_
   rintro e W3 (⟨rfl, hJ3, hk3⟩ | ⟨rfl, hJx3⟩)
   ·have hB3 := (hB'.kept (Keeps3.drewN n)).kept hk3
    have g1' := hB3.s_
    have g2' := hB3.sep_
    have gf := hB3.f_
    gi_wp2
    go_roundw
    case rel =>
     have hr1 : cuts ix sep.size s.size s = (pre ++ [s'.extract 0 i]) ++ cuts ix sep.size (s'.extract (i + sep.size) s'.size).size (s'.extract (i + sep.size) s'.size) := by rw [hx, hc, List.append_assoc]; rfl
     have hr2 : Boxes3 b (s'.extract (i + sep.size) s'.size) sep (W3.setCell ⟨b, 0, none⟩ (.string (s'.extract (i + sep.size) s'.size))) := ⟨World.cell?_setCell_same' _ _ _ (by rw [g1']; rfl), by rw [World.frozen?_setCell]; exact gf, (World.cell?_setCell_far W3 ⟨b, 0, none⟩ ⟨b + 1, 0, none⟩ _ (by simp)).trans hB3.sep_, (World.cell?_setCell_far W3 ⟨b, 0, none⟩ ⟨b + 2, 0, none⟩ _ (by simp)).trans hB3.save_⟩
     exact ⟨_, _, hr1, by rw [ByteArray.size_extract]; omega, hr2, hJc _ _ _ hJ3⟩
    case measure =>
     rw [boxLen_eq (World.cell?_setCell_same' _ _ _ (by rw [g1']; rfl)), boxLen_eq g1, ByteArray.size_extract]
     omega
   ·gi_wp2
    refine bodyPost_ret (results_none rfl _ _ _) rfl ?_
    exact ⟨⟨_, rfl⟩, .inr ⟨_, by rw [hx, hc]; exact ⟨_, List.append_assoc _ _ _⟩, hJx3⟩⟩
theorem firstIdx_fit (c : UInt8) (s : ByteArray) (h : 0 ≤ firstIdx s c) : (firstIdx s c).toNat + 1 ≤ s.size := by
 unfold firstIdx at h ⊢
 split
 ·next i e =>
  have := List.mem_range.1 (List.mem_of_find?_eq_some e)
  omega
 ·next e => rw [e] at h; exact absurd h (by decide)
theorem index1 (s : ByteArray) (c : UInt8) : strings_Index.f 1 s ⟨#[c]⟩ = some (firstIdx s c) := by
 have hb : bt ⟨#[c]⟩ 0 = (c.toNat : Int) := rfl
 have hj : ∀ b, b = ((⟨#[c]⟩ : ByteArray).toList == s.toList) → stringslite_Index.j0 1 s ⟨#[c]⟩ 1 b = if b = true then some 0 else some (firstIdx s c) := fun b _ => by
  rw [stringslite_Index.j0, if_pos rfl, if_pos (show (0 : Int) < ((⟨#[c]⟩ : ByteArray).size : Int) by show (0 : Int) < 1; decide), hb]
  unfold stringslite_IndexByte.f
  rw [Option.bind_some, Int.toNat_natCast, show c.toNat.toUInt8 = c from UInt8.ofNat_toNat]
 unfold strings_Index.f stringslite_Index.f
 rw [show ((⟨#[c]⟩ : ByteArray).size : Int) = 1 from rfl, if_neg (by decide), hj _ rfl]
 by_cases h : ((⟨#[c]⟩ : ByteArray).toList == s.toList) = true
 ·rw [if_pos h]
  have hs : s = ⟨#[c]⟩ := by
   have := eq_of_beq h
   rw [ByteArray.toList_eq, ByteArray.toList_eq] at this
   obtain ⟨⟨l⟩⟩ := s
   exact congrArg (fun z : List UInt8 => (⟨⟨z⟩⟩ : ByteArray)) (show l = [c] from this.symm)
  rw [hs]
  unfold firstIdx
  rw [show (⟨#[c]⟩ : ByteArray).size = 1 from rfl, show List.range 1 = [0] from rfl, List.find?_cons_of_pos (by show ((⟨#[c]⟩ : ByteArray)[0]! == c) = true; exact beq_self_eq_true c)]
  rfl
 ·rw [if_neg h]; rfl
/-- A text's pieces between one octet. -/
def pieces (c : UInt8) (s : ByteArray) : List ByteArray := cuts (fun t => firstIdx t c) 1 s.size s
/-- The iterator over the pieces of a text, where its three boxes lie. -/
theorem seq1_stops (c : UInt8) (s : ByteArray) (hs : s.size ≤ 140737488355328) (b : Nat) (w : World) (hw : b + 3 ≤ w.heap.size) (hB : Boxes3 b s ⟨#[c]⟩ w) :
  SeqAt Fence.wide 3 Tryz.prog 111 #[.pointer (some ⟨b + 1, 0, none⟩), .pointer (some ⟨b, 0, none⟩), .pointer (some ⟨b + 2, 0, none⟩)] (fun x : ByteArray => #[Value.string x]) (Keeps3 b) b (fun xs => xs = pieces c s) (fun pre => pre <+: pieces c s) (fun xs => xs <+: pieces c s) (fun _ => True) w := by
 intro l J Jx W hW hJ hJx hJc _ hY h0
 have hk : Keeps3 b w W := fun k h1 h2 => hW.block k (by omega)
 exact split1_in (fun t => firstIdx t c) ⟨#[c]⟩ (by show 1 ≤ 1; decide) (fun _ => True) 140737488355328 (fun t W _ _ => strings_Index.calls 1 t ⟨#[c]⟩ _ W (index1 t c)) (fun t h => firstIdx_fit c t h) s hs (Nat.le_refl _) l b J Jx W hJ hJx hJc (fun _ _ _ => trivial) hY (hB.kept hk) h0

/-! ### dns_Name: function 53 -/
/-- Is a text a label? -/
def labB (s : ByteArray) : Bool := dns_Label.f s == some true
theorem label_f (s : ByteArray) : dns_Label.f s = some (labB s) := by
 have h : ∃ b, dns_Label.f s = some b := by
  unfold dns_Label.f strings_IndexFunc_with_dns_Label_1.f
  rw [Option.bind_some]
  by_cases h1 : s.toList = ([] : List UInt8)
  ·rw [if_pos h1]; exact ⟨_, rfl⟩
  ·rw [if_neg h1]
   have h0 : 0 < s.size := by
    rcases Nat.eq_zero_or_pos s.size with c | c
    ·refine absurd ?_ h1
     rw [ByteArray.toList_eq]
     exact List.eq_nil_of_length_eq_zero (by rw [Array.length_toList]; exact c)
    ·exact c
   by_cases h2 : (s.size : Int) ≤ 20
   ·rw [if_pos h2, if_pos (show (0 : Int) < (s.size : Int) by omega), show wrap64 ((s.size : Int) - 1) = (s.size : Int) - 1 from by unfold wrap64; omega, if_pos (show (0 : Int) ≤ (s.size : Int) - 1 by omega), if_pos (show (s.size : Int) - 1 < (s.size : Int) by omega)]
    split
    ·split
     ·exact ⟨_, rfl⟩
     ·exact ⟨_, rfl⟩
    ·exact ⟨_, rfl⟩
   ·rw [if_neg h2]; exact ⟨_, rfl⟩
 obtain ⟨b, h⟩ := h
 unfold labB
 rw [h]
 cases b <;> rfl
/-- Is a text a name? -/
def dns_Name.f (a0 : ByteArray) : Option (Bool) := some (decide (a0.size ≤ 60) && (pieces 46 a0).all labB)
section
attribute [local go_sem] Oper.semAt_some
set_option maxHeartbeats 8000000 in
set_option maxRecDepth 100000 in
theorem dns_Name.calls (a0 : ByteArray) (r : Bool) (w : World) (h : dns_Name.f a0 = some r) :
  Calls Tryz.prog 53 #[.string a0] w fun e w' => e = .returned (.bool r) ∧ Below w.heap.size w w' := by
 obtain rfl := Option.some.inj h;clear h;have hlab : ∀ x, dns_Label.f x = some (labB x) := label_f;refine (callsIn_wide (n := 4)).1 ?_;refine callsIn_of_wp_marks Tryz.func53 rfl trivial ?_ rfl;simp only [Tryz.ntmps53, List.size_toArray, List.length_cons, List.length_nil, Nat.reduceAdd, Nat.reduceSub, Array.replicate_succ, Array.replicate_zero, List.push_toArray, List.append_toArray, List.nil_append, List.cons_append];by_cases hl : a0.size ≤ 60
 ·rw [decide_eq_true hl, Bool.true_and]
  obtain ⟨R, hR⟩ : ∃ R, (pieces 46 a0).all labB = R := ⟨_, rfl⟩;rw [hR];gi_wp2_with (refine ⟨trivial, ?_⟩; gi_at_call 78; refine (callsIn_wide.2 (seq_at _ _ _)).mono ?_; rintro e w' ⟨n, rfl, rfl⟩);obtain ⟨W0, hW0⟩ : ∃ W0, W0 = ((((w.alloc (.cells #[.bool false] 4)).alloc (.cells #[.string a0] 9)).alloc (.cells #[.string ⟨#[46]⟩] 9)).alloc (.cells #[.int .i64 0] 3)).drewN n := ⟨_, rfl⟩;have hs0 : W0.heap.size = w.heap.size + 4 := by rw [hW0]; simp
  have z0 := new_l w (.bool false) 4;have z1 := new_l (w.alloc (.cells #[.bool false] 4)) (.string a0) 9;have z2 := new_l ((w.alloc (.cells #[.bool false] 4)).alloc (.cells #[.string a0] 9)) (.string ⟨#[46]⟩) 9;have z3 := new_l (((w.alloc (.cells #[.bool false] 4)).alloc (.cells #[.string a0] 9)).alloc (.cells #[.string ⟨#[46]⟩] 9)) (.int .i64 0) 3;simp only [World.size_alloc] at z1 z2 z3;have c0 : W0.cell? ⟨w.heap.size, 0, none⟩ = some (.bool false) ∧ W0.frozen? ⟨w.heap.size, 0, none⟩ = false := by
   rw [hW0];have y1 := kept_l (.cells #[.string a0] 9) z0.1;have y2 := kept_l (.cells #[.string ⟨#[46]⟩] 9) y1;exact ⟨kept_l _ y2, kept_f _ y2 (kept_f _ y1 (kept_f _ z0.1 z0.2))⟩
  have b0 : Boxes3 (w.heap.size + 1) a0 ⟨#[46]⟩ W0 := by
   rw [hW0];have y2 := kept_l (.cells #[.string ⟨#[46]⟩] 9) z1.1;exact ⟨kept_l _ y2, kept_f _ y2 (kept_f _ z1.1 z1.2), kept_l _ z2.1, z3.1⟩
  have hB0 : Below w.heap.size w W0 := by rw [hW0]; exact ((((((Below.refl _ w).alloc (Nat.le_refl _) _).alloc (by simp) _).alloc (by simp; omega) _).alloc (by simp; omega) _)).trans ⟨rfl, rfl, rfl, Nat.le_refl _, fun _ _ => rfl⟩
  (try simp only [World.size_alloc]);rw [← hW0];refine wpIn_range_cell rfl (by omega) (gf := 111) (lb := #[.pointer (some ⟨w.heap.size + 1 + 1, 0, none⟩), .pointer (some ⟨w.heap.size + 1, 0, none⟩), .pointer (some ⟨w.heap.size + 1 + 2, 0, none⟩)]) rfl trivial (enters_of Tryz.func111 kr_ rfl)
   (seq1_stops 46 a0 (by omega) (w.heap.size + 1) W0 (by omega) b0) (fun h k i h1 h2 => (k i h1 h2).trans (h i h1 h2)) (fun W l o o' hl _ _ _ k h1 h2 => World.putObj_heap_other (by omega)) (Below.refl _ _) (fun _ => rfl)
   (fun pre W => ((∀ y ∈ pre, labB y = true) ∧ W.cell? ⟨w.heap.size, 0, none⟩ = some (.bool false) ∧ W.frozen? ⟨w.heap.size, 0, none⟩ = false ∧ w.heap.size + 4 ≤ W.heap.size) ∧ Below w.heap.size w W)
   (fun pre W => ((∃ y ∈ pre, labB y = false) ∧ W.cell? ⟨w.heap.size, 0, none⟩ = some (.bool false)) ∧ Below w.heap.size w W)
   (OwnFrom.and (Own.from (fun s A B row hs hg hr => ⟨hs.1, Go.cell_kept hs.2.1 hg hr, (Go.frozen_kept hs.2.1 hg hr).trans hs.2.2.1, Nat.le_trans hs.2.2.2 hg.size⟩) _) (ownFrom_below (Nat.le_refl _) (by omega)))
   (OwnFrom.and (Own.from (fun s A B row hs hg hr => ⟨hs.1, Go.cell_kept hs.2 hg hr⟩) _) (ownFrom_below (Nat.le_refl _) (by omega)))
   (fun s A v hs => ⟨⟨hs.1.1, (World.cell?_setCell_far A ⟨w.heap.size + 1, 0, none⟩ ⟨w.heap.size, 0, none⟩ v (by simp)).trans hs.1.2.1, by rw [World.frozen?_setCell]; exact hs.1.2.2.1, by simpa using hs.1.2.2.2⟩, hs.2.setCell (p := ⟨w.heap.size + 1, 0, none⟩) (by simp) _⟩)
   (fun _ _ _ => trivial)
   ⟨⟨fun y hy => (by cases hy), c0.1, c0.2, by omega⟩, hB0⟩
   (fun x => { tmps := #[.string a0, undef, .pointer (some ⟨w.heap.size, 0, none⟩), .string x, .string a0, .int .i64 a0.size, .bool (decide (60 < (a0.size : Int))), .string a0, .func (.func 111) #[] #[.pointer (some ⟨w.heap.size + 1 + 1, 0, none⟩), .pointer (some ⟨w.heap.size + 1, 0, none⟩), .pointer (some ⟨w.heap.size + 1 + 2, 0, none⟩)], .string x, undef, undef, undef], defers := [] }) ?assign ?body ?done ?stop
  case assign =>
   intro l x W K hK;gi_wp2;exact hK
  case body =>
   rintro l pre x W ⟨⟨hp, hc, hf, hsz⟩, hB⟩ _;have hlt : w.heap.size < W.heap.size := by omega
   have hx := hlab x;cases hv : labB x with
   | true =>
    rw [hv] at hx;gi_wp2_with (refine ⟨trivial, ?_⟩; gi_at_call 79; refine (CallsIn.inRound l (callsIn_wide.2 (dns_Label.calls x true W hx))).mono ?_; rintro e w' ⟨rfl, hd⟩; have hc' : w'.cell? ⟨w.heap.size, 0, none⟩ = some (.bool false) := (hd.cell (p := ⟨w.heap.size, 0, none⟩) hlt).trans hc; have hf' : w'.frozen? ⟨w.heap.size, 0, none⟩ = false := (World.frozen?_of_block (a := ⟨w.heap.size, 0, none⟩) (hd.block _ hlt)).trans hf; have hk' : KeepsFrom W0.heap.size W w' := ⟨hd.size, fun k o _ hk _ => (hd.block k (Array.getElem?_eq_some_iff.1 hk).1).trans hk⟩; have hb' : Below w.heap.size w w' := hB.trans (hd.mono hB.size); have hsz' : w.heap.size + 4 ≤ w'.heap.size := Nat.le_trans hsz hd.size; have h3' : Keeps3 (w.heap.size + 1) W w' := fun k h1 h2 => hd.block k (by omega));exact ⟨by rw [hs0] at hk'; exact hk', fun y hy => hy.elim (hp y) fun e => by rw [e]; exact hv⟩
   | false =>
    rw [hv] at hx;gi_wp2_with (refine ⟨trivial, ?_⟩; gi_at_call 79; refine (CallsIn.inRound l (callsIn_wide.2 (dns_Label.calls x false W hx))).mono ?_; rintro e w' ⟨rfl, hd⟩; have hc' : w'.cell? ⟨w.heap.size, 0, none⟩ = some (.bool false) := (hd.cell (p := ⟨w.heap.size, 0, none⟩) hlt).trans hc; have hf' : w'.frozen? ⟨w.heap.size, 0, none⟩ = false := (World.frozen?_of_block (a := ⟨w.heap.size, 0, none⟩) (hd.block _ hlt)).trans hf; have hk' : KeepsFrom W0.heap.size W w' := ⟨hd.size, fun k o _ hk _ => (hd.block k (Array.getElem?_eq_some_iff.1 hk).1).trans hk⟩; have hb' : Below w.heap.size w w' := hB.trans (hd.mono hB.size); have hsz' : w.heap.size + 4 ≤ w'.heap.size := Nat.le_trans hsz hd.size; have h3' : Keeps3 (w.heap.size + 1) W w' := fun k h1 h2 => hd.block k (by omega));exact ⟨by rw [hs0] at hk'; exact hk'.trans ((KeepsOthers.setCell w' _ _).from _), hb'.setCell (p := ⟨w.heap.size, 0, none⟩) (by simp) _⟩
  case done =>
   rintro D ys W hD rfl ⟨⟨hne, hcr, hfr, _⟩, hB⟩ hK;obtain rfl : R = true := hR.symm.trans (List.all_eq_true.2 hne);gi_wp2;have hK' := (KeepsOthers.setCell W ⟨w.heap.size, 0, none⟩ (.bool true)).same D _ hK rfl;refine ⟨by simp, .inl ⟨_, _, rfl, run_takeDeferred hK', ?_⟩⟩;have hc5 := Go.cell_kept (World.cell?_setCell_same' W ⟨w.heap.size, 0, none⟩ (.bool true) (by rw [hcr]; rfl)) (grownBy_putObj' _ D (.deferred none)) (fun r e => by cases e; exact ⟨_, hK', rfl⟩);refine ⟨.bool true, ?_, rfl, (hB.setCell (p := ⟨w.heap.size, 0, none⟩) (by simp) _).trans (belowK_b (w := w) (Nat.le_refl _) _ D _ _ (by omega) hK' rfl rfl)⟩;simp [results, Tryz.f53, go_sem, hc5]
  case stop =>
   rintro D pre W hD hpre ⟨⟨⟨y, hy, hv⟩, hcr⟩, hB⟩ hK;obtain rfl : R = false := hR.symm.trans (List.all_eq_false.2 ⟨y, hpre.subset hy, by rw [hv]; decide⟩);gi_wp2;refine ⟨by simp, .inl ⟨_, _, rfl, run_takeDeferred hK, ?_⟩⟩;have hc5 := Go.cell_kept hcr (grownBy_putObj' _ D (.deferred none)) (fun r e => by cases e; exact ⟨_, hK, rfl⟩);refine ⟨.bool false, ?_, rfl, hB.trans (belowK_b (w := w) (Nat.le_refl _) W D _ _ (by omega) hK rfl rfl)⟩;simp [results, Tryz.f53, go_sem, hc5]
 ·rw [decide_eq_false hl, Bool.false_and]
  gi_wp2;have z0 := new_l w (.bool false) 4;show LeavesIn _ _ _ _ _ _ _ _ _
  refine ⟨.bool false, ?_, rfl, (Below.refl _ w).alloc (Nat.le_refl _) _⟩;simp [results, Tryz.f53, go_sem, z0.1]
end

/-! ### stringslite_HasPrefix: function 83 -/
def stringslite_HasPrefix.f (a0 : ByteArray) (a1 : ByteArray) : Option (Bool) := if (a0.size : Int) ≥ (a1.size : Int) then (if 0 ≤ (a1.size : Int) then (if (a1.size : Int) ≤ (a0.size : Int) then (some ((a0.extract 0 a1.size).toList == a1.toList)) else (none)) else (none)) else (some false)
set_option maxHeartbeats 8000000 in
set_option maxRecDepth 100000 in
theorem stringslite_HasPrefix.calls (a0 : ByteArray) (a1 : ByteArray) (r : Bool) (w : World) (h : stringslite_HasPrefix.f a0 a1 = some r) :
  Calls Tryz.prog 83 #[.string a0, .string a1] w fun e w' => e = .returned (.bool r) ∧ Drawn0 w w' := by
 have H : (if (a0.size : Int) ≥ (a1.size : Int) then (if 0 ≤ (a1.size : Int) then (if (a1.size : Int) ≤ (a0.size : Int) then (some ((a0.extract 0 a1.size).toList == a1.toList)) else (none)) else (none)) else (some false)) = some r := h;clear h;by_cases c3 : (a0.size : Int) ≥ (a1.size : Int)
 ·rw [if_pos c3] at H
  have pa := decide_eq_true c3;have pb : decide (a1.size ≤ a0.size) = true := decide_eq_true (Int.ofNat_le.mp c3);clear c3;by_cases c4 : 0 ≤ (a1.size : Int)
  ·rw [if_pos c4] at H
   have pc := eq_true c4;have pd := decide_eq_true c4;clear c4;by_cases c5 : (a1.size : Int) ≤ (a0.size : Int)
   ·rw [if_pos c5] at H
    have pf := eq_true c5;have pg := decide_eq_true c5;clear c5;obtain rfl := Option.some.inj H;go_enter Tryz.func83, Tryz.ntmps83;go_wp2;go_ret;exact ⟨sd_, dr_⟩
   ·rw [if_neg c5] at H
    cases H
  ·rw [if_neg c4] at H
   cases H
 ·rw [if_neg c3] at H
  have pa := decide_eq_false c3;have pb : decide (a1.size ≤ a0.size) = false := decide_eq_false (fun h => c3 (Int.ofNat_le.mpr h));clear c3;obtain rfl := Option.some.inj H;go_enter Tryz.func83, Tryz.ntmps83;go_wp2;go_ret;exact ⟨sd_, dr_⟩

/-! ### strings_HasPrefix: function 60 -/
def strings_HasPrefix.f (a0 : ByteArray) (a1 : ByteArray) : Option (Bool) := (stringslite_HasPrefix.f a0 a1).bind fun t122 => (some t122)
set_option maxHeartbeats 8000000 in
set_option maxRecDepth 100000 in
theorem strings_HasPrefix.calls (a0 : ByteArray) (a1 : ByteArray) (r : Bool) (w : World) (h : strings_HasPrefix.f a0 a1 = some r) :
  Calls Tryz.prog 60 #[.string a0, .string a1] w fun e w' => e = .returned (.bool r) ∧ Drawn0 w w' := by
 have H : ((stringslite_HasPrefix.f a0 a1).bind fun pa => (some pa)) = some r := h;clear h;obtain ⟨pa, A3, H⟩ := bnd_ H;obtain rfl := Option.some.inj H;go_enter Tryz.func60, Tryz.ntmps60;go_wp2_with (first | ((with_reducible refine gate_callee (f := 83) rfl ?_); refine goesL_ (some 7) rfl rfl Tryz.func83 kr_ rfl #[.string a0, .string a1] rfl rl_ ?_; (with_reducible refine (stringslite_HasPrefix.calls a0 a1 pa _ A3.out).mono ?_); rintro e w' ⟨rfl, ⟨nd, rfl⟩⟩; refine ⟨_, rfl, ?_⟩));go_ret;exact ⟨sd_, dr_⟩

/-! ### path_Is: function 54 -/
def path_Is.ok (c : UInt8) : Bool := decide (33 ≤ c.toNat) && (decide (c.toNat ≤ 126) && (c.toNat != 63 && c.toNat != 35))
def path_Is.f (a0 : ByteArray) : Option (Bool) := if a0.data.toList.all path_Is.ok = true then ((strings_HasPrefix.f a0 (⟨#[47]⟩ : ByteArray)).bind fun t => (if t = true then (some (decide ((a0.size : Int) ≤ 60))) else (some false))) else (some false)
theorem path_Is.take_succ (s : ByteArray) (pos : Nat) (h : pos < s.size) (ha : (s.data.toList.take pos).all path_Is.ok = true) (hc : path_Is.ok (s[pos]'h) = true) : (s.data.toList.take (pos + 1)).all path_Is.ok = true := by
 rw [List.take_succ_eq_append_getElem (by simpa using h), List.all_append, ha]
 simp only [List.all_cons, List.all_nil, Bool.and_true, Bool.true_and]
 exact hc
theorem path_Is.not_all (s : ByteArray) (pos : Nat) (h : pos < s.size) (hc : ¬ path_Is.ok (s[pos]'h) = true) : ¬ s.data.toList.all path_Is.ok = true := by
 intro ha
 exact hc (List.all_eq_true.1 ha _ (List.getElem_mem (l := s.data.toList) (n := pos) (by simpa using h)))
theorem path_Is.bad_rune (s : ByteArray) (pos : Nat) (h : pos < s.size) (hc : ¬ path_Is.ok (s[pos]'h) = true) :
  (Utf8.decode s pos).1 < 33 ∨ (33 ≤ (Utf8.decode s pos).1 ∧ 126 < (Utf8.decode s pos).1) ∨ (Utf8.decode s pos).1 = 63 ∨ (Utf8.decode s pos).1 = 35 := by
 by_cases ha : (s[pos]'h).toNat < 128
 ·rw [decode_ascii s pos h ha]
  simp only [path_Is.ok, Bool.and_eq_true, decide_eq_true_eq, bne_iff_ne, not_and] at hc
  omega
 ·have := (decode_high s pos h (by omega)).1
  omega
set_option maxHeartbeats 8000000 in
set_option maxRecDepth 100000 in
theorem path_Is.calls (a0 : ByteArray) (r : Bool) (w : World) (h : path_Is.f a0 = some r) :
  Calls Tryz.prog 54 #[.string a0] w fun e w' => e = .returned (.bool r) ∧ Below w.heap.size w w' := by
 have H := Aside0.mk h;clear h;go_enter Tryz.func54, Tryz.ntmps54;go_wp2;go_loopw [] (fun wr => ∃ pos : Nat, wr = w.iter a0 pos ∧ pos ≤ a0.size ∧ (a0.data.toList.take pos).all path_Is.ok = true) (fun wr => a0.size - wr.iterPos w.heap.size)
 case atStart => exact ⟨0, rfl, by omega, by simp⟩
 case round =>
  obtain ⟨pos, rfl, hle, hall0⟩ := hrel;have hall := Aside0.mk hall0;clear hall0;by_cases hp : pos < a0.size
  ·by_cases hc : path_Is.ok (a0[pos]'hp) = true
   ·have hc' := hc
    simp only [path_Is.ok, Bool.and_eq_true, decide_eq_true_eq, bne_iff_ne] at hc';obtain ⟨h1, h2, h3, h4⟩ := hc';have hnx := fun ty => run_next_ascii (P := Tryz.prog) w a0 pos ty hp (by omega)
    have hs := am_ (path_Is.take_succ a0 pos hp hall.out hc);clear hc hall;have b1 : decide (((a0[pos]'hp).toNat : Int) < 33) = false := decide_eq_false (by omega);have b2 : decide (126 < ((a0[pos]'hp).toNat : Int)) = false := decide_eq_false (by omega);have b3 : (((a0[pos]'hp).toNat : Int) == 63) = false := beq_eq_false_iff_ne.2 (by omega);have b4 : (((a0[pos]'hp).toNat : Int) == 35) = false := beq_eq_false_iff_ne.2 (by omega);clear h1 h2 h3 h4;go_wp2;go_roundw
    case rel => exact ⟨pos + 1, rfl, by omega, hs.out⟩
    case measure => simp [World.iterPos_iter]; omega
   ·have hbad := path_Is.bad_rune a0 pos hp hc
    have hr : r = false := by
     have := H.out;rw [path_Is.f, if_neg (path_Is.not_all a0 pos hp hc)] at this;exact (Option.some.inj this).symm
    subst hr;clear H hall hc;have hnx := fun ty => run_next_any (P := Tryz.prog) w a0 pos ty hp
    generalize (Utf8.decode a0 pos).1 = c at hnx hbad;generalize (Utf8.decode a0 pos).2 = n at hnx;by_cases h1 : c < 33
    ·have b1 : decide ((c : Int) < 33) = true := decide_eq_true (by omega)
     clear hbad h1;go_wp2;go_ret;exact ⟨rfl, (Below.refl _ w).alloc (Nat.le_refl _) _⟩
    ·have b1 : decide ((c : Int) < 33) = false := decide_eq_false (by omega)
     by_cases h2 : 126 < c
     ·have b2 : decide (126 < (c : Int)) = true := decide_eq_true (by omega)
      clear hbad h1 h2;go_wp2;go_ret;exact ⟨rfl, (Below.refl _ w).alloc (Nat.le_refl _) _⟩
     ·have b2 : decide (126 < (c : Int)) = false := decide_eq_false (by omega)
      by_cases h3 : c = 63
      ·subst h3
       clear hbad h1 h2 b1 b2;go_wp2;go_ret;exact ⟨rfl, (Below.refl _ w).alloc (Nat.le_refl _) _⟩
      ·obtain rfl : c = 35 := by omega
       clear hbad h1 h2 b1 b2 h3;go_wp2;go_ret;exact ⟨rfl, (Below.refl _ w).alloc (Nat.le_refl _) _⟩
  ·have hnx := fun ty => run_next_end (P := Tryz.prog) w a0 pos ty hp
   have ha : a0.data.toList.all path_Is.ok = true := by
    have := hall.out;rwa [List.take_of_length_le (by simp; omega)] at this
   have H2 := H.out;clear H hall;rw [path_Is.f, if_pos ha] at H2;clear ha;obtain ⟨t, ht, H2⟩ := Option.bind_eq_some_iff.1 H2;have HT := Aside0.mk ht;clear ht;cases t
   ·rw [if_neg (by simp)] at H2
    obtain rfl := Option.some.inj H2;clear H2;go_wp2_with ((with_reducible refine (strings_HasPrefix.calls a0 _ false _ HT.out).mono ?_); rintro e w' ⟨rfl, ⟨nd, rfl⟩⟩);go_ret;exact ⟨rfl, by repeat (first | (with_reducible first | exact Below.refl _ _ | apply below_alloc | apply pw_below_drewN | apply below_drew1 | apply World.iter) | exact (Below.refl _ w).alloc (Nat.le_refl _) _)⟩
   ·rw [if_pos rfl] at H2
    obtain rfl := Option.some.inj H2;clear H2;go_wp2_with ((with_reducible refine (strings_HasPrefix.calls a0 _ true _ HT.out).mono ?_); rintro e w' ⟨rfl, ⟨nd, rfl⟩⟩);go_ret;exact ⟨by simp, by repeat (first | (with_reducible first | exact Below.refl _ _ | apply below_alloc | apply pw_below_drewN | apply below_drew1 | apply World.iter) | exact (Below.refl _ w).alloc (Nat.le_refl _) _)⟩

/-! ### stringslite_HasSuffix: function 114 -/
def stringslite_HasSuffix.f (a0 : ByteArray) (a1 : ByteArray) : Option (Bool) := if (a0.size : Int) ≥ (a1.size : Int) then (if 0 ≤ (wrap64 ((a0.size : Int) - (a1.size : Int))) then (if (wrap64 ((a0.size : Int) - (a1.size : Int))) ≤ (a0.size : Int) then (some ((a0.extract ((wrap64 ((a0.size : Int) - (a1.size : Int))) : Int).toNat a0.size).toList == a1.toList)) else (none)) else (none)) else (some false)
set_option maxHeartbeats 8000000 in
set_option maxRecDepth 100000 in
theorem stringslite_HasSuffix.calls (a0 : ByteArray) (a1 : ByteArray) (r : Bool) (w : World) (h : stringslite_HasSuffix.f a0 a1 = some r) :
  Calls Tryz.prog 114 #[.string a0, .string a1] w fun e w' => e = .returned (.bool r) ∧ Drawn0 w w' := by
 have H : (if (a0.size : Int) ≥ (a1.size : Int) then (if 0 ≤ (wrap64 ((a0.size : Int) - (a1.size : Int))) then (if (wrap64 ((a0.size : Int) - (a1.size : Int))) ≤ (a0.size : Int) then (some ((a0.extract ((wrap64 ((a0.size : Int) - (a1.size : Int))) : Int).toNat a0.size).toList == a1.toList)) else (none)) else (none)) else (some false)) = some r := h;clear h;by_cases c3 : (a0.size : Int) ≥ (a1.size : Int)
 ·rw [if_pos c3] at H
  have pb := decide_eq_true c3;have pc : decide (a1.size ≤ a0.size) = true := decide_eq_true (Int.ofNat_le.mp c3);clear c3;obtain ⟨ji4, pa⟩ : ∃ j_ : Int, (wrap64 ((a0.size : Int) - (a1.size : Int))) = j_ := ⟨_, rfl⟩;replace H : (if 0 ≤ (ji4) then (if (ji4) ≤ (a0.size : Int) then (some ((a0.extract ((ji4) : Int).toNat a0.size).toList == a1.toList)) else (none)) else (none)) = some r := by first | (rw [pa] at H; exact H) | (simp only [pa] at H ⊢; exact H)
  have hji4w : (IntKind.i64.wrap ((a0.size : Int) - (a1.size : Int))) = ji4 := (i64_w _).trans pa;by_cases c5 : 0 ≤ (ji4)
  ·rw [if_pos c5] at H
   have pd := eq_true c5;have pf := decide_eq_true c5;clear c5;by_cases c6 : (ji4) ≤ (a0.size : Int)
   ·rw [if_pos c6] at H
    have pg := eq_true c6;have ph := decide_eq_true c6;clear c6;obtain rfl := Option.some.inj H;go_enter Tryz.func114, Tryz.ntmps114;go_wp2;go_ret;exact ⟨by first | rfl | (simp; done) | (simp only [← pa] <;> (first | rfl | simp)) | (simp [*]; done), dr_⟩
   ·rw [if_neg c6] at H
    cases H
  ·rw [if_neg c5] at H
   cases H
 ·rw [if_neg c3] at H
  have pb := decide_eq_false c3;have pc : decide (a1.size ≤ a0.size) = false := decide_eq_false (fun h => c3 (Int.ofNat_le.mpr h));clear c3;obtain rfl := Option.some.inj H;go_enter Tryz.func114, Tryz.ntmps114;go_wp2;go_ret;exact ⟨sd_, dr_⟩

/-! ### strings_HasSuffix: function 98 -/
def strings_HasSuffix.f (a0 : ByteArray) (a1 : ByteArray) : Option (Bool) := (stringslite_HasSuffix.f a0 a1).bind fun t123 => (some t123)
set_option maxHeartbeats 8000000 in
set_option maxRecDepth 100000 in
theorem strings_HasSuffix.calls (a0 : ByteArray) (a1 : ByteArray) (r : Bool) (w : World) (h : strings_HasSuffix.f a0 a1 = some r) :
  Calls Tryz.prog 98 #[.string a0, .string a1] w fun e w' => e = .returned (.bool r) ∧ Drawn0 w w' := by
 have H : ((stringslite_HasSuffix.f a0 a1).bind fun pa => (some pa)) = some r := h;clear h;obtain ⟨pa, A3, H⟩ := bnd_ H;obtain rfl := Option.some.inj H;go_enter Tryz.func98, Tryz.ntmps98;go_wp2_with (first | ((with_reducible refine gate_callee (f := 114) rfl ?_); refine goesL_ (some 7) rfl rfl Tryz.func114 kr_ rfl #[.string a0, .string a1] rfl rl_ ?_; (with_reducible refine (stringslite_HasSuffix.calls a0 a1 pa _ A3.out).mono ?_); rintro e w' ⟨rfl, ⟨nd, rfl⟩⟩; refine ⟨_, rfl, ?_⟩));go_ret;exact ⟨sd_, dr_⟩

/-! ### path_above: function 80 -/
def path_above.f (a0 : ByteArray) : Option (Bool) := (path_Is.f a0).bind fun t124 => (if t124 = true then (if a0.toList = ([47] : List UInt8) then (some true) else ((strings_HasSuffix.f a0 (⟨#[47]⟩ : ByteArray)).bind fun t125 => (some (!t125)))) else (some false))
set_option maxHeartbeats 8000000 in
set_option maxRecDepth 100000 in
theorem path_above.calls (a0 : ByteArray) (r : Bool) (w : World) (h : path_above.f a0 = some r) :
  Calls Tryz.prog 80 #[.string a0] w fun e w' => e = .returned (.bool r) ∧ Below w.heap.size w w' := by
 have HB := am_ (Below.refl w.heap.size w);have H : ((path_Is.f a0).bind fun pa => (if pa = true then (if a0.toList = ([47] : List UInt8) then (some true) else ((strings_HasSuffix.f a0 (⟨#[47]⟩ : ByteArray)).bind fun pb => (some (!pb)))) else (some false))) = some r := h;clear h;obtain ⟨pa, A2, H⟩ := bnd_ H;by_cases c3 : pa = true
 ·subst c3
  replace H := ift_ H;by_cases c4 : a0.toList = ([47] : List UInt8)
  ·rw [if_pos c4] at H
   have pc := eqb_ c4;have pd := neb_ c4;clear c4;obtain rfl := Option.some.inj H;go_enter Tryz.func80, Tryz.ntmps80;go_wp2_with (first | ((with_reducible refine gate_callee (f := 54) rfl ?_); refine goesL_ (some 4) rfl rfl Tryz.func54 kr_ rfl #[.string a0] rfl rl_ ?_; (with_reducible refine (path_Is.calls a0 true _ A2.out).mono ?_); rintro e w5 ⟨rfl, hb⟩; refine ⟨_, rfl, ?_⟩; replace HB := bs_ HB hb; (try clear hb)));go_ret;exact ⟨fi_, bel_ HB.out⟩
  ·rw [if_neg c4] at H
   have pc := eqf_ c4;have pd := nef_ c4;obtain ⟨pb, A6, H⟩ := bnd_ H;obtain rfl := Option.some.inj H;go_enter Tryz.func80, Tryz.ntmps80;go_wp2_with (first | ((with_reducible refine gate_callee (f := 54) rfl ?_); refine goesL_ (some 4) rfl rfl Tryz.func54 kr_ rfl #[.string a0] rfl rl_ ?_; (with_reducible refine (path_Is.calls a0 true _ A2.out).mono ?_); rintro e w7 ⟨rfl, hb⟩; refine ⟨_, rfl, ?_⟩; replace HB := bs_ HB hb; (try clear hb)) | (go_at_call 98; (with_reducible refine (strings_HasSuffix.calls a0 (⟨#[47]⟩ : ByteArray) pb _ A6.out).mono ?_); rintro e w' ⟨rfl, ⟨nd, rfl⟩⟩));go_ret;exact ⟨fi_, bel_ HB.out⟩
 ·replace c3 := Bool.eq_false_iff.mpr c3
  subst c3;replace H := iff_ H;obtain rfl := Option.some.inj H;go_enter Tryz.func80, Tryz.ntmps80;go_wp2_with (first | ((with_reducible refine gate_callee (f := 54) rfl ?_); refine goesL_ (some 4) rfl rfl Tryz.func54 kr_ rfl #[.string a0] rfl rl_ ?_; (with_reducible refine (path_Is.calls a0 false _ A2.out).mono ?_); rintro e w8 ⟨rfl, hb⟩; refine ⟨_, rfl, ?_⟩; replace HB := bs_ HB hb; (try clear hb)));go_ret;exact ⟨fi_, bel_ HB.out⟩

/-! ### path_May: function 55 -/
def path_May.f (a0_0 : Int) (a0_1 : ByteArray) : Option (Bool) := if a0_0 = 1 then ((path_Is.f a0_1).bind fun t127 => (if t127 = true then (some true) else (if a0_0 = 2 then ((path_above.f a0_1).bind fun t128 => (some t128)) else (some false)))) else (if a0_0 = 2 then ((path_above.f a0_1).bind fun t129 => (some t129)) else (some false))
set_option maxHeartbeats 8000000 in
set_option maxRecDepth 100000 in
theorem path_May.calls (pc : Int) (pb : ByteArray) (r : Bool) (w : World) (h : path_May.f pc pb = some r) :
  Calls Tryz.prog 55 #[.agg #[.int .i64 pc, .string pb]] w fun e w' => e = .returned (.bool r) ∧ Below w.heap.size w w' := by
 have hu30 := Tryz.underlying30;have HB := am_ (Below.refl w.heap.size w);have H : (if pc = 1 then ((path_Is.f pb).bind fun ph => (if ph = true then (some true) else (if pc = 2 then ((path_above.f pb).bind fun pi => (some pi)) else (some false)))) else (if pc = 2 then ((path_above.f pb).bind fun pj => (some pj)) else (some false))) = some r := h;clear h;by_cases c2 : pc = 1
 ·rw [if_pos c2] at H
  have pk := eqb_ c2;have pl := neb_ c2;clear c2;obtain ⟨ph, A3, H⟩ := bnd_ H;by_cases c4 : ph = true
  ·subst c4
   replace H := ift_ H;obtain rfl := Option.some.inj H;go_enter Tryz.func55, Tryz.ntmps55;go_wp2_with (first | ((with_reducible refine gate_dst (N := 1) rfl ?_); refine box_event ?hg (N := 1) ?hd (cs := #[.int .i64 pc, .string pb]) (t := 30) ?hr ?_; (case hd => rfl); (case hg => rfl); (case hr => first | (go_simp; done) | (go_simp; rfl)); intro pd hg w5 hbox hb; have pa := am_ (hbox); have pf := sz_ HB hg; have pg := sz_ HB hg; replace HB := bs_ HB hb; clear hb hbox hg; obtain ⟨pq, pr, pt, pu⟩ := blk2 pa.out) | (go_at_call 54; (with_reducible refine (path_Is.calls pb true _ A3.out).mono ?_); rintro e w7 ⟨rfl, hb⟩; replace pa := bb_ pa hb; replace HB := bs_ HB hb; (try clear hb)));go_ret;exact ⟨fi_, bel_ HB.out⟩
  ·replace c4 := Bool.eq_false_iff.mpr c4
   subst c4;replace H := iff_ H;by_cases c8 : pc = 2
   ·rw [if_pos c8] at H
    have pm := eqb_ c8;have pn := neb_ c8;clear c8;obtain ⟨pi, A9, H⟩ := bnd_ H;obtain rfl := Option.some.inj H;go_enter Tryz.func55, Tryz.ntmps55;go_wp2_with (first | ((with_reducible refine gate_dst (N := 1) rfl ?_); refine box_event ?hg (N := 1) ?hd (cs := #[.int .i64 pc, .string pb]) (t := 30) ?hr ?_; (case hd => rfl); (case hg => rfl); (case hr => first | (go_simp; done) | (go_simp; rfl)); intro pd hg w10 hbox hb; have pa := am_ (hbox); have pf := sz_ HB hg; have pg := sz_ HB hg; replace HB := bs_ HB hb; clear hb hbox hg; obtain ⟨pv, pw, px, pz⟩ := blk2 pa.out) | (go_at_call 54; (with_reducible refine (path_Is.calls pb false _ A3.out).mono ?_); rintro e w12 ⟨rfl, hb⟩; replace pa := bb_ pa hb; replace HB := bs_ HB hb; (try clear hb); obtain ⟨pA, pB, pC, pD⟩ := blk2 pa.out) | (go_at_call 80; (with_reducible refine (path_above.calls pb pi _ A9.out).mono ?_); rintro e w14 ⟨rfl, hb⟩; replace pa := bb_ pa hb; replace HB := bs_ HB hb; (try clear hb)));go_ret;exact ⟨fi_, bel_ HB.out⟩
   ·rw [if_neg c8] at H
    have pm := eqf_ c8;have pn := nef_ c8;obtain rfl := Option.some.inj H;go_enter Tryz.func55, Tryz.ntmps55;go_wp2_with (first | ((with_reducible refine gate_dst (N := 1) rfl ?_); refine box_event ?hg (N := 1) ?hd (cs := #[.int .i64 pc, .string pb]) (t := 30) ?hr ?_; (case hd => rfl); (case hg => rfl); (case hr => first | (go_simp; done) | (go_simp; rfl)); intro pd hg w15 hbox hb; have pa := am_ (hbox); have pf := sz_ HB hg; have pg := sz_ HB hg; replace HB := bs_ HB hb; clear hb hbox hg; obtain ⟨pE, pF, pG, pH⟩ := blk2 pa.out) | (go_at_call 54; (with_reducible refine (path_Is.calls pb false _ A3.out).mono ?_); rintro e w17 ⟨rfl, hb⟩; replace pa := bb_ pa hb; replace HB := bs_ HB hb; (try clear hb); obtain ⟨pI, pJ, pK, pL⟩ := blk2 pa.out));go_ret;exact ⟨fi_, bel_ HB.out⟩
 ·rw [if_neg c2] at H
  have pk := eqf_ c2;have pl := nef_ c2;by_cases c19 : pc = 2
  ·rw [if_pos c19] at H
   have po := eqb_ c19;have pp := neb_ c19;clear c19;obtain ⟨pj, A20, H⟩ := bnd_ H;obtain rfl := Option.some.inj H;go_enter Tryz.func55, Tryz.ntmps55;go_wp2_with (first | ((with_reducible refine gate_dst (N := 1) rfl ?_); refine box_event ?hg (N := 1) ?hd (cs := #[.int .i64 pc, .string pb]) (t := 30) ?hr ?_; (case hd => rfl); (case hg => rfl); (case hr => first | (go_simp; done) | (go_simp; rfl)); intro pd hg w21 hbox hb; have pa := am_ (hbox); have pf := sz_ HB hg; have pg := sz_ HB hg; replace HB := bs_ HB hb; clear hb hbox hg; obtain ⟨pM, pN, pO, pP⟩ := blk2 pa.out) | (go_at_call 80; (with_reducible refine (path_above.calls pb pj _ A20.out).mono ?_); rintro e w23 ⟨rfl, hb⟩; replace pa := bb_ pa hb; replace HB := bs_ HB hb; (try clear hb)));go_ret;exact ⟨fi_, bel_ HB.out⟩
  ·rw [if_neg c19] at H
   have po := eqf_ c19;have pp := nef_ c19;obtain rfl := Option.some.inj H;go_enter Tryz.func55, Tryz.ntmps55;go_wp2_with (first | ((with_reducible refine gate_dst (N := 1) rfl ?_); refine box_event ?hg (N := 1) ?hd (cs := #[.int .i64 pc, .string pb]) (t := 30) ?hr ?_; (case hd => rfl); (case hg => rfl); (case hr => first | (go_simp; done) | (go_simp; rfl)); intro pd hg w24 hbox hb; have pa := am_ (hbox); have pf := sz_ HB hg; have pg := sz_ HB hg; replace HB := bs_ HB hb; clear hb hbox hg; obtain ⟨pQ, pR, pS, pT⟩ := blk2 pa.out));go_ret;exact ⟨fi_, bel_ HB.out⟩

/-! ### filter_turns: function 30 -/
def filter_turns.j0 : Nat → Bool → Int → ByteArray → ByteArray → ByteArray → Int → ByteArray → Bool → Int → Option (Bool)
 | 0, _, _, _, _, _, _, _, _, _ => none
 | k + 1, x11, x131000, x131001, x131002, x131003, x131004, x131005, x131006, x131007 => if x11 = true then (some false) else (if x131005.toList = ([] : List UInt8) then (some (!x131006)) else (if x131006 = true then ((path_Is.f x131005).bind fun t132 => (some t132)) else ((path_May.f 2 x131005).bind fun t133 => (some t133))))
def filter_turns.f (k : Nat) (a0_0 : Int) (a0_1 : ByteArray) (a0_2 : ByteArray) (a0_3 : ByteArray) (a0_4 : Int) (a0_5 : ByteArray) (a0_6 : Bool) (a0_7 : Int) : Option (Bool) := if a0_3.toList = ([] : List UInt8) then (filter_turns.j0 k false a0_0 a0_1 a0_2 a0_3 a0_4 a0_5 a0_6 a0_7) else ((dns_Name.f a0_3).bind fun t131 => (filter_turns.j0 k (!t131) a0_0 a0_1 a0_2 a0_3 a0_4 a0_5 a0_6 a0_7))
theorem filter_turns.mono_l : ∀ k, (∀ y0 y1 y2 y3 y4 y5 y6 y7 y8, LeO (filter_turns.j0 k y0 y1 y2 y3 y4 y5 y6 y7 y8) (filter_turns.j0 (k + 1) y0 y1 y2 y3 y4 y5 y6 y7 y8))
 | 0 => fun _ _ _ _ _ _ _ _ _ r h => by simp [filter_turns.j0] at h
 | k + 1 => by
  have ih0 := filter_turns.mono_l k
  ·intro y0 y1 y2 y3 y4 y5 y6 y7 y8
   unfold filter_turns.j0
   repeat' with_reducible first | apply ih0 | apply LeO.refl | apply LeO.none | apply LeO.ite | refine LeO.bind ?_ fun _ => ?_
theorem filter_turns.mono : ∀ a0 a1 a2 a3 a4 a5 a6 a7 k, LeO (filter_turns.f k a0 a1 a2 a3 a4 a5 a6 a7) (filter_turns.f (k + 1) a0 a1 a2 a3 a4 a5 a6 a7) := by
 intro a0 a1 a2 a3 a4 a5 a6 a7 k
 have ih0 := filter_turns.mono_l k
 unfold filter_turns.f
 repeat' with_reducible first | apply ih0 | apply LeO.refl | apply LeO.none | apply LeO.ite | refine LeO.bind ?_ fun _ => ?_
set_option maxHeartbeats 8000000 in
set_option maxRecDepth 100000 in
theorem filter_turns.calls (k : Nat) (pf : Int) (pg : ByteArray) (ph : ByteArray) (pc : ByteArray) (pi : Int) (pb : ByteArray) (pd : Bool) (pj : Int) (r : Bool) (w : World) (h : filter_turns.f k pf pg ph pc pi pb pd pj = some r) :
  Calls Tryz.prog 30 #[.agg #[.int .i64 pf, .string pg, .string ph, .string pc, .int .i64 pi, .string pb, .bool pd, .int .i64 pj]] w fun e w' => e = .returned (.bool r) ∧ Below w.heap.size w w' := by
 have hu26 := Tryz.underlying26;have hu30 := Tryz.underlying30;have HB := am_ (Below.refl w.heap.size w);have H : (if pc.toList = ([] : List UInt8) then (filter_turns.j0 k false pf pg ph pc pi pb pd pj) else ((dns_Name.f pc).bind fun pl => (filter_turns.j0 k (!pl) pf pg ph pc pi pb pd pj))) = some r := h;clear h;have HC2 := Aside0.mk H;clear H;go_enter Tryz.func30, Tryz.ntmps30;go_upto_region 1 with (first | ((with_reducible refine gate_dst (N := 1) rfl ?_); refine box_event ?hg (N := 1) ?hd (cs := #[.int .i64 pf, .string pg, .string ph, .string pc, .int .i64 pi, .string pb, .bool pd, .int .i64 pj]) (t := 26) ?hr ?_; (case hd => rfl); (case hg => rfl); (case hr => first | (go_simp; done) | (go_simp; rfl)); intro po hg w3 hbox hb; have pa := am_ (hbox); have pw := sz_ HB hg; have px := sz_ HB hg; replace HB := bs_ HB hb; clear hb hbox hg))
 (try simp only [Act.put, List.setIfInBounds_toArray, List.set_cons_zero, List.set_cons_succ]);go_cut [11] (fun pp wc => ∃ (kq : Nat) (pm : Bool), pp = .bool pm ∧ Aside0 (filter_turns.j0 kq pm pf pg ph pc pi pb pd pj = some r) ∧ Aside0 (kq ≤ k) ∧ Aside0 (wc.heap[po]? = some (.cells #[.int .i64 pf, .string pg, .string ph, .string pc, .int .i64 pi, .string pb, .bool pd, .int .i64 pj] 26 (0, 0))) ∧ Aside0 (Below w.heap.size w wc))
 case first =>
  have H := HC2.out;clear HC2;by_cases c4 : pc.toList = ([] : List UInt8)
  ·rw [if_pos c4] at H
   have pk := eqb_ c4;have pn := neb_ c4;clear c4;(first | rw [pk] | rw [pn] | rw [pq] | (simp only [i64_w, i32_w]; rw [pk]) | skip);have H' := Aside0.mk H;clear H;obtain ⟨pz, pA, pB, pC, pD, pE, pF, pG, pH, pI, pJ, pK, pL, pM, pN, pO⟩ := blk8 pa.out;go_wp2;go_meet
   case rel => exact ⟨_, (false), sd_, H', ⟨le_⟩, ⟨blk_ pa.out⟩, ⟨bel_ HB.out⟩⟩
  ·rw [if_neg c4] at H
   have pk := eqf_ c4;have pn := nef_ c4;(first | rw [pk] | rw [pn] | rw [pq] | (simp only [i64_w, i32_w]; rw [pk]) | skip);obtain ⟨pl, A6, H⟩ := bnd_ H;have H' := Aside0.mk H;clear H;obtain ⟨pP, pQ, pR, pS, pT, pU, pV, pW, pX, pY, pZ, p0, p1, p2, p3, p4⟩ := blk8 pa.out;go_wp2_with (first | (go_at_call 53; (with_reducible refine (dns_Name.calls pc pl _ A6.out).mono ?_); rintro e w8 ⟨rfl, hb⟩; replace pa := bb_ pa hb; replace HB := bs_ HB hb; (try clear hb)));go_meet
   case rel => exact ⟨_, (!pl), sd_, H', ⟨le_⟩, ⟨blk_ pa.out⟩, ⟨bel_ HB.out⟩⟩
 case rest =>
  clear HC2;obtain ⟨kq, pm, rfl, HA, HJ1, pa, HB⟩ := hcut;cases kq with
  | zero => exact absurd HA.out (by simp [filter_turns.j0])
  | succ kj1 =>
   have H := HA.out;clear HA;simp only [filter_turns.j0] at H;by_cases c9 : pm = true
   ·subst c9
    replace H := ift_ H;obtain rfl := Option.some.inj H;go_wp2;go_ret;exact ⟨fi_, bel_ HB.out⟩
   ·replace c9 := Bool.eq_false_iff.mpr c9
    subst c9;replace H := iff_ H;by_cases c10 : pb.toList = ([] : List UInt8)
    ·rw [if_pos c10] at H
     have pr := eqb_ c10;have pt := neb_ c10;clear c10;obtain rfl := Option.some.inj H;obtain ⟨p5, p6, p8, p9, qa, qb, qc, qd, qe, qf, qg, qh, qi, qj, qk, ql⟩ := blk8 pa.out;go_wp2;go_ret;exact ⟨fi_, bel_ HB.out⟩
    ·rw [if_neg c10] at H
     have pr := eqf_ c10;have pt := nef_ c10;by_cases c12 : pd = true
     ·subst c12
      replace H := ift_ H;obtain ⟨pu, A13, H⟩ := bnd_ H;obtain rfl := Option.some.inj H;obtain ⟨qm, qn, qo, qp, qq, qr, qs, qt, qu, qv, qw, qx, qy, qz, qA, qB⟩ := blk8 pa.out;go_wp2_with (first | ((with_reducible refine gate_callee (f := 54) rfl ?_); refine goesL_ (some 24) rfl rfl Tryz.func54 kr_ rfl #[.string pb] rfl rl_ ?_; (with_reducible refine (path_Is.calls pb pu _ A13.out).mono ?_); rintro e w15 ⟨rfl, hb⟩; refine ⟨_, rfl, ?_⟩; replace pa := bb_ pa hb; replace HB := bs_ HB hb; (try clear hb)));go_ret;exact ⟨fi_, bel_ HB.out⟩
     ·replace c12 := Bool.eq_false_iff.mpr c12
      subst c12;replace H := iff_ H;obtain ⟨pv, A16, H⟩ := bnd_ H;obtain rfl := Option.some.inj H;obtain ⟨qC, qD, qE, qF, qG, qH, qI, qJ, qK, qL, qM, qN, qO, qP, qQ, qR⟩ := blk8 pa.out;go_wp2_with (first | ((with_reducible refine gate_callee (f := 55) rfl ?_); refine goesL_ (some 28) rfl rfl Tryz.func55 kr_ rfl #[.agg #[.int .i64 2, .string pb]] rfl rl_ ?_; (with_reducible refine (path_May.calls 2 pb pv _ A16.out).mono ?_); rintro e w18 ⟨rfl, hb⟩; refine ⟨_, rfl, ?_⟩; replace pa := bb_ pa hb; replace HB := bs_ HB hb; (try clear hb)));go_ret;exact ⟨fi_, bel_ HB.out⟩

end Go.Proofs.YtfdopmjgiakcdaaGreatDoor.P
