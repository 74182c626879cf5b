-- written by wip/tool/hprint.py of this repo: the kit's print, with contracts by hand joined; Lean checks it.
import Derived.Test.YtglghmcdcdljoaaDoorPx0
import Derived.Test.YtglghmcdcdljoaaDoorPx1
namespace Go.Proofs.YtglghmcdcdljoaaDoor.P
open Go.RowKit Go.Proofs.YtglghmcdcdljoaaDoorW.PrintWords Go.Proofs.YtglghmcdcdljoaaDoorW.PrintLast Go.Proofs.YtglghmcdcdljoaaDoorW.PrintMore
attribute [local go_sem] max2_int min2_int max_two min_two max_three min_three max_four min_four   -- for this text's walks alone
set_option linter.unusedVariables false
set_option linter.unusedSimpArgs false

/-! ### dns_Label: function 25 -/
def dns_Label.f (a0 : ByteArray) : Option (Bool) := if a0.toList = ([] : List UInt8) then (some false) else (if (a0.size : Int) ≤ 20 then ((strings_IndexFunc_with_dns_Label_1.f a0).bind fun t120 => (if t120 < 0 then (if 0 < (a0.size : Int) then (if (bt a0 0) = 45 then (some false) else (if 0 ≤ (wrap64 ((a0.size : Int) - 1)) then (if (wrap64 ((a0.size : Int) - 1)) < (a0.size : Int) then (some ((bt a0 (wrap64 ((a0.size : Int) - 1))) != 45)) else (none)) else (none))) else (none)) else (some false))) else (some false))
set_option maxHeartbeats 8000000 in
set_option maxRecDepth 100000 in
theorem dns_Label.calls (a0 : ByteArray) (r : Bool) (w : World) (h : dns_Label.f a0 = some r) :
  Calls Tryd.prog 25 #[.string a0] w fun e w' => e = .returned (.bool r) ∧ Below w.heap.size w w' := by
 have HB := am_ (Below.refl w.heap.size w)
 have H : (if a0.toList = ([] : List UInt8) then (some false) else (if (a0.size : Int) ≤ 20 then ((strings_IndexFunc_with_dns_Label_1.f a0).bind fun t120 => (if t120 < 0 then (if 0 < (a0.size : Int) then (if (bt a0 0) = 45 then (some false) else (if 0 ≤ (wrap64 ((a0.size : Int) - 1)) then (if (wrap64 ((a0.size : Int) - 1)) < (a0.size : Int) then (some ((bt a0 (wrap64 ((a0.size : Int) - 1))) != 45)) else (none)) else (none))) else (none)) else (some false))) else (some false))) = some r := h
 clear h
 by_cases c2 : a0.toList = ([] : List UInt8)
 ·rw [if_pos c2] at H
  have c2b0 : (a0.toList == ([] : List UInt8)) = true := beq_iff_eq.mpr c2
  have c2b1 : (a0.toList != ([] : List UInt8)) = false := bne_eq_false_iff_eq.mpr c2
  clear c2
  obtain rfl := Option.some.inj H
  go_enter Tryd.func25, Tryd.ntmps25
  go_wp2
  go_ret
  exact ⟨fi_, bel_ HB.out⟩
 ·rw [if_neg c2] at H
  have c2b0 : (a0.toList == ([] : List UInt8)) = false := beq_eq_false_iff_ne.mpr c2
  have c2b1 : (a0.toList != ([] : List UInt8)) = true := bne_iff_ne.mpr c2
  by_cases c3 : (a0.size : Int) ≤ 20
  ·rw [if_pos c3] at H
   have c3b0 : decide ((a0.size : Int) ≤ 20) = true := decide_eq_true c3
   have c3b1 : decide (a0.size ≤ 20) = true := decide_eq_true (by omega)
   clear c3
   replace H := Option.bind_eq_some_iff.mp H
   obtain ⟨t120, A40, H⟩ := H
   replace H : (if t120 < 0 then (if 0 < (a0.size : Int) then (if (bt a0 0) = 45 then (some false) else (if 0 ≤ (wrap64 ((a0.size : Int) - 1)) then (if (wrap64 ((a0.size : Int) - 1)) < (a0.size : Int) then (some ((bt a0 (wrap64 ((a0.size : Int) - 1))) != 45)) else (none)) else (none))) else (none)) else (some false)) = some r := H
   have A4 := Aside0.mk A40
   clear A40
   by_cases c5 : t120 < 0
   ·rw [if_pos c5] at H
    have c5b0 : decide (t120 < 0) = true := decide_eq_true c5
    clear c5
    by_cases c6 : 0 < (a0.size : Int)
    ·rw [if_pos c6] at H
     have c6b0 : decide (0 < (a0.size : Int)) = true := decide_eq_true c6
     have c6b1 : decide (0 < a0.size) = true := decide_eq_true (by omega)
     clear c6
     by_cases c8 : (bt a0 0) = 45
     ·rw [if_pos c8] at H
      have c8b0 : ((bt a0 0) == 45) = true := beq_iff_eq.mpr c8
      have c8b1 : ((bt a0 0) != 45) = false := bne_eq_false_iff_eq.mpr c8
      clear c8
      obtain rfl := Option.some.inj H
      go_enter Tryd.func25, Tryd.ntmps25
      go_wp2_with (first | (go_at_call 39; (with_reducible refine (strings_IndexFunc_with_dns_Label_1.calls a0 t120 _ A4.out).mono ?_); rintro e w9 ⟨rfl, hb⟩; have n0_ := am_ (below_step (bel_ HB.out) hb); clear HB; have HB := n0_; clear n0_; (try clear hb); (try clear hb2); (try clear hk); (try clear hi); have p7 : 0 ≤ (0 : Int) := (by omega); have q7 : 0 < a0.size := (by have : (0 : Int) < (a0.size : Int) := of_decide_eq_true as_; omega); have hx7 : ∀ h : 0 < a0.size, ((a0[0]'h).toNat : Int) = bt a0 0 := bt_at a0 0; clear p7; have qi7 : (0 < (a0.size : Int)) = True := eq_true (of_decide_eq_true as_); replace q7 := eq_true q7))
      go_ret
      exact ⟨fi_, bel_ HB.out⟩
     ·rw [if_neg c8] at H
      have c8b0 : ((bt a0 0) == 45) = false := beq_eq_false_iff_ne.mpr c8
      have c8b1 : ((bt a0 0) != 45) = true := bne_iff_ne.mpr c8
      obtain ⟨ji10, hji10⟩ : ∃ j_ : Int, (wrap64 ((a0.size : Int) - 1)) = j_ := ⟨_, rfl⟩
      replace H : (if 0 ≤ (ji10) then (if (ji10) < (a0.size : Int) then (some ((bt a0 (ji10)) != 45)) else (none)) else (none)) = some r := by first | (rw [hji10] at H; exact H) | (simp only [hji10] at H ⊢; exact H)
      (try rw [hji10] at A4)
      have hji10w : (IntKind.i64.wrap ((a0.size : Int) - 1)) = ji10 := (i64_w _).trans hji10
      by_cases c11 : 0 ≤ (ji10)
      ·rw [if_pos c11] at H
       have c11b0 : decide (0 ≤ (ji10)) = true := decide_eq_true c11
       clear c11
       by_cases c12 : (ji10) < (a0.size : Int)
       ·rw [if_pos c12] at H
        have c12b0 : decide ((ji10) < (a0.size : Int)) = true := decide_eq_true c12
        clear c12
        obtain rfl := Option.some.inj H
        go_enter Tryd.func25, Tryd.ntmps25
        go_wp2_with (first | (go_at_call 39; (with_reducible refine (strings_IndexFunc_with_dns_Label_1.calls a0 t120 _ A4.out).mono ?_); rintro e w14 ⟨rfl, hb⟩; have n0_ := am_ (below_step (bel_ HB.out) hb); clear HB; have HB := n0_; clear n0_; (try clear hb); (try clear hb2); (try clear hk); (try clear hi); have p7 : 0 ≤ (0 : Int) := (by omega); have q7 : 0 < a0.size := (by have : (0 : Int) < (a0.size : Int) := of_decide_eq_true as_; omega); have hx7 : ∀ h : 0 < a0.size, ((a0[0]'h).toNat : Int) = bt a0 0 := bt_at a0 0; clear p7; have qi7 : (0 < (a0.size : Int)) = True := eq_true (of_decide_eq_true as_); replace q7 := eq_true q7; have p13 : 0 ≤ ((ji10) : Int) := of_decide_eq_true as_; have q13 : (ji10) < (a0.size : Int) := of_decide_eq_true as_; have hx13 := bt_at a0 (ji10); replace p13 := eq_true p13; replace q13 := eq_true q13))
        go_ret
        exact ⟨by first | rfl | (simp [errW_none, errW_some] <;> rfl) | (simp only [← hji10]; first | rfl | (simp [errW_none, errW_some] <;> rfl)) | (simp [*, errW_none, errW_some] <;> rfl), bel_ HB.out⟩
       ·rw [if_neg c12] at H
        exact absurd H (by simp)
      ·rw [if_neg c11] at H
       exact absurd H (by simp)
    ·rw [if_neg c6] at H
     exact absurd H (by simp)
   ·rw [if_neg c5] at H
    have c5b0 : decide (t120 < 0) = false := decide_eq_false c5
    clear c5
    obtain rfl := Option.some.inj H
    go_enter Tryd.func25, Tryd.ntmps25
    go_wp2_with (first | (go_at_call 39; (with_reducible refine (strings_IndexFunc_with_dns_Label_1.calls a0 t120 _ A4.out).mono ?_); rintro e w15 ⟨rfl, hb⟩; have n0_ := am_ (below_step (bel_ HB.out) hb); clear HB; have HB := n0_; clear n0_; (try clear hb); (try clear hb2); (try clear hk); (try clear hi)))
    go_ret
    exact ⟨fi_, bel_ HB.out⟩
  ·rw [if_neg c3] at H
   have c3b0 : decide ((a0.size : Int) ≤ 20) = false := decide_eq_false c3
   have c3b1 : decide (a0.size ≤ 20) = false := decide_eq_false (by omega)
   clear c3
   obtain rfl := Option.some.inj H
   go_enter Tryd.func25, Tryd.ntmps25
   go_wp2
   go_ret
   exact ⟨fi_, bel_ HB.out⟩

/-! ### a range over a function whose iterator keeps a state of its own in a cell -/
/-- What such an iterator promises: whatever the loop holds between two rounds, if that abides new blocks and a store into the iterator's own cell: the rounds come in order, all of them, or up to one that says no more. -/
def SeqAt {α : Type} (F : Fence) (n : Nat) (P : Program) (g : Nat) (lb : Array Value) (encs : α → Array Value) (Kp : World → World → Prop) (Bs : Nat) (S Sp : List α → Prop) (Np : List α → Prop) (GG : World → Prop) (w : World) : Prop :=
 ∀ (l : Nat) (J Jx : List α → World → Prop) (W : World), Below w.heap.size w W → AbidesFrom W.heap.size J → AbidesFrom W.heap.size Jx → (∀ s A v, J s A → J s (A.setCell ⟨Bs, 0, none⟩ v)) → (∀ s A, J s A → GG A) →
  (∀ pre x W1, J pre W1 → Np (pre ++ [x]) → YieldAt F (n - 1) P l (encs x) W1 fun e W' =>
   (e = .returned (.bool true) ∧ J (pre ++ [x]) W' ∧ Kp W1 W') ∨ (e = .returned (.bool false) ∧ Jx (pre ++ [x]) W')) →
  J [] W →
  CallsIn F n P g (#[.func (.yield l) #[] #[]] ++ lb) W fun e W' => (∃ v, e = .returned v) ∧ ((∃ xs, S xs ∧ J xs W') ∨ (∃ pre, Sp pre ∧ Jx pre W'))
/-- The loop's record and its block of calls put off lie where they were laid. -/
structure Kept2 (l : Nat) (r : Loop) (W : World) : Prop where
 rec_ : W.heap[l + 1]? = some (.loop r)
 put_ : W.heap[l]? = some (.deferred (some []))
theorem Kept2.turn {l : Nat} {r r' : Loop} {W : World} (h : Kept2 l r W) : Kept2 l r' (W.putObj (l + 1) (.loop r')) :=
 ⟨World.putObj_heap_same (Array.getElem?_eq_some_iff.1 h.1).1, (World.putObj_heap_other (by omega)).trans h.2⟩
theorem Kept2.others {B l : Nat} {r : Loop} {W W' : World} (h : Kept2 l r W) (hk : KeepsFrom B W W') (hB : B ≤ l) : Kept2 l r W' := ⟨hk.same _ _ (by omega) h.1 rfl, hk.same _ _ hB h.2 rfl⟩
theorem Kept2.grown {l : Nat} {r : Loop} {W W' : World} {row : Option Nat} (h : Kept2 l r W) (hg : W.grownBy W' row) (hr : ∀ k, row = some k → ∃ o : Obj, W.heap[k]? = some o ∧ o.isWalk = true) : Kept2 l r W' :=
 ⟨(grownBy_keeps hg hr h.1 rfl).trans h.1, (grownBy_keeps hg hr h.2 rfl).trans h.2⟩
/-- The loop's law: as the kit's, with such an iterator. -/
theorem wpIn_range_cell {F : Fence} {n : Nat} {P : Program} {α : Type} {g : Operand} {ps : Array Tmp} {assign body : Code} {Q : Exit → Act → World → Prop} {a : Act} {w : World}
  (hro : F.round = none) (h1 : 1 ≤ n) {gf : Nat} {lb : Array Value} (hg : a.eval g = .func (.func gf) #[] lb) (hFg : F.fn gf) (eg : ∀ args w, (callFunc gf args).run P w = .ok (.enter gf args) w)
  {encs : α → Array Value} {Kp : World → World → Prop} {Bs : Nat} {S Sp : List α → Prop} {Np : List α → Prop} {GG : World → Prop} {w0 : World} (hseq : SeqAt F (n - 1) P gf lb encs Kp Bs S Sp Np GG w0)
  (hKt : ∀ {A B C : World}, Kp A B → Kp B C → Kp A C) (hKb : ∀ (W : World) (l : Nat) (o o' : Obj), w.heap.size ≤ l → W.heap[l]? = some o → o.isCells = false → o.isWalk = false → Kp W (W.putObj l o')) (hb0 : Below w0.heap.size w0 w) (hps : ∀ x, (encs x).size = ps.size)
  (I : List α → World → Prop) (Ix : List α → World → Prop) (hI : OwnFrom w.heap.size I) (hIx : OwnFrom w.heap.size Ix) (hIc : ∀ s A v, I s A → I s (A.setCell ⟨Bs, 0, none⟩ v)) (hIG : ∀ s A, I s A → GG A) (h0 : I [] w) (a₁ : α → Act)
  (hassign : ∀ (l : Nat) (x : α) (W : World) (K : Act → World → Prop), K (a₁ x) W →
   assign.wpIn (F.inRound l) (n - 1 - 1) P (Exit.then K (fun _ _ _ => False)) { tmps := (ps.zip (encs x)).foldl (fun t (p, v) => t.setIfInBounds p v) a.tmps, defers := [] } W)
  (hbody : ∀ (l : Nat) (pre : List α) (x : α) (W : World), I pre W → Np (pre ++ [x]) → body.wpIn (F.inRound l) (n - 1 - 1) P
   (fun e _ W' => match e with | .normal => KeepsFrom w.heap.size W W' ∧ Kp W W' ∧ I (pre ++ [x]) W' | .ret => KeepsFrom w.heap.size W W' ∧ Ix (pre ++ [x]) W' | _ => False) (a₁ x) W)
  (hdone : ∀ (D : Nat) (xs : List α) (W : World), w.heap.size ≤ D → S xs → I xs W → W.heap[D]? = some (.deferred (some [])) → Q .normal { a with defers := { target := .collected D, args := #[] } :: a.defers } W)
  (hstop : ∀ (D : Nat) (pre : List α) (W : World), w.heap.size ≤ D → Sp pre → Ix pre W → W.heap[D]? = some (.deferred (some [])) → Code.ret.wpIn F n P Q { a with defers := { target := .collected D, args := #[] } :: a.defers } W) :
  (Code.rangeFunc g ps assign body).wpIn F n P Q a w := by
 refine wpIn_rangeFunc fun fn hfn => ?_
 rw [hro]
 obtain ⟨L, hL⟩ : ∃ L : LoopState → Option Code → Loop, L = fun st pe => { state := st, pending := pe, fn, tmps := a.tmps, params := ps, assign, body, defers := w.heap.size } := ⟨_, rfl⟩
 obtain ⟨W1, hW1⟩ : ∃ W1, (w.alloc (.deferred (some []))).alloc (.loop (L .ready none)) = W1 := ⟨_, rfl⟩
 have hk1 : Kept2 w.heap.size (L .ready none) W1 := by
  rw [← hW1]
  refine ⟨?_, (Below.heap_alloc _ _ _ (by simp)).trans (World.alloc_heap_new w _)⟩
  have := World.alloc_heap_new (w.alloc (.deferred (some []))) (.loop (L .ready none))
  rwa [World.size_alloc] at this
 have hi1 : I [] W1 := by rw [← hW1]; exact hI.alloc _ (hI.alloc _ h0)
 have hb1 : Below w0.heap.size w0 W1 := by rw [← hW1]; exact hb0.trans ((((Below.refl _ w).alloc (Nat.le_refl _) _).alloc (by simp) _).mono hb0.size)
 have hs1 : w.heap.size + 2 = W1.heap.size := by rw [← hW1]; simp
 have rows : ∀ {A : World} {row : Option Nat}, (∀ r, row = some r → W1.heap.size ≤ r ∧ ∃ o : Obj, A.heap[r]? = some o ∧ o.isWalk = true) → ∀ r, row = some r → w.heap.size ≤ r ∧ ∃ o : Obj, A.heap[r]? = some o ∧ o.isCells = false :=
  fun hr r e => by obtain ⟨hB, o, ho, hw⟩ := hr r e; exact ⟨by omega, o, ho, Obj.not_cells_of_walk hw⟩
 have cells : ∀ {A : World} {r : Loop} (v : Value), Kept2 w.heap.size r A → Kept2 w.heap.size r (A.setCell ⟨Bs, 0, none⟩ v) := fun {A r} v h => ⟨(KeepsOthers.setCell A ⟨Bs, 0, none⟩ v).same _ _ h.1 rfl, (KeepsOthers.setCell A ⟨Bs, 0, none⟩ v).same _ _ h.2 rfl⟩
 refine ⟨w.heap.size + 1, [{ target := .collected w.heap.size, args := #[] }], W1, { target := .fn (.func gf) lb, args := #[.func (.yield (w.heap.size + 1)) #[] #[]] }, W1, gf,
  #[.func (.yield (w.heap.size + 1)) #[] #[]] ++ lb, W1, by rw [← hW1, hL]; exact run_enterLoop_outer _ _ _ _ _, by simp only [resolve, hg]; simp [go_sem], fun f' hf' => by simp [Target.leads] at hf'; subst hf'; exact hFg, by simp [invoke, go_sem, eg], fun _ => h1, ?_⟩
 refine (hseq (w.heap.size + 1) (fun pre W => I pre W ∧ Kept2 w.heap.size (L .ready none) W) (fun pre W => Ix pre W ∧ Kept2 w.heap.size (L .done (some .ret)) W) W1 hb1
  (fun s A B row hs hg' hr => ⟨hI s A B row hs.1 hg' (rows hr), hs.2.grown hg' fun r e => (hr r e).2⟩) (fun s A B row hs hg' hr => ⟨hIx s A B row hs.1 hg' (rows hr), hs.2.grown hg' fun r e => (hr r e).2⟩)
  (fun s A v hs => ⟨hIc s A v hs.1, cells v hs.2⟩) (fun s A hs => hIG s A hs.1) ?round ⟨hi1, hk1⟩).mono ?_
 case round =>
  rintro pre x W ⟨hi, hk⟩ hlen
  have hy := run_yield (P := P) (args := encs x) hk.1 (by rw [hL]; exact hps x)
  rw [hL] at hy
  have busy : Kept2 w.heap.size { L .ready none with state := .busy } (W.putObj (w.heap.size + 1) (.loop { L .ready none with state := .busy })) := hk.turn
  refine ⟨fn, _, assign, body, hy, roundIn_of_wpIn hfn (hassign _ x W _ ⟨_, run_beginRound hk.1 (by rw [hL]), wpIn_mono (hbody _ pre x _ (hI.putObj _ hi (by omega) hk.1 rfl) hlen) ?_⟩)⟩
  have ends : ∀ (jump : Option Code) (W3 : World), Kept2 w.heap.size { L .ready none with state := .busy } W3 → (Instr.endRound (w.heap.size + 1) jump).run P W3 = .ok (.bool jump.isNone) (W3.putObj (w.heap.size + 1) (.loop (L (if jump.isNone then .ready else .done) jump))) := fun jump W3 h => by
   have := run_endRound (P := P) jump h.1
   rw [hL] at this ⊢
   exact this
  rintro e a3 W3 hp
  cases e with
  | normal =>
   obtain ⟨hk3, hkp3, hi3⟩ := hp
   have b3 := busy.others hk3 (Nat.le_refl _)
   exact ⟨_, _, ends none W3 b3, .inl ⟨rfl, ⟨hI.putObj _ hi3 (by omega) b3.1 rfl, b3.turn⟩, hKt (hKt (hKb _ _ _ _ (by omega) hk.1 rfl rfl) hkp3) (hKb _ _ _ _ (by omega) b3.1 rfl rfl)⟩⟩
  | ret =>
   obtain ⟨hk3, hi3⟩ := hp
   have b3 := busy.others hk3 (Nat.le_refl _)
   exact ⟨_, _, ends (some .ret) W3 b3, .inr ⟨rfl, hIx.putObj _ hi3 (by omega) b3.1 rfl, b3.turn⟩⟩
  | exit id => exact hp.elim
  | goto t => exact hp.elim
  | panic ch => exact hp.elim
  | outgrown => exact hp.elim
 rintro e W2 ⟨⟨v, rfl⟩, ⟨xs, hS, hi, hk⟩ | ⟨pre, hSp, hi, hk⟩⟩
 ·exact ⟨none, _, by have := run_endLoop (P := P) hk.1 (by rw [hL]; simp); rw [hL] at this; exact this, hdone _ xs _ (Nat.le_refl _) hS (hI.putObj _ hi (by omega) hk.1 rfl) ((World.putObj_heap_other (by omega)).trans hk.2)⟩
 ·exact ⟨some .ret, _, by have := run_endLoop (P := P) hk.1 (by rw [hL]; simp); rw [hL] at this; exact this, hstop _ pre _ (Nat.le_refl _) hSp (hIx.putObj _ hi (by omega) hk.1 rfl) ((World.putObj_heap_other (by omega)).trans hk.2)⟩

/-! ### strings_splitSeq: functions 24, 36, 45 -/
theorem new_l (W : World) (v : Value) (t : TypeId) : (W.alloc (.cells #[v] t)).cell? ⟨W.heap.size, 0, none⟩ = some v ∧ (W.alloc (.cells #[v] t)).frozen? ⟨W.heap.size, 0, none⟩ = false := by
 have h := World.alloc_heap_new W (.cells #[v] t)
 exact ⟨by unfold World.cell?; rw [h]; rfl, by unfold World.frozen?; rw [h]; rfl⟩
theorem kept_l {W : World} {a : Addr} {v : Value} (o : Obj) (h : W.cell? a = some v) : (W.alloc o).cell? a = some v := Go.cell_kept h (World.grownBy_alloc W o none) (fun r e => by cases e)
theorem kept_f {W : World} {a : Addr} {v : Value} (o : Obj) (h : W.cell? a = some v) (hf : W.frozen? a = false) : (W.alloc o).frozen? a = false := (Go.frozen_kept h (World.grownBy_alloc W o none) (fun r e => by cases e)).trans hf
/-- What lies between cuts: ix tells where the next one is; m: how long it is. -/
def cuts (ix : ByteArray → Int) (m : Nat) : Nat → ByteArray → List ByteArray
 | 0, s => [s]
 | k + 1, s => if ix s < 0 then [s] else s.extract 0 (ix s).toNat :: cuts ix m k (s.extract ((ix s).toNat + m) s.size)
theorem cuts_neg {ix : ByteArray → Int} {m : Nat} {s : ByteArray} (h : ix s < 0) : ∀ k, cuts ix m k s = [s]
 | 0 => rfl
 | k + 1 => by rw [cuts, if_pos h]
theorem cuts_pos {ix : ByteArray → Int} {m k : Nat} {s : ByteArray} (h : ¬ ix s < 0) : cuts ix m (k + 1) s = s.extract 0 (ix s).toNat :: cuts ix m k (s.extract ((ix s).toNat + m) s.size) := by rw [cuts, if_neg h]
theorem cuts_more (ix : ByteArray → Int) (m : Nat) (hm : 1 ≤ m) (hb : ∀ s, 0 ≤ ix s → (ix s).toNat + m ≤ s.size) : ∀ (k : Nat) (s : ByteArray), s.size ≤ k → cuts ix m (k + 1) s = cuts ix m k s := by
 intro k
 induction k with
 | zero =>
  intro s h
  by_cases c : ix s < 0
  ·rw [cuts_neg c, cuts_neg c]
  ·have := hb s (by omega); omega
 | succ k ih =>
  intro s h
  by_cases c : ix s < 0
  ·rw [cuts_neg c, cuts_neg c]
  ·rw [cuts_pos c, cuts_pos (k := k) c, ih _ (by have := hb s (by omega); rw [ByteArray.size_extract]; omega)]
theorem cuts_enough (ix : ByteArray → Int) (m : Nat) (hm : 1 ≤ m) (hb : ∀ s, 0 ≤ ix s → (ix s).toNat + m ≤ s.size) (s : ByteArray) : ∀ (k : Nat), s.size ≤ k → cuts ix m k s = cuts ix m s.size s := by
 intro k
 induction k with
 | zero => intro h; rw [show s.size = 0 by omega]
 | succ k ih =>
  intro h
  rcases Nat.lt_or_ge k s.size with c | c
  ·rw [show s.size = k + 1 by omega]
  ·rw [cuts_more ix m hm hb k s c, ih c]
theorem cuts_cons (ix : ByteArray → Int) (m : Nat) (hm : 1 ≤ m) (hb : ∀ s, 0 ≤ ix s → (ix s).toNat + m ≤ s.size) {s : ByteArray} {i : Nat} (h : ix s = (i : Int)) :
  cuts ix m s.size s = s.extract 0 i :: cuts ix m (s.extract (i + m) s.size).size (s.extract (i + m) s.size) := by
 have h1 := hb s (by omega)
 rw [h, Int.toNat_natCast] at h1
 obtain ⟨k, hk⟩ : ∃ k, s.size = k + 1 := ⟨s.size - 1, by omega⟩
 have h2 : cuts ix m s.size s = cuts ix m (k + 1) s := by rw [hk]
 rw [h2, cuts_pos (by omega), h, Int.toNat_natCast, cuts_enough ix m hm hb _ k (by rw [ByteArray.size_extract]; omega)]
/-- The iterator's three boxes: what is still to be cut, the cut, what is kept of it. -/
structure Boxes3 (b : Nat) (s sep : ByteArray) (W : World) : Prop where
 s_ : W.cell? ⟨b, 0, none⟩ = some (.string s)
 f_ : W.frozen? ⟨b, 0, none⟩ = false
 sep_ : W.cell? ⟨b + 1, 0, none⟩ = some (.string sep)
 save_ : W.cell? ⟨b + 2, 0, none⟩ = some (.int .i64 0)
/-- The three boxes lie as they lay. -/
def Keeps3 (b : Nat) (W W' : World) : Prop := ∀ k, b ≤ k → k < b + 3 → W'.heap[k]? = W.heap[k]?
theorem Boxes3.kept {b : Nat} {s sep : ByteArray} {W W' : World} (h : Boxes3 b s sep W) (hk : Keeps3 b W W') : Boxes3 b s sep W' :=
 ⟨(World.cell?_of_block (a := ⟨b, 0, none⟩) (hk b (Nat.le_refl _) (by omega))).trans h.s_, (World.frozen?_of_block (a := ⟨b, 0, none⟩) (hk b (Nat.le_refl _) (by omega))).trans h.f_,
  (World.cell?_of_block (a := ⟨b + 1, 0, none⟩) (hk (b + 1) (by omega) (by omega))).trans h.sep_, (World.cell?_of_block (a := ⟨b + 2, 0, none⟩) (hk (b + 2) (by omega) (by omega))).trans h.save_⟩
theorem Keeps3.drewN {b : Nat} {W : World} (n : Nat) : Keeps3 b W (W.drewN n) := fun _ _ _ => rfl
/-- How much is still to be cut. -/
def boxLen (b : Nat) (W : World) : Nat := match W.cell? ⟨b, 0, none⟩ with | some (.string t) => t.size | _ => 0
theorem boxLen_eq {b : Nat} {W : World} {s : ByteArray} (h : W.cell? ⟨b, 0, none⟩ = some (.string s)) : boxLen b W = s.size := by unfold boxLen; rw [h]
theorem seq_at (s sep : ByteArray) (w : World) : Calls Tryd.prog 24 #[.string s, .string sep] w fun e w' => ∃ n, e = .returned (.func (.func 45) #[] #[.pointer (some ⟨w.heap.size + 1, 0, none⟩), .pointer (some ⟨w.heap.size, 0, none⟩), .pointer (some ⟨w.heap.size + 2, 0, none⟩)]) ∧
  w' = (((w.alloc (.cells #[.string s] 9)).alloc (.cells #[.string sep] 9)).alloc (.cells #[.int .i64 0] 3)).drewN n := by
 have h : Calls Tryd.prog 36 #[.string s, .string sep, .int .i64 0] w fun e w' => ∃ n, e = .returned (.func (.func 45) #[] #[.pointer (some ⟨w.heap.size + 1, 0, none⟩), .pointer (some ⟨w.heap.size, 0, none⟩), .pointer (some ⟨w.heap.size + 2, 0, none⟩)]) ∧
   w' = (((w.alloc (.cells #[.string s] 9)).alloc (.cells #[.string sep] 9)).alloc (.cells #[.int .i64 0] 3)).drewN n := by
  go_enter Tryd.func36, Tryd.ntmps36
  go_wp2
  go_ret
  exact ⟨0, by simp, rfl⟩
 go_enter Tryd.func24, Tryd.ntmps24
 go_wp2_with (go_at_call 36; refine h.mono ?_; rintro e w' ⟨n, rfl, rfl⟩)
 go_ret
 exact ⟨n, rfl, rfl⟩
set_option maxRecDepth 100000 in
set_option maxHeartbeats 4000000 in
/-- The iterator: the pieces in order, all, or up to one that says no more. -/
theorem split1_in (ix : ByteArray → Int) (sep : ByteArray) (hsep : 1 ≤ sep.size) (GG : World → Prop) (M : Nat) (hix : ∀ (s : ByteArray) (W : World), s.size ≤ M → GG W → Calls Tryd.prog 46 #[.string s, .string sep] W fun e W' => e = .returned (.int .i64 (ix s)) ∧ Drawn0 W W')
  (hb : ∀ s, 0 ≤ ix s → (ix s).toNat + sep.size ≤ s.size) (s : ByteArray) (hs : s.size ≤ M) (hM : M ≤ 140737488355328) (l b : Nat) (J Jx : List ByteArray → World → Prop) (W : World)
  (hJ : AbidesFrom W.heap.size J) (hJx : AbidesFrom W.heap.size Jx) (hJc : ∀ s A v, J s A → J s (A.setCell ⟨b, 0, none⟩ v)) (hJG : ∀ s A, J s A → GG A)
  (hY : ∀ pre x W1, J pre W1 → (pre ++ [x]) <+: cuts ix sep.size s.size s → YieldAt Fence.wide 2 Tryd.prog l #[.string x] W1 fun e W' => (e = .returned (.bool true) ∧ J (pre ++ [x]) W' ∧ Keeps3 b W1 W') ∨ (e = .returned (.bool false) ∧ Jx (pre ++ [x]) W'))
  (hB : Boxes3 b s sep W) (h0 : J [] W) :
  CallsIn Fence.wide 3 Tryd.prog 45 #[.func (.yield l) #[] #[], .pointer (some ⟨b + 1, 0, none⟩), .pointer (some ⟨b, 0, none⟩), .pointer (some ⟨b + 2, 0, none⟩)] W fun e W' => (∃ v, e = .returned v) ∧
   ((∃ xs, xs = cuts ix sep.size s.size s ∧ J xs W') ∨ (∃ pre, pre <+: cuts ix sep.size s.size s ∧ Jx pre W')) := by
 have hdr : ∀ (s' : List ByteArray) (A : World) (n : Nat), J s' A → J s' (A.drewN n) := fun s' A n h => hJ s' A _ none h ⟨rfl, rfl, rfl, Nat.le_refl _, fun _ _ _ => rfl⟩ (fun r e => by cases e)
 have hne : ¬ (sep.size : Int) = 0 := by omega
 have hz0 : ((sep.size : Int) == 0) = false := beq_eq_false_iff_ne.2 hne
 have h1 := hB.s_
 have h2 := hB.sep_
 have h3 := hB.save_
 refine callsIn_of_wp Tryd.func45 rfl trivial ?_ rfl
 simp only [Tryd.ntmps45, List.size_toArray, List.length_cons, List.length_nil, Nat.reduceAdd, Nat.reduceSub, Array.replicate_succ, Array.replicate_zero, List.push_toArray, List.append_toArray, List.nil_append, List.cons_append]
 gi_wp2
 gi_loopw [7, 8] (fun i f wr => ∃ (pre : List ByteArray) (s' : ByteArray), cuts ix sep.size s.size s = pre ++ cuts ix sep.size s'.size s' ∧ s'.size ≤ s.size ∧ Boxes3 b s' sep wr ∧ J pre wr)
  (fun i f wr => boxLen b wr)
 case atStart => exact ⟨[], s, rfl, Nat.le_refl _, hB, h0⟩
 case round =>
  obtain ⟨pre, s', hx, hle, hB', hJs⟩ := hrel
  have hJGs := hJG _ _ hJs
  have g1 := hB'.s_
  have g2 := hB'.sep_
  have g3 := hB'.save_
  by_cases hneg : ix s' < 0
  ·rw [cuts_neg hneg] at hx
   gi_wp2_with (refine ⟨trivial, ?_⟩; gi_at_call 46; refine (callsIn_wide.2 (hix s' _ (by omega) hJGs)).mono ?_; rintro e w' ⟨rfl, hd⟩; obtain ⟨n, rfl⟩ := hd.out)
   obtain ⟨fn, tmps, assign, body, hy, hR⟩ := hY pre s' (wr.drewN n) (hdr _ _ _ hJs) (by rw [hx]; exact List.prefix_refl _)
   rw [hy]
   gi_wp2
   refine hR.mono ?_
   rintro e W3 (⟨rfl, hJ3, hk3⟩ | ⟨rfl, hJx3⟩)
   ·gi_wp2
    go_end0
    exact ⟨⟨_, rfl⟩, .inl ⟨_, rfl, by rw [hx]; exact hJ3⟩⟩
   ·gi_wp2
    go_end0
    exact ⟨⟨_, rfl⟩, .inr ⟨pre ++ [s'], by rw [hx]; exact List.prefix_refl _, hJx3⟩⟩
  ·obtain ⟨i, hi⟩ : ∃ i : Nat, ix s' = (i : Int) := ⟨(ix s').toNat, by omega⟩
   have hfit := hb s' (by omega)
   have hc := cuts_cons ix sep.size hsep hb hi
   have hix' := hix s'
   rw [hi] at hix' hneg
   gi_wp2_with (refine ⟨trivial, ?_⟩; gi_at_call 46; refine (callsIn_wide.2 (hix' _ (by omega) hJGs)).mono ?_; rintro e w' ⟨rfl, hd⟩; obtain ⟨n, rfl⟩ := hd.out)
   obtain ⟨fn, tmps, assign, body, hy, hR⟩ := hY pre (s'.extract 0 i) (wr.drewN n) (hdr _ _ _ hJs) (by rw [hx, hc]; exact ⟨_, List.append_assoc _ _ _⟩)
   rw [hy]
   gi_wp2
   refine hR.mono ?_
   rintro e W3 (⟨rfl, hJ3, hk3⟩ | ⟨rfl, hJx3⟩)
   ·have hB3 := (hB'.kept (Keeps3.drewN n)).kept hk3
    have g1' := hB3.s_
    have g2' := hB3.sep_
    have gf := hB3.f_
    gi_wp2
    go_roundw
    case rel =>
     have hr1 : cuts ix sep.size s.size s = (pre ++ [s'.extract 0 i]) ++ cuts ix sep.size (s'.extract (i + sep.size) s'.size).size (s'.extract (i + sep.size) s'.size) := by rw [hx, hc, List.append_assoc]; rfl
     have hr2 : Boxes3 b (s'.extract (i + sep.size) s'.size) sep (W3.setCell ⟨b, 0, none⟩ (.string (s'.extract (i + sep.size) s'.size))) := ⟨World.cell?_setCell_same' _ _ _ (by rw [g1']; rfl), by rw [World.frozen?_setCell]; exact gf, (World.cell?_setCell_far W3 ⟨b, 0, none⟩ ⟨b + 1, 0, none⟩ _ (by simp)).trans hB3.sep_, (World.cell?_setCell_far W3 ⟨b, 0, none⟩ ⟨b + 2, 0, none⟩ _ (by simp)).trans hB3.save_⟩
     exact ⟨_, _, hr1, by rw [ByteArray.size_extract]; omega, hr2, hJc _ _ _ hJ3⟩
    case measure =>
     rw [boxLen_eq (World.cell?_setCell_same' _ _ _ (by rw [g1']; rfl)), boxLen_eq g1, ByteArray.size_extract]
     omega
   ·gi_wp2
    refine bodyPost_ret (results_none rfl _ _ _) rfl ?_
    exact ⟨⟨_, rfl⟩, .inr ⟨_, by rw [hx, hc]; exact ⟨_, List.append_assoc _ _ _⟩, hJx3⟩⟩
theorem firstIdx_fit (c : UInt8) (s : ByteArray) (h : 0 ≤ firstIdx s c) : (firstIdx s c).toNat + 1 ≤ s.size := by
 unfold firstIdx at h ⊢
 split
 ·next i e =>
  have := List.mem_range.1 (List.mem_of_find?_eq_some e)
  omega
 ·next e => rw [e] at h; exact absurd h (by decide)
theorem index1 (s : ByteArray) (c : UInt8) : strings_Index.f 1 s ⟨#[c]⟩ = some (firstIdx s c) := by
 have hb : bt ⟨#[c]⟩ 0 = (c.toNat : Int) := rfl
 have hj : ∀ b, b = ((⟨#[c]⟩ : ByteArray).toList == s.toList) → stringslite_Index.j0 1 s ⟨#[c]⟩ 1 b = if b = true then some 0 else some (firstIdx s c) := fun b _ => by
  rw [stringslite_Index.j0, if_pos rfl, if_pos (show (0 : Int) < ((⟨#[c]⟩ : ByteArray).size : Int) by show (0 : Int) < 1; decide), hb]
  unfold stringslite_IndexByte.f
  rw [Option.bind_some, Int.toNat_natCast, show c.toNat.toUInt8 = c from UInt8.ofNat_toNat]
 unfold strings_Index.f stringslite_Index.f
 rw [show ((⟨#[c]⟩ : ByteArray).size : Int) = 1 from rfl, if_neg (by decide), hj _ rfl]
 by_cases h : ((⟨#[c]⟩ : ByteArray).toList == s.toList) = true
 ·rw [if_pos h]
  have hs : s = ⟨#[c]⟩ := by
   have := eq_of_beq h
   rw [ByteArray.toList_eq, ByteArray.toList_eq] at this
   obtain ⟨⟨l⟩⟩ := s
   exact congrArg (fun z : List UInt8 => (⟨⟨z⟩⟩ : ByteArray)) (show l = [c] from this.symm)
  rw [hs]
  unfold firstIdx
  rw [show (⟨#[c]⟩ : ByteArray).size = 1 from rfl, show List.range 1 = [0] from rfl, List.find?_cons_of_pos (by show ((⟨#[c]⟩ : ByteArray)[0]! == c) = true; exact beq_self_eq_true c)]
  rfl
 ·rw [if_neg h]; rfl
/-- A text's pieces between one octet. -/
def pieces (c : UInt8) (s : ByteArray) : List ByteArray := cuts (fun t => firstIdx t c) 1 s.size s
/-- The iterator over the pieces of a text, where its three boxes lie. -/
theorem seq1_stops (c : UInt8) (s : ByteArray) (hs : s.size ≤ 140737488355328) (b : Nat) (w : World) (hw : b + 3 ≤ w.heap.size) (hB : Boxes3 b s ⟨#[c]⟩ w) :
  SeqAt Fence.wide 3 Tryd.prog 45 #[.pointer (some ⟨b + 1, 0, none⟩), .pointer (some ⟨b, 0, none⟩), .pointer (some ⟨b + 2, 0, none⟩)] (fun x : ByteArray => #[Value.string x]) (Keeps3 b) b (fun xs => xs = pieces c s) (fun pre => pre <+: pieces c s) (fun xs => xs <+: pieces c s) (fun _ => True) w := by
 intro l J Jx W hW hJ hJx hJc _ hY h0
 have hk : Keeps3 b w W := fun k h1 h2 => hW.block k (by omega)
 exact split1_in (fun t => firstIdx t c) ⟨#[c]⟩ (by show 1 ≤ 1; decide) (fun _ => True) 140737488355328 (fun t W _ _ => strings_Index.calls 1 t ⟨#[c]⟩ _ W (index1 t c)) (fun t h => firstIdx_fit c t h) s hs (Nat.le_refl _) l b J Jx W hJ hJx hJc (fun _ _ _ => trivial) hY (hB.kept hk) h0

/-! ### dns_Name: function 16 -/
/-- Is a text a label? -/
def labB (s : ByteArray) : Bool := dns_Label.f s == some true
theorem label_f (s : ByteArray) : dns_Label.f s = some (labB s) := by
 have h : ∃ b, dns_Label.f s = some b := by
  unfold dns_Label.f strings_IndexFunc_with_dns_Label_1.f
  rw [Option.bind_some]
  by_cases h1 : s.toList = ([] : List UInt8)
  ·rw [if_pos h1]; exact ⟨_, rfl⟩
  ·rw [if_neg h1]
   have h0 : 0 < s.size := by
    rcases Nat.eq_zero_or_pos s.size with c | c
    ·refine absurd ?_ h1
     rw [ByteArray.toList_eq]
     exact List.eq_nil_of_length_eq_zero (by rw [Array.length_toList]; exact c)
    ·exact c
   by_cases h2 : (s.size : Int) ≤ 20
   ·rw [if_pos h2, if_pos (show (0 : Int) < (s.size : Int) by omega), show wrap64 ((s.size : Int) - 1) = (s.size : Int) - 1 from by unfold wrap64; omega, if_pos (show (0 : Int) ≤ (s.size : Int) - 1 by omega), if_pos (show (s.size : Int) - 1 < (s.size : Int) by omega)]
    split
    ·split
     ·exact ⟨_, rfl⟩
     ·exact ⟨_, rfl⟩
    ·exact ⟨_, rfl⟩
   ·rw [if_neg h2]; exact ⟨_, rfl⟩
 obtain ⟨b, h⟩ := h
 unfold labB
 rw [h]
 cases b <;> rfl
/-- Is a text a name? -/
def dns_Name.f (a0 : ByteArray) : Option (Bool) := some (decide (a0.size ≤ 60) && (pieces 46 a0).all labB)
section
attribute [local go_sem] Oper.semAt_some
set_option maxHeartbeats 8000000 in
set_option maxRecDepth 100000 in
theorem dns_Name.calls (a0 : ByteArray) (r : Bool) (w : World) (h : dns_Name.f a0 = some r) :
  Calls Tryd.prog 16 #[.string a0] w fun e w' => e = .returned (.bool r) ∧ Below w.heap.size w w' := by
 obtain rfl := Option.some.inj h
 clear h
 have hlab : ∀ x, dns_Label.f x = some (labB x) := label_f
 refine (callsIn_wide (n := 4)).1 ?_
 refine callsIn_of_wp_marks Tryd.func16 rfl trivial ?_ rfl
 simp only [Tryd.ntmps16, List.size_toArray, List.length_cons, List.length_nil, Nat.reduceAdd, Nat.reduceSub, Array.replicate_succ, Array.replicate_zero, List.push_toArray, List.append_toArray, List.nil_append, List.cons_append]
 by_cases hl : a0.size ≤ 60
 ·rw [decide_eq_true hl, Bool.true_and]
  obtain ⟨R, hR⟩ : ∃ R, (pieces 46 a0).all labB = R := ⟨_, rfl⟩
  rw [hR]
  gi_wp2_with (refine ⟨trivial, ?_⟩; gi_at_call 24; refine (callsIn_wide.2 (seq_at _ _ _)).mono ?_; rintro e w' ⟨n, rfl, rfl⟩)
  obtain ⟨W0, hW0⟩ : ∃ W0, W0 = ((((w.alloc (.cells #[.bool false] 4)).alloc (.cells #[.string a0] 9)).alloc (.cells #[.string ⟨#[46]⟩] 9)).alloc (.cells #[.int .i64 0] 3)).drewN n := ⟨_, rfl⟩
  have hs0 : W0.heap.size = w.heap.size + 4 := by rw [hW0]; simp
  have z0 := new_l w (.bool false) 4
  have z1 := new_l (w.alloc (.cells #[.bool false] 4)) (.string a0) 9
  have z2 := new_l ((w.alloc (.cells #[.bool false] 4)).alloc (.cells #[.string a0] 9)) (.string ⟨#[46]⟩) 9
  have z3 := new_l (((w.alloc (.cells #[.bool false] 4)).alloc (.cells #[.string a0] 9)).alloc (.cells #[.string ⟨#[46]⟩] 9)) (.int .i64 0) 3
  simp only [World.size_alloc] at z1 z2 z3
  have c0 : W0.cell? ⟨w.heap.size, 0, none⟩ = some (.bool false) ∧ W0.frozen? ⟨w.heap.size, 0, none⟩ = false := by
   rw [hW0]
   have y1 := kept_l (.cells #[.string a0] 9) z0.1
   have y2 := kept_l (.cells #[.string ⟨#[46]⟩] 9) y1
   exact ⟨kept_l _ y2, kept_f _ y2 (kept_f _ y1 (kept_f _ z0.1 z0.2))⟩
  have b0 : Boxes3 (w.heap.size + 1) a0 ⟨#[46]⟩ W0 := by
   rw [hW0]
   have y2 := kept_l (.cells #[.string ⟨#[46]⟩] 9) z1.1
   exact ⟨kept_l _ y2, kept_f _ y2 (kept_f _ z1.1 z1.2), kept_l _ z2.1, z3.1⟩
  have hB0 : Below w.heap.size w W0 := by rw [hW0]; exact ((((((Below.refl _ w).alloc (Nat.le_refl _) _).alloc (by simp) _).alloc (by simp; omega) _).alloc (by simp; omega) _)).trans ⟨rfl, rfl, rfl, Nat.le_refl _, fun _ _ => rfl⟩
  (try simp only [World.size_alloc])
  rw [← hW0]
  refine wpIn_range_cell rfl (by omega) (gf := 45) (lb := #[.pointer (some ⟨w.heap.size + 1 + 1, 0, none⟩), .pointer (some ⟨w.heap.size + 1, 0, none⟩), .pointer (some ⟨w.heap.size + 1 + 2, 0, none⟩)]) rfl trivial (enters_of Tryd.func45 kr_ rfl)
   (seq1_stops 46 a0 (by omega) (w.heap.size + 1) W0 (by omega) b0) (fun h k i h1 h2 => (k i h1 h2).trans (h i h1 h2)) (fun W l o o' hl _ _ _ k h1 h2 => World.putObj_heap_other (by omega)) (Below.refl _ _) (fun _ => rfl)
   (fun pre W => ((∀ y ∈ pre, labB y = true) ∧ W.cell? ⟨w.heap.size, 0, none⟩ = some (.bool false) ∧ W.frozen? ⟨w.heap.size, 0, none⟩ = false ∧ w.heap.size + 4 ≤ W.heap.size) ∧ Below w.heap.size w W)
   (fun pre W => ((∃ y ∈ pre, labB y = false) ∧ W.cell? ⟨w.heap.size, 0, none⟩ = some (.bool false)) ∧ Below w.heap.size w W)
   (OwnFrom.and (Own.from (fun s A B row hs hg hr => ⟨hs.1, Go.cell_kept hs.2.1 hg hr, (Go.frozen_kept hs.2.1 hg hr).trans hs.2.2.1, Nat.le_trans hs.2.2.2 hg.size⟩) _) (ownFrom_below (Nat.le_refl _) (by omega)))
   (OwnFrom.and (Own.from (fun s A B row hs hg hr => ⟨hs.1, Go.cell_kept hs.2 hg hr⟩) _) (ownFrom_below (Nat.le_refl _) (by omega)))
   (fun s A v hs => ⟨⟨hs.1.1, (World.cell?_setCell_far A ⟨w.heap.size + 1, 0, none⟩ ⟨w.heap.size, 0, none⟩ v (by simp)).trans hs.1.2.1, by rw [World.frozen?_setCell]; exact hs.1.2.2.1, by simpa using hs.1.2.2.2⟩, hs.2.setCell (p := ⟨w.heap.size + 1, 0, none⟩) (by simp) _⟩)
   (fun _ _ _ => trivial)
   ⟨⟨fun y hy => (by cases hy), c0.1, c0.2, by omega⟩, hB0⟩
   (fun x => { tmps := #[.string a0, undef, .pointer (some ⟨w.heap.size, 0, none⟩), .string x, .string a0, .int .i64 a0.size, .bool (decide (60 < (a0.size : Int))), .string a0, .func (.func 45) #[] #[.pointer (some ⟨w.heap.size + 1 + 1, 0, none⟩), .pointer (some ⟨w.heap.size + 1, 0, none⟩), .pointer (some ⟨w.heap.size + 1 + 2, 0, none⟩)], .string x, undef, undef, undef], defers := [] }) ?assign ?body ?done ?stop
  case assign =>
   intro l x W K hK
   gi_wp2
   exact hK
  case body =>
   rintro l pre x W ⟨⟨hp, hc, hf, hsz⟩, hB⟩ _
   have hlt : w.heap.size < W.heap.size := by omega
   have hx := hlab x
   cases hv : labB x with
   | true =>
    rw [hv] at hx
    gi_wp2_with (refine ⟨trivial, ?_⟩; gi_at_call 25; refine (CallsIn.inRound l (callsIn_wide.2 (dns_Label.calls x true W hx))).mono ?_; rintro e w' ⟨rfl, hd⟩; have hc' : w'.cell? ⟨w.heap.size, 0, none⟩ = some (.bool false) := (hd.cell (p := ⟨w.heap.size, 0, none⟩) hlt).trans hc; have hf' : w'.frozen? ⟨w.heap.size, 0, none⟩ = false := (World.frozen?_of_block (a := ⟨w.heap.size, 0, none⟩) (hd.block _ hlt)).trans hf; have hk' : KeepsFrom W0.heap.size W w' := ⟨hd.size, fun k o _ hk _ => (hd.block k (Array.getElem?_eq_some_iff.1 hk).1).trans hk⟩; have hb' : Below w.heap.size w w' := hB.trans (hd.mono hB.size); have hsz' : w.heap.size + 4 ≤ w'.heap.size := Nat.le_trans hsz hd.size; have h3' : Keeps3 (w.heap.size + 1) W w' := fun k h1 h2 => hd.block k (by omega))
    exact ⟨by rw [hs0] at hk'; exact hk', fun y hy => hy.elim (hp y) fun e => by rw [e]; exact hv⟩
   | false =>
    rw [hv] at hx
    gi_wp2_with (refine ⟨trivial, ?_⟩; gi_at_call 25; refine (CallsIn.inRound l (callsIn_wide.2 (dns_Label.calls x false W hx))).mono ?_; rintro e w' ⟨rfl, hd⟩; have hc' : w'.cell? ⟨w.heap.size, 0, none⟩ = some (.bool false) := (hd.cell (p := ⟨w.heap.size, 0, none⟩) hlt).trans hc; have hf' : w'.frozen? ⟨w.heap.size, 0, none⟩ = false := (World.frozen?_of_block (a := ⟨w.heap.size, 0, none⟩) (hd.block _ hlt)).trans hf; have hk' : KeepsFrom W0.heap.size W w' := ⟨hd.size, fun k o _ hk _ => (hd.block k (Array.getElem?_eq_some_iff.1 hk).1).trans hk⟩; have hb' : Below w.heap.size w w' := hB.trans (hd.mono hB.size); have hsz' : w.heap.size + 4 ≤ w'.heap.size := Nat.le_trans hsz hd.size; have h3' : Keeps3 (w.heap.size + 1) W w' := fun k h1 h2 => hd.block k (by omega))
    exact ⟨by rw [hs0] at hk'; exact hk'.trans ((KeepsOthers.setCell w' _ _).from _), hb'.setCell (p := ⟨w.heap.size, 0, none⟩) (by simp) _⟩
  case done =>
   rintro D ys W hD rfl ⟨⟨hne, hcr, hfr, _⟩, hB⟩ hK
   obtain rfl : R = true := hR.symm.trans (List.all_eq_true.2 hne)
   gi_wp2
   have hK' := (KeepsOthers.setCell W ⟨w.heap.size, 0, none⟩ (.bool true)).same D _ hK rfl
   refine ⟨by simp, .inl ⟨_, _, rfl, run_takeDeferred hK', ?_⟩⟩
   have hc5 := Go.cell_kept (World.cell?_setCell_same' W ⟨w.heap.size, 0, none⟩ (.bool true) (by rw [hcr]; rfl)) (grownBy_putObj' _ D (.deferred none)) (fun r e => by cases e; exact ⟨_, hK', rfl⟩)
   refine ⟨.bool true, ?_, rfl, (hB.setCell (p := ⟨w.heap.size, 0, none⟩) (by simp) _).trans (belowK_b (w := w) (Nat.le_refl _) _ D _ _ (by omega) hK' rfl rfl)⟩
   simp [results, Tryd.f16, go_sem, hc5]
  case stop =>
   rintro D pre W hD hpre ⟨⟨⟨y, hy, hv⟩, hcr⟩, hB⟩ hK
   obtain rfl : R = false := hR.symm.trans (List.all_eq_false.2 ⟨y, hpre.subset hy, by rw [hv]; decide⟩)
   gi_wp2
   refine ⟨by simp, .inl ⟨_, _, rfl, run_takeDeferred hK, ?_⟩⟩
   have hc5 := Go.cell_kept hcr (grownBy_putObj' _ D (.deferred none)) (fun r e => by cases e; exact ⟨_, hK, rfl⟩)
   refine ⟨.bool false, ?_, rfl, hB.trans (belowK_b (w := w) (Nat.le_refl _) W D _ _ (by omega) hK rfl rfl)⟩
   simp [results, Tryd.f16, go_sem, hc5]
 ·rw [decide_eq_false hl, Bool.false_and]
  gi_wp2
  have z0 := new_l w (.bool false) 4
  show LeavesIn _ _ _ _ _ _ _ _ _
  refine ⟨.bool false, ?_, rfl, (Below.refl _ w).alloc (Nat.le_refl _) _⟩
  simp [results, Tryd.f16, go_sem, z0.1]
end

/-! ### host_Of: function 7 -/
mutual
def host_Of.j0 : Nat → ByteArray → Int → Bool → Option (ByteArray × Int)
 | 0, _, _, _ => none
 | k + 1, x0, x4, x17 => if x17 = true then (if 0 ≤ x4 then (if x4 ≤ (x0.size : Int) then (host_Of.j1 k (x0.extract 0 (x4 : Int).toNat)) else (none)) else (none)) else (host_Of.j1 k x0)
def host_Of.j1 : Nat → ByteArray → Option (ByteArray × Int)
 | 0, _ => none
 | k + 1, x0 => (strings_TrimSuffix.f x0 (⟨#[46]⟩ : ByteArray)).bind fun t124 => ((dns_Name.f t124).bind fun t125 => (if t125 = true then (some (t124, 0)) else (some ((⟨#[]⟩ : ByteArray), 2))))
end
def host_Of.f (k : Nat) (a0 : ByteArray) : Option (ByteArray × Int) := (dns_Fold.f a0).bind fun t121 => ((strings_LastIndexByte.f k t121 58).bind fun t122 => (if t122 ≥ 0 then (if 0 ≤ (wrap64 (t122 + 1)) then (if (wrap64 (t122 + 1)) ≤ (t121.size : Int) then ((host_port.f (t121.extract ((wrap64 (t122 + 1)) : Int).toNat t121.size)).bind fun t123 => (host_Of.j0 k t121 t122 t123)) else (none)) else (none)) else (host_Of.j0 k t121 t122 false)))
theorem host_Of.mono_l : ∀ k, (∀ y0 y1 y2, LeO (host_Of.j0 k y0 y1 y2) (host_Of.j0 (k + 1) y0 y1 y2)) ∧ (∀ y0, LeO (host_Of.j1 k y0) (host_Of.j1 (k + 1) y0))
 | 0 => ⟨fun _ _ _ r h => by simp [host_Of.j0] at h, fun _ r h => by simp [host_Of.j1] at h⟩
 | k + 1 => by
  obtain ⟨ih0, ih1⟩ := host_Of.mono_l k
  refine ⟨?_, ?_⟩
  ·intro y0 y1 y2
   unfold host_Of.j0
   repeat' first
   | (with_reducible exact ih0 _ _ _)
   | (with_reducible exact ih1 _)
   | (with_reducible exact strings_LastIndexByte.mono _ _ _)
   | (with_reducible exact LeO.refl _)
   | (with_reducible exact LeO.none _)
   | (with_reducible refine LeO.ite ?_ ?_)
   | (with_reducible refine LeO.bind ?_ (fun _ => ?_))
   | exact ih0 _ _ _
   | exact ih1 _
   | exact strings_LastIndexByte.mono _ _ _
   | exact LeO.none _
   | refine LeO.ite ?_ ?_
   | refine LeO.bind ?_ (fun _ => ?_)
  ·intro y0
   unfold host_Of.j1
   repeat' first
   | (with_reducible exact ih0 _ _ _)
   | (with_reducible exact ih1 _)
   | (with_reducible exact strings_LastIndexByte.mono _ _ _)
   | (with_reducible exact LeO.refl _)
   | (with_reducible exact LeO.none _)
   | (with_reducible refine LeO.ite ?_ ?_)
   | (with_reducible refine LeO.bind ?_ (fun _ => ?_))
   | exact ih0 _ _ _
   | exact ih1 _
   | exact strings_LastIndexByte.mono _ _ _
   | exact LeO.none _
   | refine LeO.ite ?_ ?_
   | refine LeO.bind ?_ (fun _ => ?_)
theorem host_Of.mono : ∀ a0 k, LeO (host_Of.f k a0) (host_Of.f (k + 1) a0) := by
 intro a0 k
 obtain ⟨ih0, ih1⟩ := host_Of.mono_l k
 unfold host_Of.f
 repeat' first
   | (with_reducible exact ih0 _ _ _)
   | (with_reducible exact ih1 _)
   | (with_reducible exact strings_LastIndexByte.mono _ _ _)
   | (with_reducible exact LeO.refl _)
   | (with_reducible exact LeO.none _)
   | (with_reducible refine LeO.ite ?_ ?_)
   | (with_reducible refine LeO.bind ?_ (fun _ => ?_))
   | exact ih0 _ _ _
   | exact ih1 _
   | exact strings_LastIndexByte.mono _ _ _
   | exact LeO.none _
   | refine LeO.ite ?_ ?_
   | refine LeO.bind ?_ (fun _ => ?_)
set_option maxHeartbeats 8000000 in
set_option maxRecDepth 100000 in
theorem host_Of.calls (k : Nat) (a0 : ByteArray) (r1 : ByteArray) (r2 : Int) (w : World) (h : host_Of.f k a0 = some (r1, r2)) :
  Calls Tryd.prog 7 #[.string a0] w fun e w' => e = .returned (.tuple #[.string r1, .int .i64 r2]) ∧ Below w.heap.size w w' := by
 have HB := am_ (Below.refl w.heap.size w)
 have H : ((dns_Fold.f a0).bind fun t121 => ((strings_LastIndexByte.f k t121 58).bind fun t122 => (if t122 ≥ 0 then (if 0 ≤ (wrap64 (t122 + 1)) then (if (wrap64 (t122 + 1)) ≤ (t121.size : Int) then ((host_port.f (t121.extract ((wrap64 (t122 + 1)) : Int).toNat t121.size)).bind fun t123 => (host_Of.j0 k t121 t122 t123)) else (none)) else (none)) else (host_Of.j0 k t121 t122 false)))) = some (r1, r2) := h
 clear h
 replace H := Option.bind_eq_some_iff.mp H
 obtain ⟨t121, A20, H⟩ := H
 replace H : ((strings_LastIndexByte.f k t121 58).bind fun t122 => (if t122 ≥ 0 then (if 0 ≤ (wrap64 (t122 + 1)) then (if (wrap64 (t122 + 1)) ≤ (t121.size : Int) then ((host_port.f (t121.extract ((wrap64 (t122 + 1)) : Int).toNat t121.size)).bind fun t123 => (host_Of.j0 k t121 t122 t123)) else (none)) else (none)) else (host_Of.j0 k t121 t122 false))) = some (r1, r2) := H
 have A2 := Aside0.mk A20
 clear A20
 replace H := Option.bind_eq_some_iff.mp H
 obtain ⟨t122, A30, H⟩ := H
 replace H : (if t122 ≥ 0 then (if 0 ≤ (wrap64 (t122 + 1)) then (if (wrap64 (t122 + 1)) ≤ (t121.size : Int) then ((host_port.f (t121.extract ((wrap64 (t122 + 1)) : Int).toNat t121.size)).bind fun t123 => (host_Of.j0 k t121 t122 t123)) else (none)) else (none)) else (host_Of.j0 k t121 t122 false)) = some (r1, r2) := H
 have A3 := Aside0.mk A30
 clear A30
 have HC4 := Aside0.mk H
 clear H
 go_enter Tryd.func7, Tryd.ntmps7
 go_upto_region 3 with (first | ((with_reducible refine gate_callee (f := 12) rfl ?_); refine goesL_ (some 6) rfl rfl Tryd.func12 kr_ rfl #[.string a0] rfl rl_ ?_; (with_reducible refine (dns_Fold.calls a0 t121 _ A2.out).mono ?_); rintro e w5 ⟨rfl, hb⟩; refine ⟨_, rfl, ?_⟩; have n0_ := am_ (below_step (bel_ HB.out) hb); clear HB; have HB := n0_; clear n0_; (try clear hb); (try clear hb2); (try clear hk); (try clear hi)) | ((with_reducible refine gate_callee (f := 13) rfl ?_); refine goesL_ (some 8) rfl rfl Tryd.func13 kr_ rfl #[.string t121, .int .u8 58] rfl rl_ ?_; (with_reducible refine (strings_LastIndexByte.calls k t121 58 t122 _ A3.out).mono ?_); rintro e w' ⟨rfl, ⟨nd, rfl⟩⟩; refine ⟨_, rfl, ?_⟩))
 (try simp only [Act.put, List.setIfInBounds_toArray, List.set_cons_zero, List.set_cons_succ])
 go_cut [17] (fun v17 wc => ∃ (kq : Nat) (x17_3 : Bool), v17 = .bool x17_3 ∧ Aside0 (host_Of.j0 kq t121 t122 x17_3 = some (r1, r2)) ∧ Aside0 (kq ≤ k) ∧ Aside0 (Below w.heap.size w wc))
 case first =>
  have H := HC4.out
  clear HC4
  by_cases c6 : t122 ≥ 0
  ·rw [if_pos c6] at H
   have c6b0 : decide (0 ≤ t122) = true := decide_eq_true c6
   clear c6
   (first | rw [c6b0] | rw [c6b1] | rw [c6b2] | (simp only [i64_w, i32_w]; rw [c6b0]) | skip)
   obtain ⟨ji7, hji7⟩ : ∃ j_ : Int, (wrap64 (t122 + 1)) = j_ := ⟨_, rfl⟩
   replace H : (if 0 ≤ (ji7) then (if (ji7) ≤ (t121.size : Int) then ((host_port.f (t121.extract ((ji7) : Int).toNat t121.size)).bind fun t123 => (host_Of.j0 k t121 t122 t123)) else (none)) else (none)) = some (r1, r2) := by first | (rw [hji7] at H; exact H) | (simp only [hji7] at H ⊢; exact H)
   have hji7w : (IntKind.i64.wrap (t122 + 1)) = ji7 := (i64_w _).trans hji7
   by_cases c8 : 0 ≤ (ji7)
   ·rw [if_pos c8] at H
    have c8b0 := eq_true c8
    have c8b1 : decide (0 ≤ (ji7)) = true := decide_eq_true c8
    clear c8
    by_cases c9 : (ji7) ≤ (t121.size : Int)
    ·rw [if_pos c9] at H
     have c9b0 := eq_true c9
     have c9b1 : decide ((ji7) ≤ (t121.size : Int)) = true := decide_eq_true c9
     clear c9
     replace H := Option.bind_eq_some_iff.mp H
     obtain ⟨t123, A100, H⟩ := H
     replace H : (host_Of.j0 k t121 t122 t123) = some (r1, r2) := H
     have A10 := Aside0.mk A100
     clear A100
     have H' := Aside0.mk H
     clear H
     go_wp2_with (first | (go_at_call 14; (with_reducible refine (host_port.calls (t121.extract ((ji7) : Int).toNat t121.size) t123 _ A10.out).mono ?_); rintro e w11 ⟨rfl, hb⟩; have n0_ := am_ (below_step (bel_ HB.out) hb); clear HB; have HB := n0_; clear n0_; (try clear hb); (try clear hb2); (try clear hk); (try clear hi)))
     go_meet
     case rel => exact ⟨_, (t123), sd_, H', ⟨by first | omega | exact Nat.le_refl _⟩, ⟨bel_ HB.out⟩⟩
    ·rw [if_neg c9] at H
     exact absurd H (by simp)
   ·rw [if_neg c8] at H
    exact absurd H (by simp)
  ·rw [if_neg c6] at H
   have c6b0 : decide (0 ≤ t122) = false := decide_eq_false c6
   clear c6
   (first | rw [c6b0] | rw [c6b1] | rw [c6b2] | (simp only [i64_w, i32_w]; rw [c6b0]) | skip)
   have H' := Aside0.mk H
   clear H
   go_wp2
   go_meet
   case rel => exact ⟨_, (false), sd_, H', ⟨by first | omega | exact Nat.le_refl _⟩, ⟨bel_ HB.out⟩⟩
 case rest =>
  clear HC4
  try clear c1
  try clear p2
  try clear c6
  try clear c6b0
  try clear c6b1
  try clear c6b2
  try clear p6
  try clear c7
  try clear c8
  try clear c8b0
  try clear c8b1
  try clear c9
  try clear c9b0
  try clear c9b1
  obtain ⟨kq, x17_3, rfl, HA, HJ3, HB⟩ := hcut
  cases kq with
  | zero => exact absurd HA.out (by simp [host_Of.j0])
  | succ kj3 =>
   have H := HA.out
   clear HA
   simp only [host_Of.j0] at H
   have HC12 := Aside0.mk H
   clear H
   go_upto_if 17 with (fail)
   go_cut [0] (fun v0 wc => ∃ (kq : Nat) (x0_11 : ByteArray), v0 = .string x0_11 ∧ Aside0 (host_Of.j1 kq x0_11 = some (r1, r2)) ∧ Aside0 (kq ≤ kj3) ∧ Aside0 (Below w.heap.size w wc))
   case first =>
    have H := HC12.out
    clear HC12
    by_cases c13 : x17_3 = true
    ·subst c13
     have H1 : (if 0 ≤ t122 then (if t122 ≤ (t121.size : Int) then (host_Of.j1 kj3 (t121.extract 0 (t122 : Int).toNat)) else (none)) else (none)) = some (r1, r2) := by rw [if_pos rfl] at H; exact H
     clear H
     have H := H1
     clear H1
     by_cases c14 : 0 ≤ t122
     ·rw [if_pos c14] at H
      have c14b0 := eq_true c14
      have c14b1 : decide (0 ≤ t122) = true := decide_eq_true c14
      clear c14
      by_cases c15 : t122 ≤ (t121.size : Int)
      ·rw [if_pos c15] at H
       have c15b0 := eq_true c15
       have c15b1 : decide (t122 ≤ (t121.size : Int)) = true := decide_eq_true c15
       clear c15
       have H' := Aside0.mk H
       clear H
       go_wp2
       go_meet
       case rel => exact ⟨_, (t121.extract 0 (t122 : Int).toNat), sd_, H', ⟨by have := HJ3.out; first | omega | exact Nat.le_refl _⟩, ⟨bel_ HB.out⟩⟩
      ·rw [if_neg c15] at H
       exact absurd H (by simp)
     ·rw [if_neg c14] at H
      exact absurd H (by simp)
    ·replace c13 := Bool.eq_false_iff.mpr c13
     subst c13
     have H1 : (host_Of.j1 kj3 t121) = some (r1, r2) := by rw [if_neg (show ¬ (false = true) by decide)] at H; exact H
     clear H
     have H := H1
     clear H1
     have H' := Aside0.mk H
     clear H
     go_wp2
     go_meet
     case rel => exact ⟨_, (t121), sd_, H', ⟨by have := HJ3.out; first | omega | exact Nat.le_refl _⟩, ⟨bel_ HB.out⟩⟩
   case rest =>
    clear HC12
    try clear c1
    try clear p2
    try clear c6
    try clear c6b0
    try clear c6b1
    try clear c6b2
    try clear p6
    try clear c7
    try clear c8
    try clear c8b0
    try clear c8b1
    try clear c9
    try clear c9b0
    try clear c9b1
    try clear c12
    try clear c13
    try clear c14
    try clear c14b0
    try clear c14b1
    try clear c15
    try clear c15b0
    try clear c15b1
    try clear p2
    try clear p6
    obtain ⟨kq, x0_11, rfl, HA, HJ11, HB⟩ := hcut
    cases kq with
    | zero => exact absurd HA.out (by simp [host_Of.j1])
    | succ kj11 =>
     have H := HA.out
     clear HA
     simp only [host_Of.j1] at H
     replace H := Option.bind_eq_some_iff.mp H
     obtain ⟨t124, A160, H⟩ := H
     replace H : ((dns_Name.f t124).bind fun t125 => (if t125 = true then (some (t124, 0)) else (some ((⟨#[]⟩ : ByteArray), 2)))) = some (r1, r2) := H
     have A16 := Aside0.mk A160
     clear A160
     replace H := Option.bind_eq_some_iff.mp H
     obtain ⟨t125, A170, H⟩ := H
     replace H : (if t125 = true then (some (t124, 0)) else (some ((⟨#[]⟩ : ByteArray), 2))) = some (r1, r2) := H
     have A17 := Aside0.mk A170
     clear A170
     by_cases c18 : t125 = true
     ·subst c18
      have H1 : (some (t124, 0)) = some (r1, r2) := by rw [if_pos rfl] at H; exact H
      clear H
      have H := H1
      clear H1
      simp only [Option.some.injEq, Prod.mk.injEq] at H
      obtain ⟨rfl, rfl⟩ := H
      go_wp2_with (first | ((with_reducible refine gate_callee (f := 15) rfl ?_); refine goesL_ (some 22) rfl rfl Tryd.func15 kr_ rfl #[.string x0_11, .string (⟨#[46]⟩ : ByteArray)] rfl rl_ ?_; (with_reducible refine (strings_TrimSuffix.calls x0_11 (⟨#[46]⟩ : ByteArray) t124 _ A16.out).mono ?_); rintro e w' ⟨rfl, ⟨nd, rfl⟩⟩; refine ⟨_, rfl, ?_⟩) | ((with_reducible refine gate_callee (f := 16) rfl ?_); refine goesL_ (some 24) rfl rfl Tryd.func16 kr_ rfl #[.string t124] rfl rl_ ?_; (with_reducible refine (dns_Name.calls t124 true _ A17.out).mono ?_); rintro e w19 ⟨rfl, hb⟩; refine ⟨_, rfl, ?_⟩; have n0_ := am_ (below_step (bel_ HB.out) hb); clear HB; have HB := n0_; clear n0_; (try clear hb); (try clear hb2); (try clear hk); (try clear hi)))
      go_ret2
      exact ⟨fi_, bel_ HB.out⟩
     ·replace c18 := Bool.eq_false_iff.mpr c18
      subst c18
      have H1 : (some ((⟨#[]⟩ : ByteArray), 2)) = some (r1, r2) := by rw [if_neg (show ¬ (false = true) by decide)] at H; exact H
      clear H
      have H := H1
      clear H1
      simp only [Option.some.injEq, Prod.mk.injEq] at H
      obtain ⟨rfl, rfl⟩ := H
      go_wp2_with (first | ((with_reducible refine gate_callee (f := 15) rfl ?_); refine goesL_ (some 22) rfl rfl Tryd.func15 kr_ rfl #[.string x0_11, .string (⟨#[46]⟩ : ByteArray)] rfl rl_ ?_; (with_reducible refine (strings_TrimSuffix.calls x0_11 (⟨#[46]⟩ : ByteArray) t124 _ A16.out).mono ?_); rintro e w' ⟨rfl, ⟨nd, rfl⟩⟩; refine ⟨_, rfl, ?_⟩) | ((with_reducible refine gate_callee (f := 16) rfl ?_); refine goesL_ (some 24) rfl rfl Tryd.func16 kr_ rfl #[.string t124] rfl rl_ ?_; (with_reducible refine (dns_Name.calls t124 false _ A17.out).mono ?_); rintro e w20 ⟨rfl, hb⟩; refine ⟨_, rfl, ?_⟩; have n0_ := am_ (below_step (bel_ HB.out) hb); clear HB; have HB := n0_; clear n0_; (try clear hb); (try clear hb2); (try clear hk); (try clear hi)))
      go_ret2
      exact ⟨fi_, bel_ HB.out⟩

/-! ### stringslite_HasPrefix: function 40 -/
def stringslite_HasPrefix.f (a0 : ByteArray) (a1 : ByteArray) : Option (Bool) := if (a0.size : Int) ≥ (a1.size : Int) then (if 0 ≤ (a1.size : Int) then (if (a1.size : Int) ≤ (a0.size : Int) then (some ((a0.extract 0 a1.size).toList == a1.toList)) else (none)) else (none)) else (some false)
set_option maxHeartbeats 8000000 in
set_option maxRecDepth 100000 in
theorem stringslite_HasPrefix.calls (a0 : ByteArray) (a1 : ByteArray) (r : Bool) (w : World) (h : stringslite_HasPrefix.f a0 a1 = some r) :
  Calls Tryd.prog 40 #[.string a0, .string a1] w fun e w' => e = .returned (.bool r) ∧ Drawn0 w w' := by
 have H : (if (a0.size : Int) ≥ (a1.size : Int) then (if 0 ≤ (a1.size : Int) then (if (a1.size : Int) ≤ (a0.size : Int) then (some ((a0.extract 0 a1.size).toList == a1.toList)) else (none)) else (none)) else (some false)) = some r := h
 clear h
 by_cases c3 : (a0.size : Int) ≥ (a1.size : Int)
 ·rw [if_pos c3] at H
  have c3b0 : decide ((a1.size : Int) ≤ (a0.size : Int)) = true := decide_eq_true c3
  have c3b1 : decide (a1.size ≤ a0.size) = true := decide_eq_true (Int.ofNat_le.mp c3)
  clear c3
  by_cases c4 : 0 ≤ (a1.size : Int)
  ·rw [if_pos c4] at H
   have c4b0 := eq_true c4
   have c4b1 : decide (0 ≤ (a1.size : Int)) = true := decide_eq_true c4
   clear c4
   by_cases c5 : (a1.size : Int) ≤ (a0.size : Int)
   ·rw [if_pos c5] at H
    have c5b0 := eq_true c5
    have c5b1 : decide ((a1.size : Int) ≤ (a0.size : Int)) = true := decide_eq_true c5
    clear c5
    obtain rfl := Option.some.inj H
    go_enter Tryd.func40, Tryd.ntmps40
    go_wp2
    go_ret
    exact ⟨by first | rfl | (simp; done) | (simp [*]; done) | (simp [bne_nil_isEmpty, beq_nil_isEmpty]; done) | (simp [*, bne_nil_isEmpty, beq_nil_isEmpty]; done), by repeat (first | exact Drawn0.refl _ | apply Drawn0.step)⟩
   ·rw [if_neg c5] at H
    exact absurd H (by simp)
  ·rw [if_neg c4] at H
   exact absurd H (by simp)
 ·rw [if_neg c3] at H
  have c3b0 : decide ((a1.size : Int) ≤ (a0.size : Int)) = false := decide_eq_false c3
  have c3b1 : decide (a1.size ≤ a0.size) = false := decide_eq_false (fun h => c3 (Int.ofNat_le.mpr h))
  clear c3
  obtain rfl := Option.some.inj H
  go_enter Tryd.func40, Tryd.ntmps40
  go_wp2
  go_ret
  exact ⟨by first | rfl | (simp; done) | (simp [*]; done) | (simp [bne_nil_isEmpty, beq_nil_isEmpty]; done) | (simp [*, bne_nil_isEmpty, beq_nil_isEmpty]; done), by repeat (first | exact Drawn0.refl _ | apply Drawn0.step)⟩

/-! ### stringslite_CutPrefix: function 26 -/
def stringslite_CutPrefix.f (a0 : ByteArray) (a1 : ByteArray) : Option (ByteArray × Bool) := (stringslite_HasPrefix.f a0 a1).bind fun t126 => (if t126 = true then (if 0 ≤ (a1.size : Int) then (if (a1.size : Int) ≤ (a0.size : Int) then (some (a0.extract a1.size a0.size, true)) else (none)) else (none)) else (some (a0, false)))
set_option maxHeartbeats 8000000 in
set_option maxRecDepth 100000 in
theorem stringslite_CutPrefix.calls (a0 : ByteArray) (a1 : ByteArray) (r1 : ByteArray) (r2 : Bool) (w : World) (h : stringslite_CutPrefix.f a0 a1 = some (r1, r2)) :
  Calls Tryd.prog 26 #[.string a0, .string a1] w fun e w' => e = .returned (.tuple #[.string r1, .bool r2]) ∧ Drawn0 w w' := by
 have H : ((stringslite_HasPrefix.f a0 a1).bind fun t126 => (if t126 = true then (if 0 ≤ (a1.size : Int) then (if (a1.size : Int) ≤ (a0.size : Int) then (some (a0.extract a1.size a0.size, true)) else (none)) else (none)) else (some (a0, false)))) = some (r1, r2) := h
 clear h
 replace H := Option.bind_eq_some_iff.mp H
 obtain ⟨t126, A30, H⟩ := H
 replace H : (if t126 = true then (if 0 ≤ (a1.size : Int) then (if (a1.size : Int) ≤ (a0.size : Int) then (some (a0.extract a1.size a0.size, true)) else (none)) else (none)) else (some (a0, false))) = some (r1, r2) := H
 have A3 := Aside0.mk A30
 clear A30
 by_cases c4 : t126 = true
 ·subst c4
  have H1 : (if 0 ≤ (a1.size : Int) then (if (a1.size : Int) ≤ (a0.size : Int) then (some (a0.extract a1.size a0.size, true)) else (none)) else (none)) = some (r1, r2) := by rw [if_pos rfl] at H; exact H
  clear H
  have H := H1
  clear H1
  by_cases c5 : 0 ≤ (a1.size : Int)
  ·rw [if_pos c5] at H
   have c5b0 := eq_true c5
   have c5b1 : decide (0 ≤ (a1.size : Int)) = true := decide_eq_true c5
   clear c5
   by_cases c6 : (a1.size : Int) ≤ (a0.size : Int)
   ·rw [if_pos c6] at H
    have c6b0 := eq_true c6
    have c6b1 : decide ((a1.size : Int) ≤ (a0.size : Int)) = true := decide_eq_true c6
    clear c6
    simp only [Option.some.injEq, Prod.mk.injEq] at H
    obtain ⟨rfl, rfl⟩ := H
    go_enter Tryd.func26, Tryd.ntmps26
    go_wp2_with (first | ((with_reducible refine gate_callee (f := 40) rfl ?_); refine goesL_ (some 8) rfl rfl Tryd.func40 kr_ rfl #[.string a0, .string a1] rfl rl_ ?_; (with_reducible refine (stringslite_HasPrefix.calls a0 a1 true _ A3.out).mono ?_); rintro e w' ⟨rfl, ⟨nd, rfl⟩⟩; refine ⟨_, rfl, ?_⟩))
    go_ret2
    exact ⟨by first | rfl | (simp; done) | (simp [*]; done) | (simp [bne_nil_isEmpty, beq_nil_isEmpty]; done) | (simp [*, bne_nil_isEmpty, beq_nil_isEmpty]; done), by repeat (first | exact Drawn0.refl _ | apply Drawn0.step)⟩
   ·rw [if_neg c6] at H
    exact absurd H (by simp)
  ·rw [if_neg c5] at H
   exact absurd H (by simp)
 ·replace c4 := Bool.eq_false_iff.mpr c4
  subst c4
  have H1 : (some (a0, false)) = some (r1, r2) := by rw [if_neg (show ¬ (false = true) by decide)] at H; exact H
  clear H
  have H := H1
  clear H1
  simp only [Option.some.injEq, Prod.mk.injEq] at H
  obtain ⟨rfl, rfl⟩ := H
  go_enter Tryd.func26, Tryd.ntmps26
  go_wp2_with (first | ((with_reducible refine gate_callee (f := 40) rfl ?_); refine goesL_ (some 8) rfl rfl Tryd.func40 kr_ rfl #[.string a0, .string a1] rfl rl_ ?_; (with_reducible refine (stringslite_HasPrefix.calls a0 a1 false _ A3.out).mono ?_); rintro e w' ⟨rfl, ⟨nd, rfl⟩⟩; refine ⟨_, rfl, ?_⟩))
  go_ret2
  exact ⟨by first | rfl | (simp; done) | (simp [*]; done) | (simp [bne_nil_isEmpty, beq_nil_isEmpty]; done) | (simp [*, bne_nil_isEmpty, beq_nil_isEmpty]; done), by repeat (first | exact Drawn0.refl _ | apply Drawn0.step)⟩

/-! ### strings_CutPrefix: function 19 -/
def strings_CutPrefix.f (a0 : ByteArray) (a1 : ByteArray) : Option (ByteArray × Bool) := (stringslite_CutPrefix.f a0 a1).bind fun bt127 => (some (bt127.1, bt127.2))
set_option maxHeartbeats 8000000 in
set_option maxRecDepth 100000 in
theorem strings_CutPrefix.calls (a0 : ByteArray) (a1 : ByteArray) (r1 : ByteArray) (r2 : Bool) (w : World) (h : strings_CutPrefix.f a0 a1 = some (r1, r2)) :
  Calls Tryd.prog 19 #[.string a0, .string a1] w fun e w' => e = .returned (.tuple #[.string r1, .bool r2]) ∧ Drawn0 w w' := by
 have H : ((stringslite_CutPrefix.f a0 a1).bind fun bt127 => (some (bt127.1, bt127.2))) = some (r1, r2) := h
 clear h
 replace H := Option.bind_eq_some_iff.mp H
 obtain ⟨⟨t127, t128⟩, A30, H⟩ := H
 replace H : (some (t127, t128)) = some (r1, r2) := H
 have A3 := Aside0.mk A30
 clear A30
 simp only [Option.some.injEq, Prod.mk.injEq] at H
 obtain ⟨rfl, rfl⟩ := H
 go_enter Tryd.func19, Tryd.ntmps19
 go_wp2_with (first | ((with_reducible refine gate_callee (f := 26) rfl ?_); refine goesL_ (some 8) rfl rfl Tryd.func26 kr_ rfl #[.string a0, .string a1] rfl rl_ ?_; (with_reducible refine (stringslite_CutPrefix.calls a0 a1 t127 t128 _ A3.out).mono ?_); rintro e w' ⟨rfl, ⟨nd, rfl⟩⟩; refine ⟨_, rfl, ?_⟩))
 go_ret2
 exact ⟨by first | rfl | (simp; done) | (simp [*]; done) | (simp [bne_nil_isEmpty, beq_nil_isEmpty]; done) | (simp [*, bne_nil_isEmpty, beq_nil_isEmpty]; done), by repeat (first | exact Drawn0.refl _ | apply Drawn0.step)⟩

/-! ### host_May: function 17 -/
def host_May.f (a0 : ByteArray) : Option (Bool) := (strings_CutPrefix.f a0 (⟨#[42, 46]⟩ : ByteArray)).bind fun bt129 => (if a0.toList = ([] : List UInt8) then (some true) else (if (a0.size : Int) ≤ 60 then ((dns_Name.f bt129.1).bind fun t131 => (if t131 = true then (if bt129.2 = true then (some true) else (some (bt129.1.toList == a0.toList))) else (some false))) else (some false)))
set_option maxHeartbeats 8000000 in
set_option maxRecDepth 100000 in
theorem host_May.calls (a0 : ByteArray) (r : Bool) (w : World) (h : host_May.f a0 = some r) :
  Calls Tryd.prog 17 #[.string a0] w fun e w' => e = .returned (.bool r) ∧ Below w.heap.size w w' := by
 have HB := am_ (Below.refl w.heap.size w)
 have H : ((strings_CutPrefix.f a0 (⟨#[42, 46]⟩ : ByteArray)).bind fun bt129 => (if a0.toList = ([] : List UInt8) then (some true) else (if (a0.size : Int) ≤ 60 then ((dns_Name.f bt129.1).bind fun t131 => (if t131 = true then (if bt129.2 = true then (some true) else (some (bt129.1.toList == a0.toList))) else (some false))) else (some false)))) = some r := h
 clear h
 replace H := Option.bind_eq_some_iff.mp H
 obtain ⟨⟨t129, t130⟩, A20, H⟩ := H
 replace H : (if a0.toList = ([] : List UInt8) then (some true) else (if (a0.size : Int) ≤ 60 then ((dns_Name.f t129).bind fun t131 => (if t131 = true then (if t130 = true then (some true) else (some (t129.toList == a0.toList))) else (some false))) else (some false))) = some r := H
 have A2 := Aside0.mk A20
 clear A20
 by_cases c3 : a0.toList = ([] : List UInt8)
 ·rw [if_pos c3] at H
  have c3b0 : (a0.toList == ([] : List UInt8)) = true := beq_iff_eq.mpr c3
  have c3b1 : (a0.toList != ([] : List UInt8)) = false := bne_eq_false_iff_eq.mpr c3
  clear c3
  obtain rfl := Option.some.inj H
  go_enter Tryd.func17, Tryd.ntmps17
  go_wp2_with (first | ((with_reducible refine gate_callee (f := 19) rfl ?_); refine goesL_ (some 7) rfl rfl Tryd.func19 kr_ rfl #[.string a0, .string (⟨#[42, 46]⟩ : ByteArray)] rfl rl_ ?_; (with_reducible refine (strings_CutPrefix.calls a0 (⟨#[42, 46]⟩ : ByteArray) t129 t130 _ A2.out).mono ?_); rintro e w' ⟨rfl, ⟨nd, rfl⟩⟩; refine ⟨_, rfl, ?_⟩))
  go_ret
  exact ⟨fi_, bel_ HB.out⟩
 ·rw [if_neg c3] at H
  have c3b0 : (a0.toList == ([] : List UInt8)) = false := beq_eq_false_iff_ne.mpr c3
  have c3b1 : (a0.toList != ([] : List UInt8)) = true := bne_iff_ne.mpr c3
  by_cases c4 : (a0.size : Int) ≤ 60
  ·rw [if_pos c4] at H
   have c4b0 : decide ((a0.size : Int) ≤ 60) = true := decide_eq_true c4
   have c4b1 : decide (a0.size ≤ 60) = true := decide_eq_true (by omega)
   clear c4
   replace H := Option.bind_eq_some_iff.mp H
   obtain ⟨t131, A50, H⟩ := H
   replace H : (if t131 = true then (if t130 = true then (some true) else (some (t129.toList == a0.toList))) else (some false)) = some r := H
   have A5 := Aside0.mk A50
   clear A50
   by_cases c6 : t131 = true
   ·subst c6
    have H1 : (if t130 = true then (some true) else (some (t129.toList == a0.toList))) = some r := by rw [if_pos rfl] at H; exact H
    clear H
    have H := H1
    clear H1
    by_cases c7 : t130 = true
    ·subst c7
     have H1 : (some true) = some r := by rw [if_pos rfl] at H; exact H
     clear H
     have H := H1
     clear H1
     obtain rfl := Option.some.inj H
     go_enter Tryd.func17, Tryd.ntmps17
     go_wp2_with (first | ((with_reducible refine gate_callee (f := 19) rfl ?_); refine goesL_ (some 7) rfl rfl Tryd.func19 kr_ rfl #[.string a0, .string (⟨#[42, 46]⟩ : ByteArray)] rfl rl_ ?_; (with_reducible refine (strings_CutPrefix.calls a0 (⟨#[42, 46]⟩ : ByteArray) t129 true _ A2.out).mono ?_); rintro e w' ⟨rfl, ⟨nd, rfl⟩⟩; refine ⟨_, rfl, ?_⟩) | (go_at_call 16; (with_reducible refine (dns_Name.calls t129 true _ A5.out).mono ?_); rintro e w8 ⟨rfl, hb⟩; have n0_ := am_ (below_step (bel_ HB.out) hb); clear HB; have HB := n0_; clear n0_; (try clear hb); (try clear hb2); (try clear hk); (try clear hi)))
     go_ret
     exact ⟨fi_, bel_ HB.out⟩
    ·replace c7 := Bool.eq_false_iff.mpr c7
     subst c7
     have H1 : (some (t129.toList == a0.toList)) = some r := by rw [if_neg (show ¬ (false = true) by decide)] at H; exact H
     clear H
     have H := H1
     clear H1
     obtain rfl := Option.some.inj H
     go_enter Tryd.func17, Tryd.ntmps17
     go_wp2_with (first | ((with_reducible refine gate_callee (f := 19) rfl ?_); refine goesL_ (some 7) rfl rfl Tryd.func19 kr_ rfl #[.string a0, .string (⟨#[42, 46]⟩ : ByteArray)] rfl rl_ ?_; (with_reducible refine (strings_CutPrefix.calls a0 (⟨#[42, 46]⟩ : ByteArray) t129 false _ A2.out).mono ?_); rintro e w' ⟨rfl, ⟨nd, rfl⟩⟩; refine ⟨_, rfl, ?_⟩) | (go_at_call 16; (with_reducible refine (dns_Name.calls t129 true _ A5.out).mono ?_); rintro e w9 ⟨rfl, hb⟩; have n0_ := am_ (below_step (bel_ HB.out) hb); clear HB; have HB := n0_; clear n0_; (try clear hb); (try clear hb2); (try clear hk); (try clear hi)))
     go_ret
     exact ⟨fi_, bel_ HB.out⟩
   ·replace c6 := Bool.eq_false_iff.mpr c6
    subst c6
    have H1 : (some false) = some r := by rw [if_neg (show ¬ (false = true) by decide)] at H; exact H
    clear H
    have H := H1
    clear H1
    obtain rfl := Option.some.inj H
    go_enter Tryd.func17, Tryd.ntmps17
    go_wp2_with (first | ((with_reducible refine gate_callee (f := 19) rfl ?_); refine goesL_ (some 7) rfl rfl Tryd.func19 kr_ rfl #[.string a0, .string (⟨#[42, 46]⟩ : ByteArray)] rfl rl_ ?_; (with_reducible refine (strings_CutPrefix.calls a0 (⟨#[42, 46]⟩ : ByteArray) t129 t130 _ A2.out).mono ?_); rintro e w' ⟨rfl, ⟨nd, rfl⟩⟩; refine ⟨_, rfl, ?_⟩) | (go_at_call 16; (with_reducible refine (dns_Name.calls t129 false _ A5.out).mono ?_); rintro e w10 ⟨rfl, hb⟩; have n0_ := am_ (below_step (bel_ HB.out) hb); clear HB; have HB := n0_; clear n0_; (try clear hb); (try clear hb2); (try clear hk); (try clear hi)))
    go_ret
    exact ⟨fi_, bel_ HB.out⟩
  ·rw [if_neg c4] at H
   have c4b0 : decide ((a0.size : Int) ≤ 60) = false := decide_eq_false c4
   have c4b1 : decide (a0.size ≤ 60) = false := decide_eq_false (by omega)
   clear c4
   obtain rfl := Option.some.inj H
   go_enter Tryd.func17, Tryd.ntmps17
   go_wp2_with (first | ((with_reducible refine gate_callee (f := 19) rfl ?_); refine goesL_ (some 7) rfl rfl Tryd.func19 kr_ rfl #[.string a0, .string (⟨#[42, 46]⟩ : ByteArray)] rfl rl_ ?_; (with_reducible refine (strings_CutPrefix.calls a0 (⟨#[42, 46]⟩ : ByteArray) t129 t130 _ A2.out).mono ?_); rintro e w' ⟨rfl, ⟨nd, rfl⟩⟩; refine ⟨_, rfl, ?_⟩))
   go_ret
   exact ⟨fi_, bel_ HB.out⟩

/-! ### strings_HasSuffix: function 27 -/
def strings_HasSuffix.f (a0 : ByteArray) (a1 : ByteArray) : Option (Bool) := (stringslite_HasSuffix.f a0 a1).bind fun t132 => (some t132)
set_option maxHeartbeats 8000000 in
set_option maxRecDepth 100000 in
theorem strings_HasSuffix.calls (a0 : ByteArray) (a1 : ByteArray) (r : Bool) (w : World) (h : strings_HasSuffix.f a0 a1 = some r) :
  Calls Tryd.prog 27 #[.string a0, .string a1] w fun e w' => e = .returned (.bool r) ∧ Drawn0 w w' := by
 have H : ((stringslite_HasSuffix.f a0 a1).bind fun t132 => (some t132)) = some r := h
 clear h
 replace H := Option.bind_eq_some_iff.mp H
 obtain ⟨t132, A30, H⟩ := H
 replace H : (some t132) = some r := H
 have A3 := Aside0.mk A30
 clear A30
 obtain rfl := Option.some.inj H
 go_enter Tryd.func27, Tryd.ntmps27
 go_wp2_with (first | ((with_reducible refine gate_callee (f := 35) rfl ?_); refine goesL_ (some 7) rfl rfl Tryd.func35 kr_ rfl #[.string a0, .string a1] rfl rl_ ?_; (with_reducible refine (stringslite_HasSuffix.calls a0 a1 t132 _ A3.out).mono ?_); rintro e w' ⟨rfl, ⟨nd, rfl⟩⟩; refine ⟨_, rfl, ?_⟩))
 go_ret
 exact ⟨by first | rfl | (simp; done) | (simp [*]; done) | (simp [bne_nil_isEmpty, beq_nil_isEmpty]; done) | (simp [*, bne_nil_isEmpty, beq_nil_isEmpty]; done), by repeat (first | exact Drawn0.refl _ | apply Drawn0.step)⟩

/-! ### dns_Under: function 20 -/
def dns_Under.f (a0 : ByteArray) (a1 : ByteArray) : Option (Bool) := (dns_Name.f a0).bind fun t133 => (if t133 = true then ((dns_Name.f a1).bind fun t134 => (if t134 = true then (if 1 + a1.size ≤ 9223372036854775807 then ((strings_HasSuffix.f a0 ((⟨#[46]⟩ : ByteArray) ++ a1)).bind fun t135 => (some t135)) else (none)) else (some false))) else (some false))
set_option maxHeartbeats 8000000 in
set_option maxRecDepth 100000 in
theorem dns_Under.calls (a0 : ByteArray) (a1 : ByteArray) (r : Bool) (w : World) (h : dns_Under.f a0 a1 = some r) :
  Calls Tryd.prog 20 #[.string a0, .string a1] w fun e w' => e = .returned (.bool r) ∧ Below w.heap.size w w' := by
 have HB := am_ (Below.refl w.heap.size w)
 have H : ((dns_Name.f a0).bind fun t133 => (if t133 = true then ((dns_Name.f a1).bind fun t134 => (if t134 = true then (if 1 + a1.size ≤ 9223372036854775807 then ((strings_HasSuffix.f a0 ((⟨#[46]⟩ : ByteArray) ++ a1)).bind fun t135 => (some t135)) else (none)) else (some false))) else (some false))) = some r := h
 clear h
 replace H := Option.bind_eq_some_iff.mp H
 obtain ⟨t133, A30, H⟩ := H
 replace H : (if t133 = true then ((dns_Name.f a1).bind fun t134 => (if t134 = true then (if 1 + a1.size ≤ 9223372036854775807 then ((strings_HasSuffix.f a0 ((⟨#[46]⟩ : ByteArray) ++ a1)).bind fun t135 => (some t135)) else (none)) else (some false))) else (some false)) = some r := H
 have A3 := Aside0.mk A30
 clear A30
 by_cases c4 : t133 = true
 ·subst c4
  have H1 : ((dns_Name.f a1).bind fun t134 => (if t134 = true then (if 1 + a1.size ≤ 9223372036854775807 then ((strings_HasSuffix.f a0 ((⟨#[46]⟩ : ByteArray) ++ a1)).bind fun t135 => (some t135)) else (none)) else (some false))) = some r := by rw [if_pos rfl] at H; exact H
  clear H
  have H := H1
  clear H1
  replace H := Option.bind_eq_some_iff.mp H
  obtain ⟨t134, A50, H⟩ := H
  replace H : (if t134 = true then (if 1 + a1.size ≤ 9223372036854775807 then ((strings_HasSuffix.f a0 ((⟨#[46]⟩ : ByteArray) ++ a1)).bind fun t135 => (some t135)) else (none)) else (some false)) = some r := H
  have A5 := Aside0.mk A50
  clear A50
  by_cases c6 : t134 = true
  ·subst c6
   have H1 : (if 1 + a1.size ≤ 9223372036854775807 then ((strings_HasSuffix.f a0 ((⟨#[46]⟩ : ByteArray) ++ a1)).bind fun t135 => (some t135)) else (none)) = some r := by rw [if_pos rfl] at H; exact H
   clear H
   have H := H1
   clear H1
   by_cases c7 : 1 + a1.size ≤ 9223372036854775807
   ·rw [if_pos c7] at H
    have c7b0 := eq_true c7
    have c7b1 : decide (1 + a1.size ≤ 9223372036854775807) = true := decide_eq_true c7
    try have c7b2 : (9223372036854775807 < 1 + a1.size) = False := eq_false (Nat.not_lt.2 c7)
    replace H := Option.bind_eq_some_iff.mp H
    obtain ⟨t135, A80, H⟩ := H
    replace H : (some t135) = some r := H
    have A8 := Aside0.mk A80
    clear A80
    obtain rfl := Option.some.inj H
    go_enter Tryd.func20, Tryd.ntmps20
    go_wp2_with (first | ((with_reducible refine gate_callee (f := 16) rfl ?_); refine goesL_ (some 6) rfl rfl Tryd.func16 kr_ rfl #[.string a0] rfl rl_ ?_; (with_reducible refine (dns_Name.calls a0 true _ A3.out).mono ?_); rintro e w9 ⟨rfl, hb⟩; refine ⟨_, rfl, ?_⟩; have n0_ := am_ (below_step (bel_ HB.out) hb); clear HB; have HB := n0_; clear n0_; (try clear hb); (try clear hb2); (try clear hk); (try clear hi)) | (go_at_call 16; (with_reducible refine (dns_Name.calls a1 true _ A5.out).mono ?_); rintro e w10 ⟨rfl, hb⟩; have n0_ := am_ (below_step (bel_ HB.out) hb); clear HB; have HB := n0_; clear n0_; (try clear hb); (try clear hb2); (try clear hk); (try clear hi)) | (go_at_call 27; (with_reducible refine (strings_HasSuffix.calls a0 ((⟨#[46]⟩ : ByteArray) ++ a1) t135 _ A8.out).mono ?_); rintro e w' ⟨rfl, ⟨nd, rfl⟩⟩))
    go_ret
    exact ⟨fi_, bel_ HB.out⟩
   ·rw [if_neg c7] at H
    exact absurd H (by simp)
  ·replace c6 := Bool.eq_false_iff.mpr c6
   subst c6
   have H1 : (some false) = some r := by rw [if_neg (show ¬ (false = true) by decide)] at H; exact H
   clear H
   have H := H1
   clear H1
   obtain rfl := Option.some.inj H
   go_enter Tryd.func20, Tryd.ntmps20
   go_wp2_with (first | ((with_reducible refine gate_callee (f := 16) rfl ?_); refine goesL_ (some 6) rfl rfl Tryd.func16 kr_ rfl #[.string a0] rfl rl_ ?_; (with_reducible refine (dns_Name.calls a0 true _ A3.out).mono ?_); rintro e w11 ⟨rfl, hb⟩; refine ⟨_, rfl, ?_⟩; have n0_ := am_ (below_step (bel_ HB.out) hb); clear HB; have HB := n0_; clear n0_; (try clear hb); (try clear hb2); (try clear hk); (try clear hi)) | (go_at_call 16; (with_reducible refine (dns_Name.calls a1 false _ A5.out).mono ?_); rintro e w12 ⟨rfl, hb⟩; have n0_ := am_ (below_step (bel_ HB.out) hb); clear HB; have HB := n0_; clear n0_; (try clear hb); (try clear hb2); (try clear hk); (try clear hi)))
   go_ret
   exact ⟨fi_, bel_ HB.out⟩
 ·replace c4 := Bool.eq_false_iff.mpr c4
  subst c4
  have H1 : (some false) = some r := by rw [if_neg (show ¬ (false = true) by decide)] at H; exact H
  clear H
  have H := H1
  clear H1
  obtain rfl := Option.some.inj H
  go_enter Tryd.func20, Tryd.ntmps20
  go_wp2_with (first | ((with_reducible refine gate_callee (f := 16) rfl ?_); refine goesL_ (some 6) rfl rfl Tryd.func16 kr_ rfl #[.string a0] rfl rl_ ?_; (with_reducible refine (dns_Name.calls a0 false _ A3.out).mono ?_); rintro e w13 ⟨rfl, hb⟩; refine ⟨_, rfl, ?_⟩; have n0_ := am_ (below_step (bel_ HB.out) hb); clear HB; have HB := n0_; clear n0_; (try clear hb); (try clear hb2); (try clear hk); (try clear hi)))
  go_ret
  exact ⟨fi_, bel_ HB.out⟩

/-! ### host_below: function 18 -/
mutual
def host_below.j0 : Nat → ByteArray → ByteArray → Bool → ByteArray → Bool → Bool → Option (Bool)
 | 0, _, _, _, _, _, _ => none
 | k + 1, x0, x5, x6, x7, x8, x19 => if x19 = true then (some true) else (if x0.toList = ([] : List UInt8) then (host_below.j1 k x0 x5 x6 x7 true) else (host_below.j1 k x0 x5 x6 x7 (!x8)))
def host_below.j1 : Nat → ByteArray → ByteArray → Bool → ByteArray → Bool → Option (Bool)
 | 0, _, _, _, _, _ => none
 | k + 1, x0, x5, x6, x7, x27 => if x27 = true then (some false) else (if x6 = true then ((dns_Under.f x5 x7).bind fun t140 => (some t140)) else ((dns_Under.f x0 x7).bind fun t141 => (some t141)))
end
def host_below.f (k : Nat) (a0 : ByteArray) (a1 : ByteArray) : Option (Bool) := (strings_CutPrefix.f a0 (⟨#[42, 46]⟩ : ByteArray)).bind fun bt136 => ((strings_CutPrefix.f a1 (⟨#[42, 46]⟩ : ByteArray)).bind fun bt138 => (if a1.toList = ([] : List UInt8) then (host_below.j0 k a0 bt136.1 bt136.2 bt138.1 bt138.2 true) else (host_below.j0 k a0 bt136.1 bt136.2 bt138.1 bt138.2 (a0.toList == a1.toList))))
theorem host_below.mono_l : ∀ k, (∀ y0 y1 y2 y3 y4 y5, LeO (host_below.j0 k y0 y1 y2 y3 y4 y5) (host_below.j0 (k + 1) y0 y1 y2 y3 y4 y5)) ∧ (∀ y0 y1 y2 y3 y4, LeO (host_below.j1 k y0 y1 y2 y3 y4) (host_below.j1 (k + 1) y0 y1 y2 y3 y4))
 | 0 => ⟨fun _ _ _ _ _ _ r h => by simp [host_below.j0] at h, fun _ _ _ _ _ r h => by simp [host_below.j1] at h⟩
 | k + 1 => by
  obtain ⟨ih0, ih1⟩ := host_below.mono_l k
  refine ⟨?_, ?_⟩
  ·intro y0 y1 y2 y3 y4 y5
   unfold host_below.j0
   repeat' first
   | (with_reducible exact ih0 _ _ _ _ _ _)
   | (with_reducible exact ih1 _ _ _ _ _)
   | (with_reducible exact LeO.refl _)
   | (with_reducible exact LeO.none _)
   | (with_reducible refine LeO.ite ?_ ?_)
   | (with_reducible refine LeO.bind ?_ (fun _ => ?_))
   | exact ih0 _ _ _ _ _ _
   | exact ih1 _ _ _ _ _
   | exact LeO.none _
   | refine LeO.ite ?_ ?_
   | refine LeO.bind ?_ (fun _ => ?_)
  ·intro y0 y1 y2 y3 y4
   unfold host_below.j1
   repeat' first
   | (with_reducible exact ih0 _ _ _ _ _ _)
   | (with_reducible exact ih1 _ _ _ _ _)
   | (with_reducible exact LeO.refl _)
   | (with_reducible exact LeO.none _)
   | (with_reducible refine LeO.ite ?_ ?_)
   | (with_reducible refine LeO.bind ?_ (fun _ => ?_))
   | exact ih0 _ _ _ _ _ _
   | exact ih1 _ _ _ _ _
   | exact LeO.none _
   | refine LeO.ite ?_ ?_
   | refine LeO.bind ?_ (fun _ => ?_)
theorem host_below.mono : ∀ a0 a1 k, LeO (host_below.f k a0 a1) (host_below.f (k + 1) a0 a1) := by
 intro a0 a1 k
 obtain ⟨ih0, ih1⟩ := host_below.mono_l k
 unfold host_below.f
 repeat' first
   | (with_reducible exact ih0 _ _ _ _ _ _)
   | (with_reducible exact ih1 _ _ _ _ _)
   | (with_reducible exact LeO.refl _)
   | (with_reducible exact LeO.none _)
   | (with_reducible refine LeO.ite ?_ ?_)
   | (with_reducible refine LeO.bind ?_ (fun _ => ?_))
   | exact ih0 _ _ _ _ _ _
   | exact ih1 _ _ _ _ _
   | exact LeO.none _
   | refine LeO.ite ?_ ?_
   | refine LeO.bind ?_ (fun _ => ?_)
set_option maxHeartbeats 8000000 in
set_option maxRecDepth 100000 in
theorem host_below.calls (k : Nat) (a0 : ByteArray) (a1 : ByteArray) (r : Bool) (w : World) (h : host_below.f k a0 a1 = some r) :
  Calls Tryd.prog 18 #[.string a0, .string a1] w fun e w' => e = .returned (.bool r) ∧ Below w.heap.size w w' := by
 have HB := am_ (Below.refl w.heap.size w)
 have H : ((strings_CutPrefix.f a0 (⟨#[42, 46]⟩ : ByteArray)).bind fun bt136 => ((strings_CutPrefix.f a1 (⟨#[42, 46]⟩ : ByteArray)).bind fun bt138 => (if a1.toList = ([] : List UInt8) then (host_below.j0 k a0 bt136.1 bt136.2 bt138.1 bt138.2 true) else (host_below.j0 k a0 bt136.1 bt136.2 bt138.1 bt138.2 (a0.toList == a1.toList))))) = some r := h
 clear h
 replace H := Option.bind_eq_some_iff.mp H
 obtain ⟨⟨t136, t137⟩, A30, H⟩ := H
 replace H : ((strings_CutPrefix.f a1 (⟨#[42, 46]⟩ : ByteArray)).bind fun bt138 => (if a1.toList = ([] : List UInt8) then (host_below.j0 k a0 t136 t137 bt138.1 bt138.2 true) else (host_below.j0 k a0 t136 t137 bt138.1 bt138.2 (a0.toList == a1.toList)))) = some r := H
 have A3 := Aside0.mk A30
 clear A30
 replace H := Option.bind_eq_some_iff.mp H
 obtain ⟨⟨t138, t139⟩, A40, H⟩ := H
 replace H : (if a1.toList = ([] : List UInt8) then (host_below.j0 k a0 t136 t137 t138 t139 true) else (host_below.j0 k a0 t136 t137 t138 t139 (a0.toList == a1.toList))) = some r := H
 have A4 := Aside0.mk A40
 clear A40
 have HC5 := Aside0.mk H
 clear H
 go_enter Tryd.func18, Tryd.ntmps18
 go_upto_region 3 with (first | ((with_reducible refine gate_callee (f := 19) rfl ?_); refine goesL_ (some 11) rfl rfl Tryd.func19 kr_ rfl #[.string a0, .string (⟨#[42, 46]⟩ : ByteArray)] rfl rl_ ?_; (with_reducible refine (strings_CutPrefix.calls a0 (⟨#[42, 46]⟩ : ByteArray) t136 t137 _ A3.out).mono ?_); rintro e w' ⟨rfl, ⟨nd, rfl⟩⟩; refine ⟨_, rfl, ?_⟩) | ((with_reducible refine gate_callee (f := 19) rfl ?_); refine goesL_ (some 16) rfl rfl Tryd.func19 kr_ rfl #[.string a1, .string (⟨#[42, 46]⟩ : ByteArray)] rfl rl_ ?_; (with_reducible refine (strings_CutPrefix.calls a1 (⟨#[42, 46]⟩ : ByteArray) t138 t139 _ A4.out).mono ?_); rintro e w' ⟨rfl, ⟨nd, rfl⟩⟩; refine ⟨_, rfl, ?_⟩))
 (try simp only [Act.put, List.setIfInBounds_toArray, List.set_cons_zero, List.set_cons_succ])
 go_cut [19] (fun v19 wc => ∃ (kq : Nat) (x19_4 : Bool), v19 = .bool x19_4 ∧ Aside0 (host_below.j0 kq a0 t136 t137 t138 t139 x19_4 = some r) ∧ Aside0 (kq ≤ k) ∧ Aside0 (Below w.heap.size w wc))
 case first =>
  have H := HC5.out
  clear HC5
  by_cases c6 : a1.toList = ([] : List UInt8)
  ·rw [if_pos c6] at H
   have c6b0 : (a1.toList == ([] : List UInt8)) = true := beq_iff_eq.mpr c6
   have c6b1 : (a1.toList != ([] : List UInt8)) = false := bne_eq_false_iff_eq.mpr c6
   clear c6
   (first | rw [c6b0] | rw [c6b1] | rw [c6b2] | (simp only [i64_w, i32_w]; rw [c6b0]) | skip)
   have H' := Aside0.mk H
   clear H
   go_wp2
   go_meet
   case rel => exact ⟨_, (true), sd_, H', ⟨by first | omega | exact Nat.le_refl _⟩, ⟨bel_ HB.out⟩⟩
  ·rw [if_neg c6] at H
   have c6b0 : (a1.toList == ([] : List UInt8)) = false := beq_eq_false_iff_ne.mpr c6
   have c6b1 : (a1.toList != ([] : List UInt8)) = true := bne_iff_ne.mpr c6
   (first | rw [c6b0] | rw [c6b1] | rw [c6b2] | (simp only [i64_w, i32_w]; rw [c6b0]) | skip)
   have H' := Aside0.mk H
   clear H
   go_wp2
   go_meet
   case rel => exact ⟨_, ((a0.toList == a1.toList)), sd_, H', ⟨by first | omega | exact Nat.le_refl _⟩, ⟨bel_ HB.out⟩⟩
 case rest =>
  clear HC5
  try clear c1
  try clear p2
  try clear c6
  try clear c6b0
  try clear c6b1
  try clear c6b2
  obtain ⟨kq, x19_4, rfl, HA, HJ4, HB⟩ := hcut
  cases kq with
  | zero => exact absurd HA.out (by simp [host_below.j0])
  | succ kj4 =>
   have H := HA.out
   clear HA
   simp only [host_below.j0] at H
   by_cases c7 : x19_4 = true
   ·subst c7
    have H1 : (some true) = some r := by rw [if_pos rfl] at H; exact H
    clear H
    have H := H1
    clear H1
    obtain rfl := Option.some.inj H
    go_wp2
    go_ret
    exact ⟨fi_, bel_ HB.out⟩
   ·replace c7 := Bool.eq_false_iff.mpr c7
    subst c7
    have H1 : (if a0.toList = ([] : List UInt8) then (host_below.j1 kj4 a0 t136 t137 t138 true) else (host_below.j1 kj4 a0 t136 t137 t138 (!t139))) = some r := by rw [if_neg (show ¬ (false = true) by decide)] at H; exact H
    clear H
    have H := H1
    clear H1
    have HC8 := Aside0.mk H
    clear H
    go_upto_region 5 with (fail)
    go_cut [27] (fun v27 wc => ∃ (kq : Nat) (x27_7 : Bool), v27 = .bool x27_7 ∧ Aside0 (host_below.j1 kq a0 t136 t137 t138 x27_7 = some r) ∧ Aside0 (kq ≤ kj4) ∧ Aside0 (Below w.heap.size w wc))
    case first =>
     have H := HC8.out
     clear HC8
     by_cases c9 : a0.toList = ([] : List UInt8)
     ·rw [if_pos c9] at H
      have c9b0 : (a0.toList == ([] : List UInt8)) = true := beq_iff_eq.mpr c9
      have c9b1 : (a0.toList != ([] : List UInt8)) = false := bne_eq_false_iff_eq.mpr c9
      clear c9
      (first | rw [c9b0] | rw [c9b1] | rw [c9b2] | (simp only [i64_w, i32_w]; rw [c9b0]) | skip)
      have H' := Aside0.mk H
      clear H
      go_wp2
      go_meet
      case rel => exact ⟨_, (true), sd_, H', ⟨by have := HJ4.out; first | omega | exact Nat.le_refl _⟩, ⟨bel_ HB.out⟩⟩
     ·rw [if_neg c9] at H
      have c9b0 : (a0.toList == ([] : List UInt8)) = false := beq_eq_false_iff_ne.mpr c9
      have c9b1 : (a0.toList != ([] : List UInt8)) = true := bne_iff_ne.mpr c9
      (first | rw [c9b0] | rw [c9b1] | rw [c9b2] | (simp only [i64_w, i32_w]; rw [c9b0]) | skip)
      have H' := Aside0.mk H
      clear H
      go_wp2
      go_meet
      case rel => exact ⟨_, (!t139), sd_, H', ⟨by have := HJ4.out; first | omega | exact Nat.le_refl _⟩, ⟨bel_ HB.out⟩⟩
    case rest =>
     clear HC8
     try clear c1
     try clear p2
     try clear c6
     try clear c6b0
     try clear c6b1
     try clear c6b2
     try clear c7
     try clear c9
     try clear c9b0
     try clear c9b1
     try clear c9b2
     try clear p2
     obtain ⟨kq, x27_7, rfl, HA, HJ7, HB⟩ := hcut
     cases kq with
     | zero => exact absurd HA.out (by simp [host_below.j1])
     | succ kj7 =>
      have H := HA.out
      clear HA
      simp only [host_below.j1] at H
      by_cases c10 : x27_7 = true
      ·subst c10
       have H1 : (some false) = some r := by rw [if_pos rfl] at H; exact H
       clear H
       have H := H1
       clear H1
       obtain rfl := Option.some.inj H
       go_wp2
       go_ret
       exact ⟨fi_, bel_ HB.out⟩
      ·replace c10 := Bool.eq_false_iff.mpr c10
       subst c10
       have H1 : (if t137 = true then ((dns_Under.f t136 t138).bind fun t140 => (some t140)) else ((dns_Under.f a0 t138).bind fun t141 => (some t141))) = some r := by rw [if_neg (show ¬ (false = true) by decide)] at H; exact H
       clear H
       have H := H1
       clear H1
       by_cases c11 : t137 = true
       ·subst c11
        have H1 : ((dns_Under.f t136 t138).bind fun t140 => (some t140)) = some r := by rw [if_pos rfl] at H; exact H
        clear H
        have H := H1
        clear H1
        replace H := Option.bind_eq_some_iff.mp H
        obtain ⟨t140, A120, H⟩ := H
        replace H : (some t140) = some r := H
        have A12 := Aside0.mk A120
        clear A120
        obtain rfl := Option.some.inj H
        go_wp2_with (first | ((with_reducible refine gate_callee (f := 20) rfl ?_); refine goesL_ (some 38) rfl rfl Tryd.func20 kr_ rfl #[.string t136, .string t138] rfl rl_ ?_; (with_reducible refine (dns_Under.calls t136 t138 t140 _ A12.out).mono ?_); rintro e w13 ⟨rfl, hb⟩; refine ⟨_, rfl, ?_⟩; have n0_ := am_ (below_step (bel_ HB.out) hb); clear HB; have HB := n0_; clear n0_; (try clear hb); (try clear hb2); (try clear hk); (try clear hi)))
        go_ret
        exact ⟨fi_, bel_ HB.out⟩
       ·replace c11 := Bool.eq_false_iff.mpr c11
        subst c11
        have H1 : ((dns_Under.f a0 t138).bind fun t141 => (some t141)) = some r := by rw [if_neg (show ¬ (false = true) by decide)] at H; exact H
        clear H
        have H := H1
        clear H1
        replace H := Option.bind_eq_some_iff.mp H
        obtain ⟨t141, A140, H⟩ := H
        replace H : (some t141) = some r := H
        have A14 := Aside0.mk A140
        clear A140
        obtain rfl := Option.some.inj H
        go_wp2_with (first | ((with_reducible refine gate_callee (f := 20) rfl ?_); refine goesL_ (some 41) rfl rfl Tryd.func20 kr_ rfl #[.string a0, .string t138] rfl rl_ ?_; (with_reducible refine (dns_Under.calls a0 t138 t141 _ A14.out).mono ?_); rintro e w15 ⟨rfl, hb⟩; refine ⟨_, rfl, ?_⟩; have n0_ := am_ (below_step (bel_ HB.out) hb); clear HB; have HB := n0_; clear n0_; (try clear hb); (try clear hb2); (try clear hk); (try clear hi)))
        go_ret
        exact ⟨fi_, bel_ HB.out⟩

/-! ### host_Meet: function 10 -/
def host_Meet.j0 : Nat → ByteArray → ByteArray → Bool → Option (ByteArray × Bool)
 | 0, _, _, _ => none
 | k + 1, x0, x1, x6 => if x6 = true then (some ((⟨#[]⟩ : ByteArray), false)) else ((host_below.f k x0 x1).bind fun t144 => (if t144 = true then (some (x0, true)) else ((host_below.f k x1 x0).bind fun t145 => (if t145 = true then (some (x1, true)) else (some ((⟨#[]⟩ : ByteArray), false))))))
def host_Meet.f (k : Nat) (a0 : ByteArray) (a1 : ByteArray) : Option (ByteArray × Bool) := (host_May.f a0).bind fun t142 => (if t142 = true then ((host_May.f a1).bind fun t143 => (host_Meet.j0 k a0 a1 (!t143))) else (host_Meet.j0 k a0 a1 true))
theorem host_Meet.mono_l : ∀ k, (∀ y0 y1 y2, LeO (host_Meet.j0 k y0 y1 y2) (host_Meet.j0 (k + 1) y0 y1 y2))
 | 0 => fun _ _ _ r h => by simp [host_Meet.j0] at h
 | k + 1 => by
  have ih0 := host_Meet.mono_l k
  ·intro y0 y1 y2
   unfold host_Meet.j0
   repeat' first
   | (with_reducible exact ih0 _ _ _)
   | (with_reducible exact host_below.mono _ _ _)
   | (with_reducible exact LeO.refl _)
   | (with_reducible exact LeO.none _)
   | (with_reducible refine LeO.ite ?_ ?_)
   | (with_reducible refine LeO.bind ?_ (fun _ => ?_))
   | exact ih0 _ _ _
   | exact host_below.mono _ _ _
   | exact LeO.none _
   | refine LeO.ite ?_ ?_
   | refine LeO.bind ?_ (fun _ => ?_)
theorem host_Meet.mono : ∀ a0 a1 k, LeO (host_Meet.f k a0 a1) (host_Meet.f (k + 1) a0 a1) := by
 intro a0 a1 k
 have ih0 := host_Meet.mono_l k
 unfold host_Meet.f
 repeat' first
   | (with_reducible exact ih0 _ _ _)
   | (with_reducible exact host_below.mono _ _ _)
   | (with_reducible exact LeO.refl _)
   | (with_reducible exact LeO.none _)
   | (with_reducible refine LeO.ite ?_ ?_)
   | (with_reducible refine LeO.bind ?_ (fun _ => ?_))
   | exact ih0 _ _ _
   | exact host_below.mono _ _ _
   | exact LeO.none _
   | refine LeO.ite ?_ ?_
   | refine LeO.bind ?_ (fun _ => ?_)
set_option maxHeartbeats 8000000 in
set_option maxRecDepth 100000 in
theorem host_Meet.calls (k : Nat) (a0 : ByteArray) (a1 : ByteArray) (r1 : ByteArray) (r2 : Bool) (w : World) (h : host_Meet.f k a0 a1 = some (r1, r2)) :
  Calls Tryd.prog 10 #[.string a0, .string a1] w fun e w' => e = .returned (.tuple #[.string r1, .bool r2]) ∧ Below w.heap.size w w' := by
 have HB := am_ (Below.refl w.heap.size w)
 have H : ((host_May.f a0).bind fun t142 => (if t142 = true then ((host_May.f a1).bind fun t143 => (host_Meet.j0 k a0 a1 (!t143))) else (host_Meet.j0 k a0 a1 true))) = some (r1, r2) := h
 clear h
 have HC3 := Aside0.mk H
 clear H
 go_enter Tryd.func10, Tryd.ntmps10
 go_upto_region 1 with (fail)
 go_cut [6] (fun v6 wc => ∃ (kq : Nat) (x6_2 : Bool), v6 = .bool x6_2 ∧ Aside0 (host_Meet.j0 kq a0 a1 x6_2 = some (r1, r2)) ∧ Aside0 (kq ≤ k) ∧ Aside0 (Below w.heap.size w wc))
 case first =>
  have H := HC3.out
  clear HC3
  replace H := Option.bind_eq_some_iff.mp H
  obtain ⟨t142, A40, H⟩ := H
  replace H : (if t142 = true then ((host_May.f a1).bind fun t143 => (host_Meet.j0 k a0 a1 (!t143))) else (host_Meet.j0 k a0 a1 true)) = some (r1, r2) := H
  have A4 := Aside0.mk A40
  clear A40
  by_cases c5 : t142 = true
  ·subst c5
   have H1 : ((host_May.f a1).bind fun t143 => (host_Meet.j0 k a0 a1 (!t143))) = some (r1, r2) := by rw [if_pos rfl] at H; exact H
   clear H
   have H := H1
   clear H1
   replace H := Option.bind_eq_some_iff.mp H
   obtain ⟨t143, A60, H⟩ := H
   replace H : (host_Meet.j0 k a0 a1 (!t143)) = some (r1, r2) := H
   have A6 := Aside0.mk A60
   clear A60
   have H' := Aside0.mk H
   clear H
   go_wp2_with (first | ((with_reducible refine gate_callee (f := 17) rfl ?_); refine goesL_ (some 8) rfl rfl Tryd.func17 kr_ rfl #[.string a0] rfl rl_ ?_; (with_reducible refine (host_May.calls a0 true _ A4.out).mono ?_); rintro e w7 ⟨rfl, hb⟩; refine ⟨_, rfl, ?_⟩; have n0_ := am_ (below_step (bel_ HB.out) hb); clear HB; have HB := n0_; clear n0_; (try clear hb); (try clear hb2); (try clear hk); (try clear hi)) | (go_at_call 17; (with_reducible refine (host_May.calls a1 t143 _ A6.out).mono ?_); rintro e w8 ⟨rfl, hb⟩; have n0_ := am_ (below_step (bel_ HB.out) hb); clear HB; have HB := n0_; clear n0_; (try clear hb); (try clear hb2); (try clear hk); (try clear hi)))
   go_meet
   case rel => exact ⟨_, (!t143), sd_, H', ⟨by first | omega | exact Nat.le_refl _⟩, ⟨bel_ HB.out⟩⟩
  ·replace c5 := Bool.eq_false_iff.mpr c5
   subst c5
   have H1 : (host_Meet.j0 k a0 a1 true) = some (r1, r2) := by rw [if_neg (show ¬ (false = true) by decide)] at H; exact H
   clear H
   have H := H1
   clear H1
   have H' := Aside0.mk H
   clear H
   go_wp2_with (first | ((with_reducible refine gate_callee (f := 17) rfl ?_); refine goesL_ (some 8) rfl rfl Tryd.func17 kr_ rfl #[.string a0] rfl rl_ ?_; (with_reducible refine (host_May.calls a0 false _ A4.out).mono ?_); rintro e w9 ⟨rfl, hb⟩; refine ⟨_, rfl, ?_⟩; have n0_ := am_ (below_step (bel_ HB.out) hb); clear HB; have HB := n0_; clear n0_; (try clear hb); (try clear hb2); (try clear hk); (try clear hi)))
   go_meet
   case rel => exact ⟨_, (true), sd_, H', ⟨by first | omega | exact Nat.le_refl _⟩, ⟨bel_ HB.out⟩⟩
 case rest =>
  clear HC3
  try clear c1
  try clear p2
  try clear c5
  obtain ⟨kq, x6_2, rfl, HA, HJ2, HB⟩ := hcut
  cases kq with
  | zero => exact absurd HA.out (by simp [host_Meet.j0])
  | succ kj2 =>
   have H := HA.out
   clear HA
   simp only [host_Meet.j0] at H
   by_cases c10 : x6_2 = true
   ·subst c10
    have H1 : (some ((⟨#[]⟩ : ByteArray), false)) = some (r1, r2) := by rw [if_pos rfl] at H; exact H
    clear H
    have H := H1
    clear H1
    simp only [Option.some.injEq, Prod.mk.injEq] at H
    obtain ⟨rfl, rfl⟩ := H
    go_wp2
    go_ret2
    exact ⟨fi_, bel_ HB.out⟩
   ·replace c10 := Bool.eq_false_iff.mpr c10
    subst c10
    have H1 : ((host_below.f kj2 a0 a1).bind fun t144 => (if t144 = true then (some (a0, true)) else ((host_below.f kj2 a1 a0).bind fun t145 => (if t145 = true then (some (a1, true)) else (some ((⟨#[]⟩ : ByteArray), false)))))) = some (r1, r2) := by rw [if_neg (show ¬ (false = true) by decide)] at H; exact H
    clear H
    have H := H1
    clear H1
    replace H := Option.bind_eq_some_iff.mp H
    obtain ⟨t144, A110, H⟩ := H
    replace H : (if t144 = true then (some (a0, true)) else ((host_below.f kj2 a1 a0).bind fun t145 => (if t145 = true then (some (a1, true)) else (some ((⟨#[]⟩ : ByteArray), false))))) = some (r1, r2) := H
    have A11 := Aside0.mk A110
    clear A110
    by_cases c12 : t144 = true
    ·subst c12
     have H1 : (some (a0, true)) = some (r1, r2) := by rw [if_pos rfl] at H; exact H
     clear H
     have H := H1
     clear H1
     simp only [Option.some.injEq, Prod.mk.injEq] at H
     obtain ⟨rfl, rfl⟩ := H
     go_wp2_with (first | ((with_reducible refine gate_callee (f := 18) rfl ?_); refine goesL_ (some 18) rfl rfl Tryd.func18 kr_ rfl #[.string a0, .string a1] rfl rl_ ?_; (with_reducible refine (host_below.calls kj2 a0 a1 true _ A11.out).mono ?_); rintro e w13 ⟨rfl, hb⟩; refine ⟨_, rfl, ?_⟩; have n0_ := am_ (below_step (bel_ HB.out) hb); clear HB; have HB := n0_; clear n0_; (try clear hb); (try clear hb2); (try clear hk); (try clear hi)))
     go_ret2
     exact ⟨fi_, bel_ HB.out⟩
    ·replace c12 := Bool.eq_false_iff.mpr c12
     subst c12
     have H1 : ((host_below.f kj2 a1 a0).bind fun t145 => (if t145 = true then (some (a1, true)) else (some ((⟨#[]⟩ : ByteArray), false)))) = some (r1, r2) := by rw [if_neg (show ¬ (false = true) by decide)] at H; exact H
     clear H
     have H := H1
     clear H1
     replace H := Option.bind_eq_some_iff.mp H
     obtain ⟨t145, A140, H⟩ := H
     replace H : (if t145 = true then (some (a1, true)) else (some ((⟨#[]⟩ : ByteArray), false))) = some (r1, r2) := H
     have A14 := Aside0.mk A140
     clear A140
     by_cases c15 : t145 = true
     ·subst c15
      have H1 : (some (a1, true)) = some (r1, r2) := by rw [if_pos rfl] at H; exact H
      clear H
      have H := H1
      clear H1
      simp only [Option.some.injEq, Prod.mk.injEq] at H
      obtain ⟨rfl, rfl⟩ := H
      go_wp2_with (first | ((with_reducible refine gate_callee (f := 18) rfl ?_); refine goesL_ (some 18) rfl rfl Tryd.func18 kr_ rfl #[.string a0, .string a1] rfl rl_ ?_; (with_reducible refine (host_below.calls kj2 a0 a1 false _ A11.out).mono ?_); rintro e w16 ⟨rfl, hb⟩; refine ⟨_, rfl, ?_⟩; have n0_ := am_ (below_step (bel_ HB.out) hb); clear HB; have HB := n0_; clear n0_; (try clear hb); (try clear hb2); (try clear hk); (try clear hi)) | ((with_reducible refine gate_callee (f := 18) rfl ?_); refine goesL_ (some 23) rfl rfl Tryd.func18 kr_ rfl #[.string a1, .string a0] rfl rl_ ?_; (with_reducible refine (host_below.calls kj2 a1 a0 true _ A14.out).mono ?_); rintro e w17 ⟨rfl, hb⟩; refine ⟨_, rfl, ?_⟩; have n0_ := am_ (below_step (bel_ HB.out) hb); clear HB; have HB := n0_; clear n0_; (try clear hb); (try clear hb2); (try clear hk); (try clear hi)))
      go_ret2
      exact ⟨fi_, bel_ HB.out⟩
     ·replace c15 := Bool.eq_false_iff.mpr c15
      subst c15
      have H1 : (some ((⟨#[]⟩ : ByteArray), false)) = some (r1, r2) := by rw [if_neg (show ¬ (false = true) by decide)] at H; exact H
      clear H
      have H := H1
      clear H1
      simp only [Option.some.injEq, Prod.mk.injEq] at H
      obtain ⟨rfl, rfl⟩ := H
      go_wp2_with (first | ((with_reducible refine gate_callee (f := 18) rfl ?_); refine goesL_ (some 18) rfl rfl Tryd.func18 kr_ rfl #[.string a0, .string a1] rfl rl_ ?_; (with_reducible refine (host_below.calls kj2 a0 a1 false _ A11.out).mono ?_); rintro e w18 ⟨rfl, hb⟩; refine ⟨_, rfl, ?_⟩; have n0_ := am_ (below_step (bel_ HB.out) hb); clear HB; have HB := n0_; clear n0_; (try clear hb); (try clear hb2); (try clear hk); (try clear hi)) | ((with_reducible refine gate_callee (f := 18) rfl ?_); refine goesL_ (some 23) rfl rfl Tryd.func18 kr_ rfl #[.string a1, .string a0] rfl rl_ ?_; (with_reducible refine (host_below.calls kj2 a1 a0 false _ A14.out).mono ?_); rintro e w19 ⟨rfl, hb⟩; refine ⟨_, rfl, ?_⟩; have n0_ := am_ (below_step (bel_ HB.out) hb); clear HB; have HB := n0_; clear n0_; (try clear hb); (try clear hb2); (try clear hk); (try clear hi)))
      go_ret2
      exact ⟨fi_, bel_ HB.out⟩

/-! ### host_Holds: function 11 -/
def host_Holds.j0 : Nat → ByteArray → ByteArray → ByteArray → Bool → Bool → Option (Bool)
 | 0, _, _, _, _, _ => none
 | k + 1, x0, x1, x5, x6, x12 => if x12 = true then (some false) else (if x0.toList = ([] : List UInt8) then (some true) else (if x6 = true then ((dns_Under.f x1 x5).bind fun t150 => (some t150)) else (some (x0.toList == x1.toList))))
def host_Holds.f (k : Nat) (a0 : ByteArray) (a1 : ByteArray) : Option (Bool) := (strings_CutPrefix.f a0 (⟨#[42, 46]⟩ : ByteArray)).bind fun bt146 => ((host_May.f a0).bind fun t148 => (if t148 = true then ((dns_Name.f a1).bind fun t149 => (host_Holds.j0 k a0 a1 bt146.1 bt146.2 (!t149))) else (host_Holds.j0 k a0 a1 bt146.1 bt146.2 true)))
theorem host_Holds.mono_l : ∀ k, (∀ y0 y1 y2 y3 y4, LeO (host_Holds.j0 k y0 y1 y2 y3 y4) (host_Holds.j0 (k + 1) y0 y1 y2 y3 y4))
 | 0 => fun _ _ _ _ _ r h => by simp [host_Holds.j0] at h
 | k + 1 => by
  have ih0 := host_Holds.mono_l k
  ·intro y0 y1 y2 y3 y4
   unfold host_Holds.j0
   repeat' first
   | (with_reducible exact ih0 _ _ _ _ _)
   | (with_reducible exact LeO.refl _)
   | (with_reducible exact LeO.none _)
   | (with_reducible refine LeO.ite ?_ ?_)
   | (with_reducible refine LeO.bind ?_ (fun _ => ?_))
   | exact ih0 _ _ _ _ _
   | exact LeO.none _
   | refine LeO.ite ?_ ?_
   | refine LeO.bind ?_ (fun _ => ?_)
theorem host_Holds.mono : ∀ a0 a1 k, LeO (host_Holds.f k a0 a1) (host_Holds.f (k + 1) a0 a1) := by
 intro a0 a1 k
 have ih0 := host_Holds.mono_l k
 unfold host_Holds.f
 repeat' first
   | (with_reducible exact ih0 _ _ _ _ _)
   | (with_reducible exact LeO.refl _)
   | (with_reducible exact LeO.none _)
   | (with_reducible refine LeO.ite ?_ ?_)
   | (with_reducible refine LeO.bind ?_ (fun _ => ?_))
   | exact ih0 _ _ _ _ _
   | exact LeO.none _
   | refine LeO.ite ?_ ?_
   | refine LeO.bind ?_ (fun _ => ?_)
set_option maxHeartbeats 8000000 in
set_option maxRecDepth 100000 in
theorem host_Holds.calls (k : Nat) (a0 : ByteArray) (a1 : ByteArray) (r : Bool) (w : World) (h : host_Holds.f k a0 a1 = some r) :
  Calls Tryd.prog 11 #[.string a0, .string a1] w fun e w' => e = .returned (.bool r) ∧ Below w.heap.size w w' := by
 have HB := am_ (Below.refl w.heap.size w)
 have H : ((strings_CutPrefix.f a0 (⟨#[42, 46]⟩ : ByteArray)).bind fun bt146 => ((host_May.f a0).bind fun t148 => (if t148 = true then ((dns_Name.f a1).bind fun t149 => (host_Holds.j0 k a0 a1 bt146.1 bt146.2 (!t149))) else (host_Holds.j0 k a0 a1 bt146.1 bt146.2 true)))) = some r := h
 clear h
 replace H := Option.bind_eq_some_iff.mp H
 obtain ⟨⟨t146, t147⟩, A30, H⟩ := H
 replace H : ((host_May.f a0).bind fun t148 => (if t148 = true then ((dns_Name.f a1).bind fun t149 => (host_Holds.j0 k a0 a1 t146 t147 (!t149))) else (host_Holds.j0 k a0 a1 t146 t147 true))) = some r := H
 have A3 := Aside0.mk A30
 clear A30
 have HC4 := Aside0.mk H
 clear H
 go_enter Tryd.func11, Tryd.ntmps11
 go_upto_region 2 with (first | ((with_reducible refine gate_callee (f := 19) rfl ?_); refine goesL_ (some 9) rfl rfl Tryd.func19 kr_ rfl #[.string a0, .string (⟨#[42, 46]⟩ : ByteArray)] rfl rl_ ?_; (with_reducible refine (strings_CutPrefix.calls a0 (⟨#[42, 46]⟩ : ByteArray) t146 t147 _ A3.out).mono ?_); rintro e w' ⟨rfl, ⟨nd, rfl⟩⟩; refine ⟨_, rfl, ?_⟩))
 (try simp only [Act.put, List.setIfInBounds_toArray, List.set_cons_zero, List.set_cons_succ])
 go_cut [12] (fun v12 wc => ∃ (kq : Nat) (x12_3 : Bool), v12 = .bool x12_3 ∧ Aside0 (host_Holds.j0 kq a0 a1 t146 t147 x12_3 = some r) ∧ Aside0 (kq ≤ k) ∧ Aside0 (Below w.heap.size w wc))
 case first =>
  have H := HC4.out
  clear HC4
  replace H := Option.bind_eq_some_iff.mp H
  obtain ⟨t148, A50, H⟩ := H
  replace H : (if t148 = true then ((dns_Name.f a1).bind fun t149 => (host_Holds.j0 k a0 a1 t146 t147 (!t149))) else (host_Holds.j0 k a0 a1 t146 t147 true)) = some r := H
  have A5 := Aside0.mk A50
  clear A50
  by_cases c6 : t148 = true
  ·subst c6
   have H1 : ((dns_Name.f a1).bind fun t149 => (host_Holds.j0 k a0 a1 t146 t147 (!t149))) = some r := by rw [if_pos rfl] at H; exact H
   clear H
   have H := H1
   clear H1
   replace H := Option.bind_eq_some_iff.mp H
   obtain ⟨t149, A70, H⟩ := H
   replace H : (host_Holds.j0 k a0 a1 t146 t147 (!t149)) = some r := H
   have A7 := Aside0.mk A70
   clear A70
   have H' := Aside0.mk H
   clear H
   go_wp2_with (first | ((with_reducible refine gate_callee (f := 17) rfl ?_); refine goesL_ (some 14) rfl rfl Tryd.func17 kr_ rfl #[.string a0] rfl rl_ ?_; (with_reducible refine (host_May.calls a0 true _ A5.out).mono ?_); rintro e w8 ⟨rfl, hb⟩; refine ⟨_, rfl, ?_⟩; have n0_ := am_ (below_step (bel_ HB.out) hb); clear HB; have HB := n0_; clear n0_; (try clear hb); (try clear hb2); (try clear hk); (try clear hi)) | (go_at_call 16; (with_reducible refine (dns_Name.calls a1 t149 _ A7.out).mono ?_); rintro e w9 ⟨rfl, hb⟩; have n0_ := am_ (below_step (bel_ HB.out) hb); clear HB; have HB := n0_; clear n0_; (try clear hb); (try clear hb2); (try clear hk); (try clear hi)))
   go_meet
   case rel => exact ⟨_, (!t149), sd_, H', ⟨by first | omega | exact Nat.le_refl _⟩, ⟨bel_ HB.out⟩⟩
  ·replace c6 := Bool.eq_false_iff.mpr c6
   subst c6
   have H1 : (host_Holds.j0 k a0 a1 t146 t147 true) = some r := by rw [if_neg (show ¬ (false = true) by decide)] at H; exact H
   clear H
   have H := H1
   clear H1
   have H' := Aside0.mk H
   clear H
   go_wp2_with (first | ((with_reducible refine gate_callee (f := 17) rfl ?_); refine goesL_ (some 14) rfl rfl Tryd.func17 kr_ rfl #[.string a0] rfl rl_ ?_; (with_reducible refine (host_May.calls a0 false _ A5.out).mono ?_); rintro e w10 ⟨rfl, hb⟩; refine ⟨_, rfl, ?_⟩; have n0_ := am_ (below_step (bel_ HB.out) hb); clear HB; have HB := n0_; clear n0_; (try clear hb); (try clear hb2); (try clear hk); (try clear hi)))
   go_meet
   case rel => exact ⟨_, (true), sd_, H', ⟨by first | omega | exact Nat.le_refl _⟩, ⟨bel_ HB.out⟩⟩
 case rest =>
  clear HC4
  try clear c1
  try clear p2
  try clear c6
  obtain ⟨kq, x12_3, rfl, HA, HJ3, HB⟩ := hcut
  cases kq with
  | zero => exact absurd HA.out (by simp [host_Holds.j0])
  | succ kj3 =>
   have H := HA.out
   clear HA
   simp only [host_Holds.j0] at H
   by_cases c11 : x12_3 = true
   ·subst c11
    have H1 : (some false) = some r := by rw [if_pos rfl] at H; exact H
    clear H
    have H := H1
    clear H1
    obtain rfl := Option.some.inj H
    go_wp2
    go_ret
    exact ⟨fi_, bel_ HB.out⟩
   ·replace c11 := Bool.eq_false_iff.mpr c11
    subst c11
    have H1 : (if a0.toList = ([] : List UInt8) then (some true) else (if t147 = true then ((dns_Under.f a1 t146).bind fun t150 => (some t150)) else (some (a0.toList == a1.toList)))) = some r := by rw [if_neg (show ¬ (false = true) by decide)] at H; exact H
    clear H
    have H := H1
    clear H1
    by_cases c12 : a0.toList = ([] : List UInt8)
    ·rw [if_pos c12] at H
     have c12b0 : (a0.toList == ([] : List UInt8)) = true := beq_iff_eq.mpr c12
     have c12b1 : (a0.toList != ([] : List UInt8)) = false := bne_eq_false_iff_eq.mpr c12
     clear c12
     obtain rfl := Option.some.inj H
     go_wp2
     go_ret
     exact ⟨fi_, bel_ HB.out⟩
    ·rw [if_neg c12] at H
     have c12b0 : (a0.toList == ([] : List UInt8)) = false := beq_eq_false_iff_ne.mpr c12
     have c12b1 : (a0.toList != ([] : List UInt8)) = true := bne_iff_ne.mpr c12
     by_cases c13 : t147 = true
     ·subst c13
      have H1 : ((dns_Under.f a1 t146).bind fun t150 => (some t150)) = some r := by rw [if_pos rfl] at H; exact H
      clear H
      have H := H1
      clear H1
      replace H := Option.bind_eq_some_iff.mp H
      obtain ⟨t150, A140, H⟩ := H
      replace H : (some t150) = some r := H
      have A14 := Aside0.mk A140
      clear A140
      obtain rfl := Option.some.inj H
      go_wp2_with (first | ((with_reducible refine gate_callee (f := 20) rfl ?_); refine goesL_ (some 28) rfl rfl Tryd.func20 kr_ rfl #[.string a1, .string t146] rfl rl_ ?_; (with_reducible refine (dns_Under.calls a1 t146 t150 _ A14.out).mono ?_); rintro e w15 ⟨rfl, hb⟩; refine ⟨_, rfl, ?_⟩; have n0_ := am_ (below_step (bel_ HB.out) hb); clear HB; have HB := n0_; clear n0_; (try clear hb); (try clear hb2); (try clear hk); (try clear hi)))
      go_ret
      exact ⟨fi_, bel_ HB.out⟩
     ·replace c13 := Bool.eq_false_iff.mpr c13
      subst c13
      have H1 : (some (a0.toList == a1.toList)) = some r := by rw [if_neg (show ¬ (false = true) by decide)] at H; exact H
      clear H
      have H := H1
      clear H1
      obtain rfl := Option.some.inj H
      go_wp2
      go_ret
      exact ⟨fi_, bel_ HB.out⟩

end Go.Proofs.YtglghmcdcdljoaaDoor.P
