-- written by wip/tool/hprint.py of this repo: the kit's print, with contracts by hand joined; Lean checks it.
import Derived.Test.YtpmllmfamjpinaaGreatDoorPx0
import Derived.Test.YtpmllmfamjpinaaGreatDoorPx3
import Derived.Test.YtpmllmfamjpinaaGreatDoorPx4
import Derived.Test.YtpmllmfamjpinaaGreatDoorPx10
import Derived.Test.YtpmllmfamjpinaaGreatDoorPx11
namespace Go.Proofs.YtpmllmfamjpinaaGreatDoor.P
open Go.RowKit Go.Proofs.YtpmllmfamjpinaaGreatDoorW.PrintWords Go.Proofs.YtpmllmfamjpinaaGreatDoorW.PrintLast Go.Proofs.YtpmllmfamjpinaaGreatDoorW.PrintMore
attribute [local go_sem] max2_int min2_int max_two min_two max_three min_three max_four min_four   -- for this text's walks alone
set_option linter.unusedVariables false
set_option linter.unusedSimpArgs false

/-! ### head_read: function 30 -/
/-- What has been read of a head: its first line's request, and the fields behind it. -/
def head_read.go (k : Nat) : List ByteArray → Option (ByteArray × ByteArray × ByteArray × List S51 × List S51) → Option (Option (Option (ByteArray × ByteArray × ByteArray × List S51 × List S51)))
 | [], s => some (some s)
 | p :: ps, none => (head_first.f k p).bind fun q => if q.2.2.2.2.2 = true then head_read.go k ps (some (q.1, q.2.1, q.2.2.1, q.2.2.2.1, q.2.2.2.2.1)) else some none
 | p :: ps, some s => (head_field.f k p).bind fun c => if c.2.2 = true then (if s.2.2.2.2.length < 4398046511104 then head_read.go k ps (some (s.1, s.2.1, s.2.2.1, s.2.2.2.1, s.2.2.2.2 ++ [⟨c.1, c.2.1⟩])) else none) else some none
def head_read.end_ (k : Nat) : Option (Option (ByteArray × ByteArray × ByteArray × List S51 × List S51)) → Option (ByteArray × ByteArray × ByteArray × List S51 × List S51 × Bool)
 | none => some (⟨#[]⟩, ⟨#[]⟩, ⟨#[]⟩, [], [], false)
 | some none => none
 | some (some s) => (head_asked.f k s.2.2.2.2).bind fun a => if a.2 = true then (if s.2.2.2.2.length ≤ 30 then some (s.1, a.1, s.2.2.1, s.2.2.2.1, s.2.2.2.2, true) else some (⟨#[]⟩, ⟨#[]⟩, ⟨#[]⟩, [], [], false)) else some (⟨#[]⟩, ⟨#[]⟩, ⟨#[]⟩, [], [], false)
def head_read.f (k : Nat) (a0 : ByteArray) : Option (ByteArray × ByteArray × ByteArray × (List S51) × (List S51) × Bool) := if a0.size ≤ 4294967280 then (head_read.go k (piecesM ⟨#[13, 10]⟩ a0) none).bind fun o => head_read.end_ k o else none
theorem head_read.go_mono (k : Nat) : ∀ (ps : List ByteArray) (s : Option (ByteArray × ByteArray × ByteArray × List S51 × List S51)), LeO (head_read.go k ps s) (head_read.go (k + 1) ps s)
 | [], _ => LeO.refl _
 | p :: ps, none => by
  have ih := head_read.go_mono k ps
  simp only [head_read.go]
  exact LeO.bind (head_first.mono _ _) (fun _ => LeO.ite (ih _) (LeO.refl _))
 | p :: ps, some s => by
  have ih := head_read.go_mono k ps
  simp only [head_read.go]
  exact LeO.bind (head_field.mono _ _) (fun _ => LeO.ite (LeO.ite (ih _) (LeO.refl _)) (LeO.refl _))
theorem head_read.mono : ∀ a0 k, LeO (head_read.f k a0) (head_read.f (k + 1) a0) := by
 intro a0 k
 unfold head_read.f
 refine LeO.ite (LeO.bind (head_read.go_mono k _ _) (fun o => ?_)) (LeO.refl _)
 rcases o with _ | _ | s
 ·exact LeO.refl _
 ·exact LeO.refl _
 ·exact LeO.bind (head_asked.mono _ _) (fun _ => LeO.refl _)
/-- What holds between two lines. -/
structure head_read.Inv (k b : Nat) (pre : List ByteArray) (W : World) : Prop where
 ex : (pre = [] ∧ W.heap[b]? = some (.cells #[.string ⟨#[]⟩, .string ⟨#[]⟩, .string ⟨#[]⟩, .slice none 0 0, .slice none 0 0] 24 (0, 0)) ∧ W.heap[b + 1]? = some (.cells #[.bool false] 4 (0, 0))) ∨
  (pre ≠ [] ∧ ∃ (m ho pa : ByteArray) (q hs : List S51) (A1 A2 : Option Addr) (c1 c2 : Nat), (∀ rest, head_read.go k (pre ++ rest) none = head_read.go k rest (some (m, ho, pa, q, hs))) ∧
   W.heap[b]? = some (.cells #[.string m, .string ho, .string pa, .slice A1 q.length c1, .slice A2 hs.length c2] 24 (0, 0)) ∧ W.heap[b + 1]? = some (.cells #[.bool true] 4 (0, 0)) ∧
   Kd.R k51 51 W b (fun x => b + 6 ≤ x ∧ some x ≠ (Value.slice A2 hs.length c2).ownBlock) (.slice A1 q.length c1) q ∧ Kd.R k51 51 W b (fun x => b + 6 ≤ x ∧ some x ≠ (Value.slice A1 q.length c1).ownBlock) (.slice A2 hs.length c2) hs)
 nb : W.heap[b + 2]? = some (.cells #[.int .i64 (pre.length : Int)] 3 (0, 0))
 sz : b + 6 ≤ W.heap.size
theorem head_read.Inv.moved {k b : Nat} {pre : List ByteArray} {A B : World} (h : head_read.Inv k b pre A) (hs : A.heap.size ≤ B.heap.size) (hm : ∀ q cells t, A.heap[q]? = some (.cells cells t (0, 0)) → q ≠ b + 3 → B.heap[q]? = A.heap[q]?) : head_read.Inv k b pre B := by
 have hr : ∀ {v : Value} {xs : List S51} {P : Nat → Prop}, Kd.R k51 51 A b (fun x => b + 6 ≤ x ∧ P x) v xs → Kd.R k51 51 B b (fun x => b + 6 ≤ x ∧ P x) v xs := fun h1 =>
  Kd.R_mono (Kd.R_move (Kd.R_bound h1) (fun q hq => by
   obtain ⟨⟨h2, _⟩, _, _, t, _, cells, hc⟩ := hq
   exact hm q cells t hc (by omega))) (fun _ hq => hq.1)
 refine ⟨?_, (hm _ _ _ h.nb (by omega)).trans h.nb, Nat.le_trans h.sz hs⟩
 rcases h.ex with ⟨h1, h2, h3⟩ | ⟨h1, m, ho, pa, q, hs, A1, A2, c1, c2, h2, h3, h4, h5, h6⟩
 ·exact .inl ⟨h1, (hm _ _ _ h2 (by omega)).trans h2, (hm _ _ _ h3 (by omega)).trans h3⟩
 ·exact .inr ⟨h1, m, ho, pa, q, hs, A1, A2, c1, c2, h2, (hm _ _ _ h3 (by omega)).trans h3, (hm _ _ _ h4 (by omega)).trans h4, hr h5, hr h6⟩
theorem head_read.Inv.grown {k b : Nat} {pre : List ByteArray} {A B : World} (h : head_read.Inv k b pre A) {row : Option Nat} (hg : A.grownBy B row) (hr : ∀ r, row = some r → ∃ o : Obj, A.heap[r]? = some o ∧ o.isCells = false) : head_read.Inv k b pre B :=
 h.moved hg.size (fun q cells t hc _ => hg.block q (Array.getElem?_eq_some_iff.1 hc).1 (fun e => by
  obtain ⟨o, ho, hn⟩ := hr q e.symm
  rw [hc] at ho
  cases ho
  cases hn))
theorem head_read.Inv.box {k b : Nat} {pre : List ByteArray} {A : World} (h : head_read.Inv k b pre A) (u : Value) : head_read.Inv k b pre (A.setCell ⟨b + 3, 0, none⟩ u) :=
 h.moved (by simp) (fun q cells t hc hq => Below.heap_setCell A ⟨b + 3, 0, none⟩ u q hq)
theorem head_read.Inv.below {k b : Nat} {pre : List ByteArray} {A B : World} (h : head_read.Inv k b pre A) (hb : Below A.heap.size A B) : head_read.Inv k b pre B :=
 h.moved hb.size (fun q cells t hc _ => hb.block q (Array.getElem?_eq_some_iff.1 hc).1)
/-- Five cells written. -/
theorem s5_at {W : World} {b : Nat} {t : TypeId} {a0 a1 a2 a3 a4 : Value} (h : W.heap[b]? = some (.cells #[a0, a1, a2, a3, a4] t (0, 0))) (x0 x1 x2 x3 x4 : Value) : (((((W.setCell ⟨b, 0, none⟩ x0).setCell ⟨b, 1, none⟩ x1).setCell ⟨b, 2, none⟩ x2).setCell ⟨b, 3, none⟩ x3).setCell ⟨b, 4, none⟩ x4).heap[b]? = some (.cells #[x0, x1, x2, x3, x4] t (0, 0)) :=
 blk_put (blk_put (blk_put (blk_put (blk_put h 0 x0 rfl) 1 x1 rfl) 2 x2 rfl) 3 x3 rfl) 4 x4 rfl
theorem s5_far (W : World) (b : Nat) (x0 x1 x2 x3 x4 : Value) (q : Nat) (hq : q ≠ b) : (((((W.setCell ⟨b, 0, none⟩ x0).setCell ⟨b, 1, none⟩ x1).setCell ⟨b, 2, none⟩ x2).setCell ⟨b, 3, none⟩ x3).setCell ⟨b, 4, none⟩ x4).heap[q]? = W.heap[q]? := by
 rw [Below.heap_setCell _ ⟨b, 4, none⟩ x4 q hq, Below.heap_setCell _ ⟨b, 3, none⟩ x3 q hq, Below.heap_setCell _ ⟨b, 2, none⟩ x2 q hq, Below.heap_setCell _ ⟨b, 1, none⟩ x1 q hq, Below.heap_setCell _ ⟨b, 0, none⟩ x0 q hq]
theorem s5_keeps (W : World) (b : Nat) (x0 x1 x2 x3 x4 : Value) (B : Nat) : KeepsFrom B W (((((W.setCell ⟨b, 0, none⟩ x0).setCell ⟨b, 1, none⟩ x1).setCell ⟨b, 2, none⟩ x2).setCell ⟨b, 3, none⟩ x3).setCell ⟨b, 4, none⟩ x4) :=
 KeepsFrom.trans (KeepsFrom.trans (KeepsFrom.trans (KeepsFrom.trans ((KeepsOthers.setCell _ _ _).from B) ((KeepsOthers.setCell _ _ _).from B)) ((KeepsOthers.setCell _ _ _).from B)) ((KeepsOthers.setCell _ _ _).from B)) ((KeepsOthers.setCell _ _ _).from B)
theorem s5_below {w W : World} {n b : Nat} (h : Below n w W) (hb : n ≤ b) (x0 x1 x2 x3 x4 : Value) : Below n w (((((W.setCell ⟨b, 0, none⟩ x0).setCell ⟨b, 1, none⟩ x1).setCell ⟨b, 2, none⟩ x2).setCell ⟨b, 3, none⟩ x3).setCell ⟨b, 4, none⟩ x4) :=
 ((((h.setCell (p := ⟨b, 0, none⟩) hb x0).setCell (p := ⟨b, 1, none⟩) hb x1).setCell (p := ⟨b, 2, none⟩) hb x2).setCell (p := ⟨b, 3, none⟩) hb x3).setCell (p := ⟨b, 4, none⟩) hb x4
theorem bad_after {W : World} {b : Nat} {t tb : TypeId} {a0 a1 a2 a3 a4 ab : Value} (hr : W.heap[b]? = some (.cells #[a0, a1, a2, a3, a4] t (0, 0))) (hk : W.heap[b + 1]? = some (.cells #[ab] tb (0, 0))) (x0 x1 x2 x3 x4 : Value) :
  (((((((((((((W.setCell ⟨b, 0, none⟩ x0).setCell ⟨b, 1, none⟩ x1).setCell ⟨b, 2, none⟩ x2).setCell ⟨b, 3, none⟩ x3).setCell ⟨b, 4, none⟩ x4).setCell ⟨b + 1, 0, none⟩ (.bool false)).setCell ⟨b, 0, none⟩ (.string ⟨#[]⟩)).setCell ⟨b, 1, none⟩ (.string ⟨#[]⟩)).setCell ⟨b, 2, none⟩ (.string ⟨#[]⟩)).setCell ⟨b, 3, none⟩ (.slice none 0 0)).setCell ⟨b, 4, none⟩ (.slice none 0 0)).setCell ⟨b + 1, 0, none⟩ (.bool false))).heap[b]? = some (.cells #[.string ⟨#[]⟩, .string ⟨#[]⟩, .string ⟨#[]⟩, .slice none 0 0, .slice none 0 0] t (0, 0)) ∧ (((((((((((((W.setCell ⟨b, 0, none⟩ x0).setCell ⟨b, 1, none⟩ x1).setCell ⟨b, 2, none⟩ x2).setCell ⟨b, 3, none⟩ x3).setCell ⟨b, 4, none⟩ x4).setCell ⟨b + 1, 0, none⟩ (.bool false)).setCell ⟨b, 0, none⟩ (.string ⟨#[]⟩)).setCell ⟨b, 1, none⟩ (.string ⟨#[]⟩)).setCell ⟨b, 2, none⟩ (.string ⟨#[]⟩)).setCell ⟨b, 3, none⟩ (.slice none 0 0)).setCell ⟨b, 4, none⟩ (.slice none 0 0)).setCell ⟨b + 1, 0, none⟩ (.bool false))).heap[b + 1]? = some (.cells #[.bool false] tb (0, 0)) ∧ (∀ B, KeepsFrom B W (((((((((((((W.setCell ⟨b, 0, none⟩ x0).setCell ⟨b, 1, none⟩ x1).setCell ⟨b, 2, none⟩ x2).setCell ⟨b, 3, none⟩ x3).setCell ⟨b, 4, none⟩ x4).setCell ⟨b + 1, 0, none⟩ (.bool false)).setCell ⟨b, 0, none⟩ (.string ⟨#[]⟩)).setCell ⟨b, 1, none⟩ (.string ⟨#[]⟩)).setCell ⟨b, 2, none⟩ (.string ⟨#[]⟩)).setCell ⟨b, 3, none⟩ (.slice none 0 0)).setCell ⟨b, 4, none⟩ (.slice none 0 0)).setCell ⟨b + 1, 0, none⟩ (.bool false)))) ∧ (∀ (n : Nat) (w : World), n ≤ b → Below n w W → Below n w (((((((((((((W.setCell ⟨b, 0, none⟩ x0).setCell ⟨b, 1, none⟩ x1).setCell ⟨b, 2, none⟩ x2).setCell ⟨b, 3, none⟩ x3).setCell ⟨b, 4, none⟩ x4).setCell ⟨b + 1, 0, none⟩ (.bool false)).setCell ⟨b, 0, none⟩ (.string ⟨#[]⟩)).setCell ⟨b, 1, none⟩ (.string ⟨#[]⟩)).setCell ⟨b, 2, none⟩ (.string ⟨#[]⟩)).setCell ⟨b, 3, none⟩ (.slice none 0 0)).setCell ⟨b, 4, none⟩ (.slice none 0 0)).setCell ⟨b + 1, 0, none⟩ (.bool false)))) := by
 obtain ⟨Y1, h1⟩ : ∃ Y, Y = (((((W.setCell ⟨b, 0, none⟩ x0).setCell ⟨b, 1, none⟩ x1).setCell ⟨b, 2, none⟩ x2).setCell ⟨b, 3, none⟩ x3).setCell ⟨b, 4, none⟩ x4) := ⟨_, rfl⟩
 have r1 := s5_at hr x0 x1 x2 x3 x4
 have k1 := (s5_far W b x0 x1 x2 x3 x4 (b + 1) (by omega)).trans hk
 have p1 := s5_keeps W b x0 x1 x2 x3 x4
 have q1 : ∀ (n : Nat) (w : World), n ≤ b → Below n w W → Below n w (((((W.setCell ⟨b, 0, none⟩ x0).setCell ⟨b, 1, none⟩ x1).setCell ⟨b, 2, none⟩ x2).setCell ⟨b, 3, none⟩ x3).setCell ⟨b, 4, none⟩ x4) := fun n w hn h => s5_below h hn x0 x1 x2 x3 x4
 rw [← h1] at r1 k1 p1 q1 ⊢
 obtain ⟨Y2, h2⟩ : ∃ Y, Y = Y1.setCell ⟨b + 1, 0, none⟩ (.bool false) := ⟨_, rfl⟩
 have r2 := (Below.heap_setCell Y1 ⟨b + 1, 0, none⟩ (.bool false) b (by show b ≠ b + 1; omega)).trans r1
 have k2 := blk_put k1 0 (.bool false) rfl
 rw [← h2] at r2 k2 ⊢
 have r3 := s5_at r2 (.string ⟨#[]⟩) (.string ⟨#[]⟩) (.string ⟨#[]⟩) (.slice none 0 0) (.slice none 0 0)
 have k3 := (s5_far Y2 b (.string ⟨#[]⟩) (.string ⟨#[]⟩) (.string ⟨#[]⟩) (.slice none 0 0) (.slice none 0 0) (b + 1) (by omega)).trans k2
 have p3 := s5_keeps Y2 b (.string ⟨#[]⟩) (.string ⟨#[]⟩) (.string ⟨#[]⟩) (.slice none 0 0) (.slice none 0 0)
 refine ⟨(Below.heap_setCell _ ⟨b + 1, 0, none⟩ (.bool false) b (by show b ≠ b + 1; omega)).trans r3, blk_put k3 0 (.bool false) rfl, fun B => ?_, fun n w hn h => ?_⟩
 ·refine KeepsFrom.trans (p1 B) (KeepsFrom.trans (Y := Y2) ?_ (KeepsFrom.trans (p3 B) ((KeepsOthers.setCell _ _ _).from B)))
  rw [h2]
  exact (KeepsOthers.setCell _ _ _).from B
 ·refine (s5_below (W := Y2) ?_ hn _ _ _ _ _).setCell (p := ⟨b + 1, 0, none⟩) (by show n ≤ b + 1; omega) _
  rw [h2]
  exact (q1 n w hn h).setCell (p := ⟨b + 1, 0, none⟩) (by show n ≤ b + 1; omega) _
theorem put_after {W : World} {b : Nat} {t tb : TypeId} {a0 a1 a2 a3 a4 ab : Value} (hr : W.heap[b]? = some (.cells #[a0, a1, a2, a3, a4] t (0, 0))) (hk : W.heap[b + 1]? = some (.cells #[ab] tb (0, 0))) (x0 x1 x2 x3 x4 : Value) (ok : Bool) :
  (((((((W.setCell ⟨b, 0, none⟩ x0).setCell ⟨b, 1, none⟩ x1).setCell ⟨b, 2, none⟩ x2).setCell ⟨b, 3, none⟩ x3).setCell ⟨b, 4, none⟩ x4).setCell ⟨b + 1, 0, none⟩ (.bool ok))).heap[b]? = some (.cells #[x0, x1, x2, x3, x4] t (0, 0)) ∧ (((((((W.setCell ⟨b, 0, none⟩ x0).setCell ⟨b, 1, none⟩ x1).setCell ⟨b, 2, none⟩ x2).setCell ⟨b, 3, none⟩ x3).setCell ⟨b, 4, none⟩ x4).setCell ⟨b + 1, 0, none⟩ (.bool ok))).heap[b + 1]? = some (.cells #[.bool ok] tb (0, 0)) ∧ (∀ B, KeepsFrom B W (((((((W.setCell ⟨b, 0, none⟩ x0).setCell ⟨b, 1, none⟩ x1).setCell ⟨b, 2, none⟩ x2).setCell ⟨b, 3, none⟩ x3).setCell ⟨b, 4, none⟩ x4).setCell ⟨b + 1, 0, none⟩ (.bool ok)))) ∧ (∀ (n : Nat) (w : World), n ≤ b → Below n w W → Below n w (((((((W.setCell ⟨b, 0, none⟩ x0).setCell ⟨b, 1, none⟩ x1).setCell ⟨b, 2, none⟩ x2).setCell ⟨b, 3, none⟩ x3).setCell ⟨b, 4, none⟩ x4).setCell ⟨b + 1, 0, none⟩ (.bool ok)))) ∧ (∀ j, j ≠ b → j ≠ b + 1 → (((((((W.setCell ⟨b, 0, none⟩ x0).setCell ⟨b, 1, none⟩ x1).setCell ⟨b, 2, none⟩ x2).setCell ⟨b, 3, none⟩ x3).setCell ⟨b, 4, none⟩ x4).setCell ⟨b + 1, 0, none⟩ (.bool ok))).heap[j]? = W.heap[j]?) :=
 ⟨(Below.heap_setCell _ ⟨b + 1, 0, none⟩ (.bool ok) b (by show b ≠ b + 1; omega)).trans (s5_at hr x0 x1 x2 x3 x4), blk_put ((s5_far W b x0 x1 x2 x3 x4 (b + 1) (by omega)).trans hk) 0 (.bool ok) rfl, fun B => (s5_keeps W b x0 x1 x2 x3 x4 B).trans ((KeepsOthers.setCell _ _ _).from B),
  fun n w hn h => (s5_below h hn x0 x1 x2 x3 x4).setCell (p := ⟨b + 1, 0, none⟩) (by show n ≤ b + 1; omega) _, fun j h1 h2 => (Below.heap_setCell _ ⟨b + 1, 0, none⟩ (.bool ok) j h2).trans (s5_far W b x0 x1 x2 x3 x4 j h1)⟩
theorem grownBy_keepsCells {A B : World} {row : Option Nat} (hg : A.grownBy B row) (hr : ∀ r, row = some r → ∃ o : Obj, A.heap[r]? = some o ∧ o.isCells = false) {q : Nat} {cells : Array Value} {t : TypeId} (hc : A.heap[q]? = some (.cells cells t (0, 0))) : B.heap[q]? = A.heap[q]? :=
 hg.block q (Array.getElem?_eq_some_iff.1 hc).1 (fun e => by
  obtain ⟨o, ho, hn⟩ := hr q e.symm
  rw [hc] at ho
  cases ho
  cases hn)
theorem head_read.Inv.next {k b : Nat} {pre : List ByteArray} {x : ByteArray} {A B : World} {m ho pa : ByteArray} {q hs : List S51} {p : S51} {A1 A2 A5 : Option Addr} {c1 c2 c5 : Nat} (hadv : ∀ rest, head_read.go k ((pre ++ [x]) ++ rest) none = head_read.go k rest (some (m, ho, pa, q, hs ++ [p])))
  (h0 : A.heap[b]? = some (.cells #[.string m, .string ho, .string pa, .slice A1 q.length c1, .slice A2 hs.length c2] 24 (0, 0))) (h1 : A.heap[b + 1]? = some (.cells #[.bool true] 4 (0, 0))) (h2 : A.heap[b + 2]? = some (.cells #[.int .i64 ((pre.length : Int) + 1)] 3 (0, 0))) (hsz : b + 6 ≤ A.heap.size)
  (hq : Kd.R k51 51 A b (fun x => b + 6 ≤ x ∧ some x ≠ (Value.slice A2 hs.length c2).ownBlock) (.slice A1 q.length c1) q) (hh : Kd.R k51 51 A b (fun x => b + 6 ≤ x ∧ some x ≠ (Value.slice A1 q.length c1).ownBlock) (.slice A2 hs.length c2) hs)
  (hR : Kd.R k51 51 B b (fun x => b + 6 ≤ x ∧ some x ≠ (Value.slice A1 q.length c1).ownBlock) (.slice A5 (hs ++ [p]).length c5) (hs ++ [p])) (hg : A.grownBy B (Value.slice A2 hs.length c2).ownBlock)
  (hat : (Value.slice A5 (hs ++ [p]).length c5).ownBlock = (Value.slice A2 hs.length c2).ownBlock ∨ ∃ g, (Value.slice A5 (hs ++ [p]).length c5).ownBlock = some g ∧ A.heap.size ≤ g) :
  head_read.Inv k b (pre ++ [x]) (B.setCell ⟨b, 4, none⟩ (.slice A5 (hs ++ [p]).length c5)) ∧ Keeps3 (b + 3) A (B.setCell ⟨b, 4, none⟩ (.slice A5 (hs ++ [p]).length c5)) ∧ KeepsFrom (b + 6) A (B.setCell ⟨b, 4, none⟩ (.slice A5 (hs ++ [p]).length c5)) := by
 have lo : ∀ j, j < b + 6 → B.heap[j]? = A.heap[j]? := fun j hj => hg.block j (by omega) (fun e => by have := (R_own_cells hh e).1.1; omega)
 have far : ∀ j, j ≠ b → (B.setCell ⟨b, 4, none⟩ (.slice A5 (hs ++ [p]).length c5)).heap[j]? = B.heap[j]? := fun j hj => Below.heap_setCell B ⟨b, 4, none⟩ _ j hj
 have hq2 : Kd.R k51 51 B b (fun x => b + 6 ≤ x ∧ some x ≠ (Value.slice A5 (hs ++ [p]).length c5).ownBlock) (.slice A1 q.length c1) q := by
  refine Kd.R_mono (Kd.R_grown (Kd.R_bound hq) hg (fun j hj => hj.1.2)) (fun j hj => ⟨hj.1.1, fun e => ?_⟩)
  rcases hat with h3 | ⟨g, h3, h4⟩
  ·exact hj.1.2 (e.trans h3)
  ·rw [h3] at e
   cases e
   have := hj.2.2.1
   omega
 refine ⟨⟨.inr ⟨by simp, m, ho, pa, q, hs ++ [p], A1, A5, c1, c5, hadv, blk_put ((lo b (by omega)).trans h0) 4 _ rfl, (far _ (by omega)).trans ((lo _ (by omega)).trans h1), ?_, ?_⟩, ?_, ?_⟩, ?_, ?_⟩
 ·exact Kd.R_far hq2 (fun j hj => by show j ≠ b; omega) _
 ·exact Kd.R_far hR (fun j hj => by show j ≠ b; omega) _
 ·rw [far _ (by omega), lo _ (by omega), h2, List.length_append, List.length_singleton]
  rfl
 ·have := hg.size; simp; omega
 ·intro j h3 h4
  rw [far _ (by omega)]
  exact lo j (by omega)
 ·refine KeepsFrom.trans (Y := B) ⟨hg.size, fun j o _ hj hn => ?_⟩ ((KeepsOthers.setCell B ⟨b, 4, none⟩ _).from _)
  rw [hg.block j (Array.getElem?_eq_some_iff.1 hj).1 (fun e => by
   obtain ⟨_, cells, u, hc⟩ := R_own_cells hh e
   rw [hj] at hc
   cases hc
   cases hn)]
  exact hj
section
attribute [local go_sem] Oper.semAt_some
set_option maxHeartbeats 8000000 in
set_option maxRecDepth 100000 in
theorem head_read.calls (k : Nat) (a0 : ByteArray) (r1 : ByteArray) (r2 : ByteArray) (r3 : ByteArray) (r4 : List S51) (r5 : List S51) (r6 : Bool) (w : World) (hG : MaxL w) (h : head_read.f k a0 = some (r1, r2, r3, r4, r5, r6)) :
  Calls Tryz.prog 30 #[.string a0] w fun e w' => ∃ v3_ v4_ : Value, e = .returned (.tuple #[.agg #[.string r1, .string r2, .string r3, v3_, v4_], .bool r6]) ∧ Kd.R k51 51 w' w.heap.size (fun k_ => some k_ ≠ (v4_ : Value).ownBlock) v3_ r4 ∧ Kd.R k51 51 w' w.heap.size (fun k_ => some k_ ≠ (v3_ : Value).ownBlock) v4_ r5 ∧ Below w.heap.size w w' := by
 refine (callsIn_wide (n := 4)).1 ?_
 refine callsIn_of_wp_marks Tryz.func30 rfl trivial ?_ rfl
 simp only [Tryz.ntmps30, List.size_toArray, List.length_cons, List.length_nil, Nat.reduceAdd, Nat.reduceSub, Array.replicate_succ, Array.replicate_zero, List.push_toArray, List.append_toArray, List.nil_append, List.cons_append]
 unfold head_read.f at h
 by_cases hl : a0.size ≤ 4294967280
 ·rw [if_pos hl] at h
  obtain ⟨o, hgo, hend⟩ := Option.bind_eq_some_iff.1 h
  clear h
  gi_wp2_with (refine ⟨trivial, ?_⟩; gi_at_call 46; refine (callsIn_wide.2 (seq_at _ _ _)).mono ?_; rintro e w' ⟨n, rfl, rfl⟩)
  obtain ⟨V, hV⟩ : ∃ V, V = ((w.alloc (.cells #[.string ⟨#[]⟩, .string ⟨#[]⟩, .string ⟨#[]⟩, .slice none 0 0, .slice none 0 0] 24)).alloc (.cells #[.bool false] 4)).alloc (.cells #[.int .i64 0] 3) := ⟨_, rfl⟩
  have z0 := World.alloc_heap_new w (.cells #[.string ⟨#[]⟩, .string ⟨#[]⟩, .string ⟨#[]⟩, .slice none 0 0, .slice none 0 0] 24)
  have z1 := World.alloc_heap_new (w.alloc (.cells #[.string ⟨#[]⟩, .string ⟨#[]⟩, .string ⟨#[]⟩, .slice none 0 0, .slice none 0 0] 24)) (.cells #[.bool false] 4)
  have z2 := World.alloc_heap_new ((w.alloc (.cells #[.string ⟨#[]⟩, .string ⟨#[]⟩, .string ⟨#[]⟩, .slice none 0 0, .slice none 0 0] 24)).alloc (.cells #[.bool false] 4)) (.cells #[.int .i64 0] 3)
  simp only [World.size_alloc] at z1 z2
  have y0 := (Below.heap_alloc _ (.cells #[.int .i64 0] 3) w.heap.size (by simp <;> omega)).trans ((Below.heap_alloc _ (.cells #[.bool false] 4) w.heap.size (by simp)).trans z0)
  have y1 := (Below.heap_alloc _ (.cells #[.int .i64 0] 3) (w.heap.size + 1) (by simp)).trans z1
  rw [← hV] at y0 y1 z2
  have hsV : V.heap.size = w.heap.size + 3 := by rw [hV]; simp
  have hBV : Below w.heap.size w V := by rw [hV]; exact ((((Below.refl _ w).alloc (Nat.le_refl _) _).alloc (by simp) _).alloc (by simp <;> omega) _)
  (try simp only [World.size_alloc])
  (try rw [← hV])
  obtain ⟨W0, hW0⟩ : ∃ W0, W0 = (((V.alloc (.cells #[.string a0] 9)).alloc (.cells #[.string ⟨#[13, 10]⟩] 9)).alloc (.cells #[.int .i64 0] 3)).drewN n := ⟨_, rfl⟩
  have hs0 : W0.heap.size = w.heap.size + 6 := by rw [hW0]; simp; omega
  have q0 := new_l V (.string a0) 9
  have q1 := new_l (V.alloc (.cells #[.string a0] 9)) (.string ⟨#[13, 10]⟩) 9
  have q2 := new_l ((V.alloc (.cells #[.string a0] 9)).alloc (.cells #[.string ⟨#[13, 10]⟩] 9)) (.int .i64 0) 3
  simp only [World.size_alloc, hsV] at q0 q1 q2
  have hVW : Below V.heap.size V W0 := by rw [hW0]; exact (((((Below.refl _ V).alloc (Nat.le_refl _) _).alloc (by simp) _).alloc (by simp; omega) _)).trans ⟨rfl, rfl, rfl, Nat.le_refl _, fun _ _ => rfl⟩
  have b0 : Boxes3 (w.heap.size + 3) a0 ⟨#[13, 10]⟩ W0 := by
   rw [hW0]
   have y2 := kept_l (.cells #[.string ⟨#[13, 10]⟩] 9) q0.1
   exact ⟨kept_l _ y2, kept_f _ y2 (kept_f _ q0.1 q0.2), kept_l _ q1.1, q2.1⟩
  have hB0 : Below w.heap.size w W0 := hBV.trans (hVW.mono hBV.size)
  have hI0 : head_read.Inv k w.heap.size [] W0 :=
   ⟨.inl ⟨rfl, (hVW.block _ (by omega)).trans y0, (hVW.block _ (by omega)).trans y1⟩, (hVW.block _ (by omega)).trans z2, by omega⟩
  rw [← hW0]
  simp only [Nat.add_assoc, Nat.reduceAdd]
  refine wpIn_range_cell rfl (by omega) (gf := 92) (lb := #[.pointer (some ⟨w.heap.size + 4, 0, none⟩), .pointer (some ⟨w.heap.size + 3, 0, none⟩), .pointer (some ⟨w.heap.size + 5, 0, none⟩)]) rfl trivial (enters_of Tryz.func92 kr_ rfl)
   (seqM_stops ⟨#[13, 10]⟩ a0 (by decide) hl (w.heap.size + 3) W0 (by omega) b0) (fun h k i h1 h2 => (k i h1 h2).trans (h i h1 h2)) (fun W l o o' hl _ _ _ k h1 h2 => World.putObj_heap_other (by omega)) (Below.refl _ _) (fun _ => rfl)
   (fun pre W => head_read.Inv k w.heap.size pre W ∧ Below w.heap.size w W)
   (fun pre W => (o = none ∧ W.heap[w.heap.size]? = some (.cells #[.string ⟨#[]⟩, .string ⟨#[]⟩, .string ⟨#[]⟩, .slice none 0 0, .slice none 0 0] 24 (0, 0)) ∧ W.heap[w.heap.size + 1]? = some (.cells #[.bool false] 4 (0, 0))) ∧ Below w.heap.size w W)
   (OwnFrom.and (Own.from (fun s A B row hs hg hr => hs.grown hg hr) _) (ownFrom_below (Nat.le_refl _) (by omega)))
   (OwnFrom.and (Own.from (fun s A B row hs hg hr => ⟨hs.1, (grownBy_keepsCells hg hr hs.2.1).trans hs.2.1, (grownBy_keepsCells hg hr hs.2.2).trans hs.2.2⟩) _) (ownFrom_below (Nat.le_refl _) (by omega)))
   (fun s A v hs => ⟨hs.1.box v, hs.2.setCell (p := ⟨w.heap.size + 3, 0, none⟩) (by simp) _⟩)
   (fun _ _ hs => gm_ hG hs.2)
   ⟨hI0, hB0⟩
   (fun x => { tmps := #[.string a0, undef, .pointer (some ⟨w.heap.size, 0, none⟩), .pointer (some ⟨w.heap.size + 1, 0, none⟩), .pointer (some ⟨w.heap.size + 2, 0, none⟩), .string x, undef, undef, .string a0, .func (.func 92) #[] #[.pointer (some ⟨w.heap.size + 4, 0, none⟩), .pointer (some ⟨w.heap.size + 3, 0, none⟩), .pointer (some ⟨w.heap.size + 5, 0, none⟩)], .string x, undef, undef, undef, undef, undef, undef, undef, undef, undef, undef, undef, undef, undef, undef, undef, undef, undef, undef, undef, undef, undef, undef, undef, undef, undef, undef, undef, undef, undef, undef, undef, undef, undef, undef, undef, undef, undef, undef, undef, undef, undef, undef, undef], defers := [] }) ?assign ?body ?done ?stop
  case assign =>
   intro l x W K hK
   gi_wp2
   exact hK
  case body =>
   rintro l pre x W ⟨hI, hB⟩ ⟨rest, hrest⟩
   have hsz := hI.sz
   have hln : pre.length ≤ 4294967281 := by
    have h1 := cuts_length (fun t => Go.Lib.index t.data.toList (⟨#[13, 10]⟩ : ByteArray).data.toList) (⟨#[13, 10]⟩ : ByteArray).size a0.size a0
    have h2 : ((pre ++ [x]) ++ rest).length = (piecesM ⟨#[13, 10]⟩ a0).length := by rw [hrest]
    rw [List.length_append, List.length_append] at h2
    unfold piecesM at h2
    omega
   have hn := hI.nb
   have HI := Aside0.mk hI
   have HB := Aside0.mk hB
   have HEND := Aside0.mk hend
   rcases hI.ex with ⟨rfl, hr, hk⟩ | ⟨hne, m, ho, pa, q, hs, A1, A2, c1, c2, hadv, hr, hk, hR1, hR2⟩
   ·have hg : head_read.go k (x :: rest) none = some o := by rw [← hgo, ← hrest]; rfl
    simp only [head_read.go] at hg
    obtain ⟨⟨p1, p2, p3, p4, p5, p6⟩, hfi, hg⟩ := Option.bind_eq_some_iff.1 hg
    simp only at hg
    have HFI := Aside0.mk hfi
    have HG := Aside0.mk hg
    have HSZ := Aside0.mk hsz
    clear hI hB hend hsz hfi hg hln hgo
    have n0 : W.cell? ⟨w.heap.size + 2, 0, none⟩ = some (.int .i64 0) := blk_cell hn 0
    have n1 := blk_frozen hn 0
    have HR := Aside0.mk hr
    have HK := Aside0.mk hk
    have HN := Aside0.mk hn
    clear hn hr hk
    cases p6 with
    | true =>
     gi_wp2_with (refine ⟨trivial, ?_⟩; gi_at_call 47; with_reducible refine (CallsIn.inRound l (callsIn_wide.2 (head_first.calls k x p1 p2 p3 p4 p5 true _ HFI.out))).mono ?_; rintro e w1 ⟨v3, v4, rfl, hR3, hR4, hd⟩; obtain ⟨A3, c3, rfl, _, _⟩ := Kd.R_reads hR3; obtain ⟨A4, c4, rfl, _, _⟩ := Kd.R_reads hR4; have HR3 := Aside0.mk hR3; have HR4 := Aside0.mk hR4; have HD := Aside0.mk hd; have HR1 := am_ ((hd.block w.heap.size (by have := HSZ.out; simp; omega)).trans ((Below.heap_setCell W ⟨w.heap.size + 2, 0, none⟩ _ w.heap.size (by simp)).trans HR.out)); have HK1 := am_ ((hd.block (w.heap.size + 1) (by have := HSZ.out; simp; omega)).trans ((Below.heap_setCell W ⟨w.heap.size + 2, 0, none⟩ _ (w.heap.size + 1) (by simp)).trans HK.out)); have HN1 := am_ ((hd.block (w.heap.size + 2) (by have := HSZ.out; simp; omega)).trans (blk_put HN.out 0 _ rfl)); clear hR3 hR4 hd; have g0 := (blk_cell HR1.out 0).trans rfl; have g1 := (blk_cell HR1.out 1).trans rfl; have g2 := (blk_cell HR1.out 2).trans rfl; have g3 := (blk_cell HR1.out 3).trans rfl; have g4 := (blk_cell HR1.out 4).trans rfl; have f0 := blk_frozen HR1.out 0; have f1 := blk_frozen HR1.out 1; have f2 := blk_frozen HR1.out 2; have f3 := blk_frozen HR1.out 3; have f4 := blk_frozen HR1.out 4; have k0 := (blk_cell HK1.out 0).trans rfl; have kf := blk_frozen HK1.out 0)
     have hk3 : KeepsFrom (w.heap.size + 6) W w1 := ((KeepsOthers.setCell W ⟨w.heap.size + 2, 0, none⟩ (.int .i64 1)).from _).trans ⟨HD.out.size, fun q o' _ hq _ => (HD.out.block q (Array.getElem?_eq_some_iff.1 hq).1).trans hq⟩
     have hk4 : Keeps3 (w.heap.size + 3) W w1 := fun q h1 h2 => (HD.out.block q (by have := HSZ.out; simp; omega)).trans (Below.heap_setCell W ⟨w.heap.size + 2, 0, none⟩ _ q (by show q ≠ w.heap.size + 2; omega))
     have hb4 : Below w.heap.size w w1 := (HB.out.setCell (p := ⟨w.heap.size + 2, 0, none⟩) (by simp) (.int .i64 1)).trans (HD.out.mono (by have := HB.out.size; simp; omega))
     have far : ∀ q, q ≠ w.heap.size → q ≠ w.heap.size + 1 → (((((((w1.setCell ⟨w.heap.size, 0, none⟩ (.string p1)).setCell ⟨w.heap.size, 1, none⟩ (.string p2)).setCell ⟨w.heap.size, 2, none⟩ (.string p3)).setCell ⟨w.heap.size, 3, none⟩ (.slice A3 p4.length c3)).setCell ⟨w.heap.size, 4, none⟩ (.slice A4 p5.length c4))).setCell ⟨w.heap.size + 1, 0, none⟩ (.bool true)).heap[q]? = w1.heap[q]? := fun q h1 h2 => (Below.heap_setCell _ ⟨w.heap.size + 1, 0, none⟩ _ q h2).trans (s5_far _ _ _ _ _ _ _ q h1)
     have h2sz := HD.out.size
     refine ⟨(hk3.trans (s5_keeps _ _ _ _ _ _ _ _)).trans ((KeepsOthers.setCell _ _ _).from _), fun q h1 h2 => (far q (by omega) (by omega)).trans (hk4 q h1 h2), ⟨.inr ⟨by simp, p1, p2, p3, p4, p5, A3, A4, c3, c4, fun rest => ?_, (Below.heap_setCell _ ⟨w.heap.size + 1, 0, none⟩ _ w.heap.size (by simp)).trans (s5_at HR1.out _ _ _ _ _), blk_put ((s5_far _ _ _ _ _ _ _ _ (by simp)).trans HK1.out) 0 _ rfl, ?_, ?_⟩, (far _ (by simp) (by simp)).trans HN1.out, by have := HSZ.out; simp at h2sz ⊢; omega⟩, (s5_below hb4 (Nat.le_refl _) _ _ _ _ _).setCell (p := ⟨w.heap.size + 1, 0, none⟩) (by simp) _⟩
     ·show head_read.go k (x :: rest) none = _
      simp only [head_read.go, HFI.out, Option.bind_some, if_true]
     ·exact Kd.R_mono (Kd.R_lower (Kd.R_step (Kd.R_bound HR3.out) (fun q hq _ => far q (by have := HSZ.out; have := hq.2.1; simp at this; omega) (by have := HSZ.out; have := hq.2.1; simp at this; omega))) (by have := HSZ.out; simp; omega)) (fun q hq => ⟨by have := HSZ.out; have := hq.2.1; simp at this; omega, hq.1⟩)
     ·exact Kd.R_mono (Kd.R_lower (Kd.R_step (Kd.R_bound HR4.out) (fun q hq _ => far q (by have := HSZ.out; have := hq.2.1; simp at this; omega) (by have := HSZ.out; have := hq.2.1; simp at this; omega))) (by have := HSZ.out; simp; omega)) (fun q hq => ⟨by have := HSZ.out; have := hq.2.1; simp at this; omega, hq.1⟩)
    | false =>
     gi_wp2_with (refine ⟨trivial, ?_⟩; gi_at_call 47; with_reducible refine (CallsIn.inRound l (callsIn_wide.2 (head_first.calls k x p1 p2 p3 p4 p5 false _ HFI.out))).mono ?_; rintro e w1 ⟨v3, v4, rfl, hR3, hR4, hd⟩; obtain ⟨A3, c3, rfl, _, _⟩ := Kd.R_reads hR3; obtain ⟨A4, c4, rfl, _, _⟩ := Kd.R_reads hR4; have HR3 := Aside0.mk hR3; have HR4 := Aside0.mk hR4; have HD := Aside0.mk hd; have HR1 := am_ ((hd.block w.heap.size (by have := HSZ.out; simp; omega)).trans ((Below.heap_setCell W ⟨w.heap.size + 2, 0, none⟩ _ w.heap.size (by simp)).trans HR.out)); have HK1 := am_ ((hd.block (w.heap.size + 1) (by have := HSZ.out; simp; omega)).trans ((Below.heap_setCell W ⟨w.heap.size + 2, 0, none⟩ _ (w.heap.size + 1) (by simp)).trans HK.out)); have HN1 := am_ ((hd.block (w.heap.size + 2) (by have := HSZ.out; simp; omega)).trans (blk_put HN.out 0 _ rfl)); clear hR3 hR4 hd; have g0 := (blk_cell HR1.out 0).trans rfl; have g1 := (blk_cell HR1.out 1).trans rfl; have g2 := (blk_cell HR1.out 2).trans rfl; have g3 := (blk_cell HR1.out 3).trans rfl; have g4 := (blk_cell HR1.out 4).trans rfl; have f0 := blk_frozen HR1.out 0; have f1 := blk_frozen HR1.out 1; have f2 := blk_frozen HR1.out 2; have f3 := blk_frozen HR1.out 3; have f4 := blk_frozen HR1.out 4; have k0 := (blk_cell HK1.out 0).trans rfl; have kf := blk_frozen HK1.out 0)
     have hk3 : KeepsFrom (w.heap.size + 6) W w1 := ((KeepsOthers.setCell W ⟨w.heap.size + 2, 0, none⟩ (.int .i64 1)).from _).trans ⟨HD.out.size, fun q o' _ hq _ => (HD.out.block q (Array.getElem?_eq_some_iff.1 hq).1).trans hq⟩
     have hb4 : Below w.heap.size w w1 := (HB.out.setCell (p := ⟨w.heap.size + 2, 0, none⟩) (by simp) (.int .i64 1)).trans (HD.out.mono (by have := HB.out.size; simp; omega))
     have hba := bad_after HR1.out HK1.out (.string p1) (.string p2) (.string p3) (.slice A3 p4.length c3) (.slice A4 p5.length c4)
     exact ⟨hk3.trans (hba.2.2.1 _), ⟨(Option.some.inj ((if_neg (by decide)).symm.trans HG.out)).symm, hba.1, hba.2.1⟩, hba.2.2.2 _ _ (Nat.le_refl _) hb4⟩
   ·have hg : head_read.go k (x :: rest) (some (m, ho, pa, q, hs)) = some o := by
     rw [← hadv, ← hgo, ← hrest, List.append_assoc]
     rfl
    simp only [head_read.go] at hg
    obtain ⟨⟨d1, d2, d3⟩, hfi, hg⟩ := Option.bind_eq_some_iff.1 hg
    simp only at hg
    have hp1 : 1 ≤ pre.length := by cases pre with | nil => exact absurd rfl hne | cons a b => simp
    have HFI := Aside0.mk hfi
    have HG := Aside0.mk hg
    have HSZ := Aside0.mk hsz
    have HADV := Aside0.mk hadv
    have HLN := Aside0.mk hln
    have HP1 := Aside0.mk hp1
    have n0 : W.cell? ⟨w.heap.size + 2, 0, none⟩ = some (.int .i64 (pre.length : Int)) := blk_cell hn 0
    have n1 := blk_frozen hn 0
    have HR := Aside0.mk hr
    have HK := Aside0.mk hk
    have HN := Aside0.mk hn
    have HR1 := Aside0.mk hR1
    have HR2 := Aside0.mk hR2
    have hw0 : IntKind.i64.wrap ((pre.length : Int) + 1) = (pre.length : Int) + 1 := by rw [IntKind.wrap_i64]; omega
    have hw1 : ((pre.length : Int) + 1 == 1) = false := beq_eq_false_iff_ne.2 (by omega)
    clear hI hB hend hsz hfi hg hln hgo hadv hn hr hk hR1 hR2 hp1 hne
    have far2 : ∀ j, j ≠ w.heap.size + 2 → (W.setCell ⟨w.heap.size + 2, 0, none⟩ (.int .i64 ((pre.length : Int) + 1))).heap[j]? = W.heap[j]? := fun j hj => Below.heap_setCell W ⟨w.heap.size + 2, 0, none⟩ _ j hj
    have HRA := am_ (Kd.R_far (p := ⟨w.heap.size + 2, 0, none⟩) HR1.out (fun j hj => by show j ≠ w.heap.size + 2; omega) (.int .i64 ((pre.length : Int) + 1)))
    have HRB := am_ (Kd.R_far (p := ⟨w.heap.size + 2, 0, none⟩) HR2.out (fun j hj => by show j ≠ w.heap.size + 2; omega) (.int .i64 ((pre.length : Int) + 1)))
    have HF2 := Aside0.mk far2
    clear far2
    cases d3 with
    | true =>
     have HG2 := am_ (show _ = some o from (if_pos rfl).symm.trans HG.out)
     by_cases hlen : hs.length < 4398046511104
     ·have HLEN := am_ (show (hs.length + 1) * 32 ≤ 140737488355328 by omega)
      have HADV2 := am_ (show ∀ rest, head_read.go k ((pre ++ [x]) ++ rest) none = head_read.go k rest (some (m, ho, pa, q, hs ++ [⟨d1, d2⟩])) from fun rest => by
       rw [List.append_assoc, HADV.out]
       show head_read.go k (x :: rest) (some (m, ho, pa, q, hs)) = _
       simp only [head_read.go, HFI.out, Option.bind_some, if_true]
       rw [if_pos hlen])
      clear hlen
      gi_wp2_with (first | (refine ⟨trivial, ?_⟩; gi_at_call 48; with_reducible refine (CallsIn.inRound l (callsIn_wide.2 (head_field.calls k x d1 d2 true _ HFI.out))).mono ?_; rintro e w1 ⟨rfl, hd⟩; replace hd : Below _ _ _ := (by first | exact hd.below | exact hd); have HD := am_ (hd.alloc hd.size (.cells #[.string d1, .string d2] 51)); have h3s := HD.out.size; simp at h3s; have HR3 := am_ ((HD.out.block w.heap.size (by have := HSZ.out; simp; omega)).trans ((Below.heap_setCell W ⟨w.heap.size + 2, 0, none⟩ _ w.heap.size (by simp)).trans HR.out)); have HK3 := am_ ((HD.out.block (w.heap.size + 1) (by have := HSZ.out; simp; omega)).trans ((Below.heap_setCell W ⟨w.heap.size + 2, 0, none⟩ _ (w.heap.size + 1) (by simp)).trans HK.out)); have HN3 := am_ ((HD.out.block (w.heap.size + 2) (by have := HSZ.out; simp; omega)).trans (blk_put HN.out 0 _ rfl)); have HSZ3 := am_ (show w.heap.size + 6 ≤ (w1.alloc (.cells #[.string d1, .string d2] 51)).heap.size by have := HSZ.out; simp; omega); have HRQ := am_ (Kd.R_below (HRA.out) HD.out); have HRH := am_ (Kd.R_below (HRB.out) HD.out); have HFR := am_ (show ∀ j, (w1.alloc (.cells #[.string d1, .string d2] 51)).heap.size ≤ j → w.heap.size + 6 ≤ j ∧ some j ≠ (Value.slice A1 q.length c1).ownBlock from fun j hj => ⟨Nat.le_trans HSZ3.out hj, fun e => by obtain ⟨_, _, _, hc⟩ := R_own_cells HRQ.out e; have := (Array.getElem?_eq_some_iff.1 hc).1; omega⟩); have HBW := am_ ((HB.out.setCell (p := ⟨w.heap.size + 2, 0, none⟩) (by simp) (.int .i64 ((pre.length : Int) + 1))).trans (HD.out.mono (by have := HB.out.size; simp; omega))); clear hd h3s; have g0 := (blk_cell HR3.out 0).trans rfl; have g1 := (blk_cell HR3.out 1).trans rfl; have g2 := (blk_cell HR3.out 2).trans rfl; have g3 := (blk_cell HR3.out 3).trans rfl; have g4 := (blk_cell HR3.out 4).trans rfl; have f0 := blk_frozen HR3.out 0; have f1 := blk_frozen HR3.out 1; have f2 := blk_frozen HR3.out 2; have f3 := blk_frozen HR3.out 3; have f4 := blk_frozen HR3.out 4; have k0 := (blk_cell HK3.out 0).trans rfl; have kf := blk_frozen HK3.out 0) | ((with_reducible refine gateIn_builtin (b := .append) (xs := #[.tmp 32, .tmp 34]) rfl ?_); refine in_list (fun c h => by cases h) rfl ?_; refine Kd.R_append k51 (w0 := w) w.heap.size rfl (.tmp 32) (.tmp 34) 22 51 (.agg #[(.string ⟨#[]⟩), (.string ⟨#[]⟩)]) 32 rfl Tryz.underlying22 info51 rfl (by decide) (by omega) (.slice A2 hs.length c2) hs ⟨d1, d2⟩ [.string d1, .string d2] (fun x => w.heap.size + 6 ≤ x ∧ some x ≠ (Value.slice A1 q.length c1).ownBlock) (fun _ => False) rfl (show Value.slice (some ⟨w1.heap.size + 1, 0, none⟩) 1 1 = Value.slice (some ⟨(w1.alloc (.cells #[.string d1, .string d2] 51)).heap.size, 0, none⟩) 1 1 from by rw [World.size_alloc]) (k51_mkM _ _ _ _) (fun _ h => h.elim) HFR.out HRH.out HBW.out HBW.out.size HLEN.out ?_; intro v1 w4 hR4 hb4 hg4 hat4; obtain ⟨A5, c5, rfl⟩ := Kd.R_slice hR4; have HX := am_ (head_read.Inv.next (x := x) HADV2.out HR3.out HK3.out HN3.out HSZ3.out HRQ.out HRH.out hR4 hg4 hat4); have HBF := Aside0.mk hb4; have hb5 := (hg4.block w.heap.size (by have := HSZ3.out; omega) (fun e => by have := (R_own_cells HRH.out e).1.1; omega)).trans HR3.out; have hc2' := (blk_cell hb5 4).trans rfl; have hf2' := blk_frozen hb5 4; clear hR4 hb4 hg4 hat4 hb5; refine inK_nil ?_))
      have hk3 : KeepsFrom (w.heap.size + 6) W (w1.alloc (.cells #[.string d1, .string d2] 51)) := ((KeepsOthers.setCell W ⟨w.heap.size + 2, 0, none⟩ (.int .i64 ((pre.length : Int) + 1))).from _).trans ⟨HD.out.size, fun j o' _ hj _ => (HD.out.block j (Array.getElem?_eq_some_iff.1 hj).1).trans hj⟩
      have hk4 : Keeps3 (w.heap.size + 3) W (w1.alloc (.cells #[.string d1, .string d2] 51)) := fun j h1 h2 => (HD.out.block j (by have := HSZ.out; simp; omega)).trans (HF2.out j (by omega))
      have hl1 : (hs ++ [(⟨d1, d2⟩ : S51)]).length = hs.length + 1 := by rw [List.length_append]; rfl
      have HX2 := HX.out
      rw [hl1] at HX2
      exact ⟨hk3.trans HX2.2.2, fun j h1 h2 => (HX2.2.1 j h1 h2).trans (hk4 j h1 h2), HX2.1, HBF.out.setCell (p := ⟨w.heap.size, 4, none⟩) (by simp) _⟩
     ·have := HG2.out
      rw [if_neg hlen] at this
      cases this
    | false =>
     gi_wp2_with (first | (refine ⟨trivial, ?_⟩; gi_at_call 48; with_reducible refine (CallsIn.inRound l (callsIn_wide.2 (head_field.calls k x d1 d2 false _ HFI.out))).mono ?_; rintro e w1 ⟨rfl, hd⟩; replace hd : Below _ _ _ := (by first | exact hd.below | exact hd); have HD := am_ (hd.alloc hd.size (.cells #[.string d1, .string d2] 51)); have h3s := HD.out.size; simp at h3s; have HR3 := am_ ((HD.out.block w.heap.size (by have := HSZ.out; simp; omega)).trans ((Below.heap_setCell W ⟨w.heap.size + 2, 0, none⟩ _ w.heap.size (by simp)).trans HR.out)); have HK3 := am_ ((HD.out.block (w.heap.size + 1) (by have := HSZ.out; simp; omega)).trans ((Below.heap_setCell W ⟨w.heap.size + 2, 0, none⟩ _ (w.heap.size + 1) (by simp)).trans HK.out)); have HN3 := am_ ((HD.out.block (w.heap.size + 2) (by have := HSZ.out; simp; omega)).trans (blk_put HN.out 0 _ rfl)); have HS3 := Aside0.mk h3s; clear hd h3s; have g0 := (blk_cell HR3.out 0).trans rfl; have g1 := (blk_cell HR3.out 1).trans rfl; have g2 := (blk_cell HR3.out 2).trans rfl; have g3 := (blk_cell HR3.out 3).trans rfl; have g4 := (blk_cell HR3.out 4).trans rfl; have f0 := blk_frozen HR3.out 0; have f1 := blk_frozen HR3.out 1; have f2 := blk_frozen HR3.out 2; have f3 := blk_frozen HR3.out 3; have f4 := blk_frozen HR3.out 4; have k0 := (blk_cell HK3.out 0).trans rfl; have kf := blk_frozen HK3.out 0))
     have hk3 : KeepsFrom (w.heap.size + 6) W (w1.alloc (.cells #[.string d1, .string d2] 51)) := ((KeepsOthers.setCell W ⟨w.heap.size + 2, 0, none⟩ (.int .i64 ((pre.length : Int) + 1))).from _).trans ⟨HD.out.size, fun j o' _ hj _ => (HD.out.block j (Array.getElem?_eq_some_iff.1 hj).1).trans hj⟩
     have hb4 : Below w.heap.size w (w1.alloc (.cells #[.string d1, .string d2] 51)) := (HB.out.setCell (p := ⟨w.heap.size + 2, 0, none⟩) (by simp) (.int .i64 ((pre.length : Int) + 1))).trans (HD.out.mono (by have := HB.out.size; simp; omega))
     have hba := put_after HR3.out HK3.out (.string ⟨#[]⟩) (.string ⟨#[]⟩) (.string ⟨#[]⟩) (.slice none 0 0) (.slice none 0 0) false
     exact ⟨hk3.trans (hba.2.2.1 _), ⟨(Option.some.inj ((if_neg (by decide)).symm.trans HG.out)).symm, hba.1, hba.2.1⟩, hba.2.2.2.1 _ _ (Nat.le_refl _) hb4⟩
  case done =>
   rintro D ys W hD rfl ⟨hI, hB⟩ hK
   have hsz := hI.sz
   rcases hI.ex with ⟨h1, _⟩ | ⟨hne, m, ho, pa, q, hs, A1, A2, c1, c2, hadv, hr, hk, hR1, hR2⟩
   ·rw [h1] at hgo
    obtain rfl : some none = o := Option.some.inj hgo
    cases hend
   ·have ho2 : o = some (some (m, ho, pa, q, hs)) := by
     have h2 := hadv []
     rw [List.append_nil, hgo] at h2
     exact Option.some.inj h2
    subst ho2
    obtain ⟨⟨hst, okb⟩, ha, hend2⟩ := Option.bind_eq_some_iff.1 hend
    simp only at ha hend2
    have hC := (Kd.R_reads' hR2).2
    have g0 := (blk_cell hr 0).trans rfl
    have g1 := (blk_cell hr 1).trans rfl
    have g2 := (blk_cell hr 2).trans rfl
    have g3 := (blk_cell hr 3).trans rfl
    have g4 := (blk_cell hr 4).trans rfl
    cases okb with
    | true =>
     rw [if_pos rfl] at hend2
     gi_wp2_with (refine ⟨trivial, ?_⟩; gi_at_call 14; with_reducible refine (callsIn_wide.2 (head_asked.calls k A2 c2 hs hst true _ hC.2 hC.1 ha)).mono ?_; rintro e w1 ⟨rfl, hd⟩; replace hd : Below _ _ _ := (by first | exact hd.below | exact hd); have HD := Aside0.mk hd; have HR3 := am_ ((hd.block w.heap.size (by omega)).trans hr); have HK3 := am_ ((hd.block (w.heap.size + 1) (by omega)).trans hk); clear hd; have g0 := (blk_cell HR3.out 0).trans rfl; have g1 := (blk_cell HR3.out 1).trans rfl; have g2 := (blk_cell HR3.out 2).trans rfl; have g3 := (blk_cell HR3.out 3).trans rfl; have g4 := (blk_cell HR3.out 4).trans rfl; have f0 := blk_frozen HR3.out 0; have f1 := blk_frozen HR3.out 1; have f2 := blk_frozen HR3.out 2; have f3 := blk_frozen HR3.out 3; have f4 := blk_frozen HR3.out 4; have k0 := (blk_cell HK3.out 0).trans rfl; have kf := blk_frozen HK3.out 0)
     ·have hlo : ¬ hs.length ≤ 30 := by omega
      have hq := Option.some.inj ((if_neg hlo).symm.trans hend2)
      simp only [Prod.mk.injEq] at hq
      obtain ⟨rfl, rfl, rfl, rfl, rfl, rfl⟩ := hq
      obtain ⟨Y, hY⟩ : ∃ Y, Y = (w1.setCell ⟨w.heap.size, 1, none⟩ (.string hst)).setCell ⟨w.heap.size + 1, 0, none⟩ (.bool true) := ⟨_, rfl⟩
      have hjY : ∀ j, j ≠ w.heap.size → j ≠ w.heap.size + 1 → Y.heap[j]? = w1.heap[j]? := fun j h1 h2 => by rw [hY]; exact (Below.heap_setCell _ ⟨w.heap.size + 1, 0, none⟩ _ j h2).trans (Below.heap_setCell _ ⟨w.heap.size, 1, none⟩ _ j h1)
      have hrY := (Below.heap_setCell (w1.setCell ⟨w.heap.size, 1, none⟩ (.string hst)) ⟨w.heap.size + 1, 0, none⟩ (.bool true) w.heap.size (by simp)).trans (blk_put HR3.out 1 (.string hst) rfl)
      have hkY := blk_put ((Below.heap_setCell w1 ⟨w.heap.size, 1, none⟩ (.string hst) (w.heap.size + 1) (by simp)).trans HK3.out) 0 (.bool true) rfl
      have hBY : Below w.heap.size w Y := by rw [hY]; exact ((hB.trans (HD.out.mono hB.size)).setCell (p := ⟨w.heap.size, 1, none⟩) (by simp) _).setCell (p := ⟨w.heap.size + 1, 0, none⟩) (by simp) _
      rw [← hY] at hrY hkY ⊢
      have hp := put_after hrY hkY (.string ⟨#[]⟩) (.string ⟨#[]⟩) (.string ⟨#[]⟩) (.slice none 0 0) (.slice none 0 0) false
      obtain ⟨X, hX⟩ : ∃ X, X = (((((Y.setCell ⟨w.heap.size, 0, none⟩ (.string ⟨#[]⟩)).setCell ⟨w.heap.size, 1, none⟩ (.string ⟨#[]⟩)).setCell ⟨w.heap.size, 2, none⟩ (.string ⟨#[]⟩)).setCell ⟨w.heap.size, 3, none⟩ (.slice none 0 0)).setCell ⟨w.heap.size, 4, none⟩ (.slice none 0 0)).setCell ⟨w.heap.size + 1, 0, none⟩ (.bool false) := ⟨_, rfl⟩
      rw [← hX] at hp ⊢
      obtain ⟨hr5, hk5, _, hb5, hj5⟩ := hp
      have hjX : ∀ j, w.heap.size + 6 ≤ j → X.heap[j]? = w1.heap[j]? := fun j hj => (hj5 j (by omega) (by omega)).trans (hjY j (by omega) (by omega))
      have hKX : X.heap[D]? = some (.deferred (some [])) := (hjX D (by omega)).trans ((HD.out.block D (Array.getElem?_eq_some_iff.1 hK).1).trans hK)
      have hBX := hb5 _ w (Nat.le_refl _) hBY
      have hr6 := (grownBy_keepsCells (grownBy_putObj' X D (.deferred none)) (fun r e => by cases e; exact ⟨_, hKX, rfl⟩) hr5).trans hr5
      have hk6 := (grownBy_keepsCells (grownBy_putObj' X D (.deferred none)) (fun r e => by cases e; exact ⟨_, hKX, rfl⟩) hk5).trans hk5
      clear g0 g1 g2 g3 g4 k0 hX hY
      have g0 := (blk_cell hr6 0).trans rfl
      have g1 := (blk_cell hr6 1).trans rfl
      have g2 := (blk_cell hr6 2).trans rfl
      have g3 := (blk_cell hr6 3).trans rfl
      have g4 := (blk_cell hr6 4).trans rfl
      have k0 := (blk_cell hk6 0).trans rfl
      refine ⟨by simp, .inl ⟨_, _, rfl, run_takeDeferred hKX, ?_⟩⟩
      refine ⟨.tuple #[.agg #[.string ⟨#[]⟩, .string ⟨#[]⟩, .string ⟨#[]⟩, .slice none 0 0, .slice none 0 0], .bool false], ?_, _, _, rfl, Kd.R_nil _ _ _ _ _, Kd.R_nil _ _ _ _ _, hBX.trans (belowK_b (w := w) (Nat.le_refl _) X D _ _ (by omega) hKX rfl rfl)⟩
      simp [results, Tryz.f30, go_sem, g0, g1, g2, g3, g4, k0]
     ·have hlo : hs.length ≤ 30 := by omega
      have hq := Option.some.inj ((if_pos hlo).symm.trans hend2)
      simp only [Prod.mk.injEq] at hq
      obtain ⟨rfl, rfl, rfl, rfl, rfl, rfl⟩ := hq
      obtain ⟨Y, hY⟩ : ∃ Y, Y = (w1.setCell ⟨w.heap.size, 1, none⟩ (.string hst)).setCell ⟨w.heap.size + 1, 0, none⟩ (.bool true) := ⟨_, rfl⟩
      have hjY : ∀ j, j ≠ w.heap.size → j ≠ w.heap.size + 1 → Y.heap[j]? = w1.heap[j]? := fun j h1 h2 => by rw [hY]; exact (Below.heap_setCell _ ⟨w.heap.size + 1, 0, none⟩ _ j h2).trans (Below.heap_setCell _ ⟨w.heap.size, 1, none⟩ _ j h1)
      have hrY := (Below.heap_setCell (w1.setCell ⟨w.heap.size, 1, none⟩ (.string hst)) ⟨w.heap.size + 1, 0, none⟩ (.bool true) w.heap.size (by simp)).trans (blk_put HR3.out 1 (.string hst) rfl)
      have hkY := blk_put ((Below.heap_setCell w1 ⟨w.heap.size, 1, none⟩ (.string hst) (w.heap.size + 1) (by simp)).trans HK3.out) 0 (.bool true) rfl
      have hBY : Below w.heap.size w Y := by rw [hY]; exact ((hB.trans (HD.out.mono hB.size)).setCell (p := ⟨w.heap.size, 1, none⟩) (by simp) _).setCell (p := ⟨w.heap.size + 1, 0, none⟩) (by simp) _
      rw [← hY] at hrY hkY ⊢
      have hp := put_after hrY hkY (.string m) (.string hst) (.string pa) (.slice A1 q.length c1) (.slice A2 hs.length c2) true
      obtain ⟨X, hX⟩ : ∃ X, X = (((((Y.setCell ⟨w.heap.size, 0, none⟩ (.string m)).setCell ⟨w.heap.size, 1, none⟩ (.string hst)).setCell ⟨w.heap.size, 2, none⟩ (.string pa)).setCell ⟨w.heap.size, 3, none⟩ (.slice A1 q.length c1)).setCell ⟨w.heap.size, 4, none⟩ (.slice A2 hs.length c2)).setCell ⟨w.heap.size + 1, 0, none⟩ (.bool true) := ⟨_, rfl⟩
      rw [← hX] at hp ⊢
      obtain ⟨hr5, hk5, _, hb5, hj5⟩ := hp
      have hjX : ∀ j, w.heap.size + 6 ≤ j → X.heap[j]? = w1.heap[j]? := fun j hj => (hj5 j (by omega) (by omega)).trans (hjY j (by omega) (by omega))
      have hKX : X.heap[D]? = some (.deferred (some [])) := (hjX D (by omega)).trans ((HD.out.block D (Array.getElem?_eq_some_iff.1 hK).1).trans hK)
      have hBX := hb5 _ w (Nat.le_refl _) hBY
      have hr6 := (grownBy_keepsCells (grownBy_putObj' X D (.deferred none)) (fun r e => by cases e; exact ⟨_, hKX, rfl⟩) hr5).trans hr5
      have hk6 := (grownBy_keepsCells (grownBy_putObj' X D (.deferred none)) (fun r e => by cases e; exact ⟨_, hKX, rfl⟩) hk5).trans hk5
      clear g0 g1 g2 g3 g4 k0 hX hY
      have g0 := (blk_cell hr6 0).trans rfl
      have g1 := (blk_cell hr6 1).trans rfl
      have g2 := (blk_cell hr6 2).trans rfl
      have g3 := (blk_cell hr6 3).trans rfl
      have g4 := (blk_cell hr6 4).trans rfl
      have k0 := (blk_cell hk6 0).trans rfl
      have hX1 := R_put_walk (o' := .deferred none) (Kd.R_step (Kd.R_below hR1 HD.out) (fun j hj _ => hjX j hj.1)) hKX rfl
      have hX2 := R_put_walk (o' := .deferred none) (Kd.R_step (Kd.R_below hR2 HD.out) (fun j hj _ => hjX j hj.1)) hKX rfl
      refine ⟨by simp, .inl ⟨_, _, rfl, run_takeDeferred hKX, ?_⟩⟩
      refine ⟨.tuple #[.agg #[.string m, .string hst, .string pa, .slice A1 q.length c1, .slice A2 hs.length c2], .bool true], ?_, _, _, rfl, Kd.R_mono hX1 (fun _ h => h.2), Kd.R_mono hX2 (fun _ h => h.2), hBX.trans (belowK_b (w := w) (Nat.le_refl _) X D _ _ (by omega) hKX rfl rfl)⟩
      simp [results, Tryz.f30, go_sem, g0, g1, g2, g3, g4, k0]
    | false =>
     rw [if_neg (by decide)] at hend2
     gi_wp2_with (refine ⟨trivial, ?_⟩; gi_at_call 14; with_reducible refine (callsIn_wide.2 (head_asked.calls k A2 c2 hs hst false _ hC.2 hC.1 ha)).mono ?_; rintro e w1 ⟨rfl, hd⟩; replace hd : Below _ _ _ := (by first | exact hd.below | exact hd); have HD := Aside0.mk hd; have HR3 := am_ ((hd.block w.heap.size (by omega)).trans hr); have HK3 := am_ ((hd.block (w.heap.size + 1) (by omega)).trans hk); clear hd; have g0 := (blk_cell HR3.out 0).trans rfl; have g1 := (blk_cell HR3.out 1).trans rfl; have g2 := (blk_cell HR3.out 2).trans rfl; have g3 := (blk_cell HR3.out 3).trans rfl; have g4 := (blk_cell HR3.out 4).trans rfl; have f0 := blk_frozen HR3.out 0; have f1 := blk_frozen HR3.out 1; have f2 := blk_frozen HR3.out 2; have f3 := blk_frozen HR3.out 3; have f4 := blk_frozen HR3.out 4; have k0 := (blk_cell HK3.out 0).trans rfl; have kf := blk_frozen HK3.out 0)
     have hq := Option.some.inj (hend2)
     simp only [Prod.mk.injEq] at hq
     obtain ⟨rfl, rfl, rfl, rfl, rfl, rfl⟩ := hq
     obtain ⟨Y, hY⟩ : ∃ Y, Y = (w1.setCell ⟨w.heap.size, 1, none⟩ (.string hst)).setCell ⟨w.heap.size + 1, 0, none⟩ (.bool false) := ⟨_, rfl⟩
     have hjY : ∀ j, j ≠ w.heap.size → j ≠ w.heap.size + 1 → Y.heap[j]? = w1.heap[j]? := fun j h1 h2 => by rw [hY]; exact (Below.heap_setCell _ ⟨w.heap.size + 1, 0, none⟩ _ j h2).trans (Below.heap_setCell _ ⟨w.heap.size, 1, none⟩ _ j h1)
     have hrY := (Below.heap_setCell (w1.setCell ⟨w.heap.size, 1, none⟩ (.string hst)) ⟨w.heap.size + 1, 0, none⟩ (.bool false) w.heap.size (by simp)).trans (blk_put HR3.out 1 (.string hst) rfl)
     have hkY := blk_put ((Below.heap_setCell w1 ⟨w.heap.size, 1, none⟩ (.string hst) (w.heap.size + 1) (by simp)).trans HK3.out) 0 (.bool false) rfl
     have hBY : Below w.heap.size w Y := by rw [hY]; exact ((hB.trans (HD.out.mono hB.size)).setCell (p := ⟨w.heap.size, 1, none⟩) (by simp) _).setCell (p := ⟨w.heap.size + 1, 0, none⟩) (by simp) _
     rw [← hY] at hrY hkY ⊢
     have hp := put_after hrY hkY (.string ⟨#[]⟩) (.string ⟨#[]⟩) (.string ⟨#[]⟩) (.slice none 0 0) (.slice none 0 0) false
     obtain ⟨X, hX⟩ : ∃ X, X = (((((Y.setCell ⟨w.heap.size, 0, none⟩ (.string ⟨#[]⟩)).setCell ⟨w.heap.size, 1, none⟩ (.string ⟨#[]⟩)).setCell ⟨w.heap.size, 2, none⟩ (.string ⟨#[]⟩)).setCell ⟨w.heap.size, 3, none⟩ (.slice none 0 0)).setCell ⟨w.heap.size, 4, none⟩ (.slice none 0 0)).setCell ⟨w.heap.size + 1, 0, none⟩ (.bool false) := ⟨_, rfl⟩
     rw [← hX] at hp ⊢
     obtain ⟨hr5, hk5, _, hb5, hj5⟩ := hp
     have hjX : ∀ j, w.heap.size + 6 ≤ j → X.heap[j]? = w1.heap[j]? := fun j hj => (hj5 j (by omega) (by omega)).trans (hjY j (by omega) (by omega))
     have hKX : X.heap[D]? = some (.deferred (some [])) := (hjX D (by omega)).trans ((HD.out.block D (Array.getElem?_eq_some_iff.1 hK).1).trans hK)
     have hBX := hb5 _ w (Nat.le_refl _) hBY
     have hr6 := (grownBy_keepsCells (grownBy_putObj' X D (.deferred none)) (fun r e => by cases e; exact ⟨_, hKX, rfl⟩) hr5).trans hr5
     have hk6 := (grownBy_keepsCells (grownBy_putObj' X D (.deferred none)) (fun r e => by cases e; exact ⟨_, hKX, rfl⟩) hk5).trans hk5
     clear g0 g1 g2 g3 g4 k0 hX hY
     have g0 := (blk_cell hr6 0).trans rfl
     have g1 := (blk_cell hr6 1).trans rfl
     have g2 := (blk_cell hr6 2).trans rfl
     have g3 := (blk_cell hr6 3).trans rfl
     have g4 := (blk_cell hr6 4).trans rfl
     have k0 := (blk_cell hk6 0).trans rfl
     refine ⟨by simp, .inl ⟨_, _, rfl, run_takeDeferred hKX, ?_⟩⟩
     refine ⟨.tuple #[.agg #[.string ⟨#[]⟩, .string ⟨#[]⟩, .string ⟨#[]⟩, .slice none 0 0, .slice none 0 0], .bool false], ?_, _, _, rfl, Kd.R_nil _ _ _ _ _, Kd.R_nil _ _ _ _ _, hBX.trans (belowK_b (w := w) (Nat.le_refl _) X D _ _ (by omega) hKX rfl rfl)⟩
     simp [results, Tryz.f30, go_sem, g0, g1, g2, g3, g4, k0]
  case stop =>
   rintro D pre W hD hpre ⟨⟨rfl, hr, hk⟩, hB⟩ hK
   have hq := Option.some.inj (show some ((⟨#[]⟩ : ByteArray), (⟨#[]⟩ : ByteArray), (⟨#[]⟩ : ByteArray), ([] : List S51), ([] : List S51), false) = some (r1, r2, r3, r4, r5, r6) from hend)
   simp only [Prod.mk.injEq] at hq
   obtain ⟨rfl, rfl, rfl, rfl, rfl, rfl⟩ := hq
   gi_wp2
   refine ⟨by simp, .inl ⟨_, _, rfl, run_takeDeferred hK, ?_⟩⟩
   have hr2 := (grownBy_keepsCells (grownBy_putObj' W D (.deferred none)) (fun r e => by cases e; exact ⟨_, hK, rfl⟩) hr).trans hr
   have hk2 := (grownBy_keepsCells (grownBy_putObj' W D (.deferred none)) (fun r e => by cases e; exact ⟨_, hK, rfl⟩) hk).trans hk
   have g0 := (blk_cell hr2 0).trans rfl
   have g1 := (blk_cell hr2 1).trans rfl
   have g2 := (blk_cell hr2 2).trans rfl
   have g3 := (blk_cell hr2 3).trans rfl
   have g4 := (blk_cell hr2 4).trans rfl
   have k0 := (blk_cell hk2 0).trans rfl
   refine ⟨.tuple #[.agg #[.string ⟨#[]⟩, .string ⟨#[]⟩, .string ⟨#[]⟩, .slice none 0 0, .slice none 0 0], .bool false], ?_, _, _, rfl, Kd.R_nil _ _ _ _ _, Kd.R_nil _ _ _ _ _, hB.trans (belowK_b (w := w) (Nat.le_refl _) W D _ _ (by omega) hK rfl rfl)⟩
   simp [results, Tryz.f30, go_sem, g0, g1, g2, g3, g4, k0]
 ·rw [if_neg hl] at h; cases h
end

/-! ### head_Parse: function 9 -/
def head_Parse.j0 : Nat → ByteArray → Int → Bool → Option (ByteArray × ByteArray × ByteArray × (List (S51)) × (List (S51)) × Int × Int)
 | 0, _, _, _ => none
 | k + 1, x0, x5, x14 => if x14 = true then (some ((⟨#[]⟩ : ByteArray), (⟨#[]⟩ : ByteArray), (⟨#[]⟩ : ByteArray), ([] : List (S51)), ([] : List (S51)), 0, 5)) else (if x5 < 0 then (some ((⟨#[]⟩ : ByteArray), (⟨#[]⟩ : ByteArray), (⟨#[]⟩ : ByteArray), ([] : List (S51)), ([] : List (S51)), 0, 8)) else (if 0 ≤ x5 then (if x5 ≤ (x0.size : Int) then ((head_read.f k (x0.extract 0 (x5 : Int).toNat)).bind fun bt287 => (if bt287.2.2.2.2.2 = true then (some (bt287.1, bt287.2.1, bt287.2.2.1, bt287.2.2.2.1, bt287.2.2.2.2.1, wrap64 (x5 + 4), 0)) else (some ((⟨#[]⟩ : ByteArray), (⟨#[]⟩ : ByteArray), (⟨#[]⟩ : ByteArray), ([] : List (S51)), ([] : List (S51)), 0, 2)))) else (none)) else (none)))
def head_Parse.f (k : Nat) (a0 : ByteArray) : Option (ByteArray × ByteArray × ByteArray × (List (S51)) × (List (S51)) × Int × Int) := if 0 ≤ (mn (a0.size : Int) 1000) then (if (mn (a0.size : Int) 1000) ≤ (a0.size : Int) then ((strings_IndexM.f (a0.extract 0 ((mn (a0.size : Int) 1000) : Int).toNat) (⟨#[13, 10, 13, 10]⟩ : ByteArray)).bind fun t286 => (if t286 < 0 then (head_Parse.j0 k a0 t286 (decide ((a0.size : Int) ≥ 1000))) else (head_Parse.j0 k a0 t286 false))) else (none)) else (none)
theorem head_Parse.mono_l : ∀ k, (∀ y0 y1 y2, LeO (head_Parse.j0 k y0 y1 y2) (head_Parse.j0 (k + 1) y0 y1 y2))
 | 0 => fun _ _ _ r h => by simp [head_Parse.j0] at h
 | k + 1 => by
  have ih0 := head_Parse.mono_l k
  ·intro y0 y1 y2
   unfold head_Parse.j0
   repeat' first
   | (with_reducible exact ih0 _ _ _)
   | (with_reducible exact head_read.mono _ _)
   | (with_reducible exact LeO.refl _)
   | (with_reducible exact LeO.none _)
   | (with_reducible refine LeO.ite ?_ ?_)
   | (with_reducible refine LeO.bind ?_ (fun _ => ?_))
   | exact ih0 _ _ _
   | exact head_read.mono _ _
   | exact LeO.none _
   | refine LeO.ite ?_ ?_
   | refine LeO.bind ?_ (fun _ => ?_)
theorem head_Parse.mono : ∀ a0 k, LeO (head_Parse.f k a0) (head_Parse.f (k + 1) a0) := by
 intro a0 k
 have ih0 := head_Parse.mono_l k
 unfold head_Parse.f
 repeat' first
   | (with_reducible exact ih0 _ _ _)
   | (with_reducible exact head_read.mono _ _)
   | (with_reducible exact LeO.refl _)
   | (with_reducible exact LeO.none _)
   | (with_reducible refine LeO.ite ?_ ?_)
   | (with_reducible refine LeO.bind ?_ (fun _ => ?_))
   | exact ih0 _ _ _
   | exact head_read.mono _ _
   | exact LeO.none _
   | refine LeO.ite ?_ ?_
   | refine LeO.bind ?_ (fun _ => ?_)
set_option maxHeartbeats 8000000 in
set_option maxRecDepth 100000 in
theorem head_Parse.calls (k : Nat) (a0 : ByteArray) (r1 : ByteArray) (r2 : ByteArray) (r3 : ByteArray) (r4 : List (S51)) (r5 : List (S51)) (r6 : Int) (r7 : Int) (w : World) (hG : MaxL w) (h : head_Parse.f k a0 = some (r1, r2, r3, r4, r5, r6, r7)) :
  Calls Tryz.prog 9 #[.string a0] w fun e w' => ∃ v3_ v4_ : Value, e = .returned (.tuple #[.agg #[.string r1, .string r2, .string r3, v3_, v4_], .int .i64 r6, .int .i64 r7]) ∧ Kd.R k51 51 w' w.heap.size (fun k_ => some k_ ≠ (v4_ : Value).ownBlock) v3_ r4 ∧ Kd.R k51 51 w' w.heap.size (fun k_ => some k_ ≠ (v3_ : Value).ownBlock) v4_ r5 ∧ Below w.heap.size w w' := by
 have HGL := am_ hG
 clear hG
 have hu24 := Tryz.underlying24
 have HB := am_ (Below.refl w.heap.size w)
 have H : (if 0 ≤ (mn (a0.size : Int) 1000) then (if (mn (a0.size : Int) 1000) ≤ (a0.size : Int) then ((strings_IndexM.f (a0.extract 0 ((mn (a0.size : Int) 1000) : Int).toNat) (⟨#[13, 10, 13, 10]⟩ : ByteArray)).bind fun t286 => (if t286 < 0 then (head_Parse.j0 k a0 t286 (decide ((a0.size : Int) ≥ 1000))) else (head_Parse.j0 k a0 t286 false))) else (none)) else (none)) = some (r1, r2, r3, r4, r5, r6, r7) := h
 clear h
 obtain ⟨ji2, hji2⟩ : ∃ j_ : Int, (mn (a0.size : Int) 1000) = j_ := ⟨_, rfl⟩
 replace H : (if 0 ≤ (ji2) then (if (ji2) ≤ (a0.size : Int) then ((strings_IndexM.f (a0.extract 0 ((ji2) : Int).toNat) (⟨#[13, 10, 13, 10]⟩ : ByteArray)).bind fun t286 => (if t286 < 0 then (head_Parse.j0 k a0 t286 (decide ((a0.size : Int) ≥ 1000))) else (head_Parse.j0 k a0 t286 false))) else (none)) else (none)) = some (r1, r2, r3, r4, r5, r6, r7) := by first | (rw [hji2] at H; exact H) | (simp only [hji2] at H ⊢; exact H)
 (try (have hji2h : ji2 ≤ 1000 := by (rw [← hji2]; unfold mn; (repeat' split) <;> omega)))
 (try (have hji2g : ji2 ≤ 64 := by omega))
 (try (have hji2l : 0 ≤ ji2 := by (rw [← hji2]; unfold mn; (repeat' split) <;> omega)))
 (try (have hji2m : 0 ≤ ji2 := by omega))
 have hji2_ : (if 1000 < (a0.size : Int) then 1000 else (a0.size : Int)) = ji2 := hji2
 by_cases c3 : 0 ≤ (ji2)
 ·rw [if_pos c3] at H
  have c3b0 := eq_true c3
  have c3b1 : decide (0 ≤ (ji2)) = true := decide_eq_true c3
  clear c3
  by_cases c4 : (ji2) ≤ (a0.size : Int)
  ·rw [if_pos c4] at H
   have c4b0 := eq_true c4
   have c4b1 : decide ((ji2) ≤ (a0.size : Int)) = true := decide_eq_true c4
   clear c4
   replace H := Option.bind_eq_some_iff.mp H
   obtain ⟨t286, A50, H⟩ := H
   replace H : (if t286 < 0 then (head_Parse.j0 k a0 t286 (decide ((a0.size : Int) ≥ 1000))) else (head_Parse.j0 k a0 t286 false)) = some (r1, r2, r3, r4, r5, r6, r7) := H
   have A5 := Aside0.mk A50
   clear A50
   have HC6 := Aside0.mk H
   clear H
   go_enter Tryz.func9, Tryz.ntmps9
   go_upto_region 2 with (first | ((with_reducible refine gate_dst (N := 2) rfl ?_); (try (refine gate_guard (by rfl) ?_; dsimp only)); refine box_event ?hg (N := 2) ?hd (cs := #[.string (⟨#[]⟩ : ByteArray), .string (⟨#[]⟩ : ByteArray), .string (⟨#[]⟩ : ByteArray), .slice none 0 0, .slice none 0 0]) (t := 24) ?hr ?_; (case hd => rfl); (case hg => rfl); (case hr => first | (go_simp; done) | (go_simp; rfl)); intro gb285 hg w7 hbox hb; have n0_ := am_ (below_step (bel_ HB.out) hb); have n1_ := am_ (hbox); have n2_ := am_ ((by rw [hg]; exact (below_size (bel_ HB.out)) : w.heap.size ≤ gb285)); have n3_ := am_ ((by rw [hg]; exact (below_size (bel_ HB.out)) : w.heap.size ≤ gb285)); clear HB; have HB := n0_; have BK285 := n1_; have GW285 := n2_; have GE285 := n3_; clear n0_ n1_ n2_ n3_ hb hbox hg) | ((with_reducible refine gate_callee (f := 29) rfl ?_); refine goesL_ (some 13) rfl rfl Tryz.func29 kr_ rfl #[.string (a0.extract 0 ((ji2) : Int).toNat), .string (⟨#[13, 10, 13, 10]⟩ : ByteArray)] rfl (by (try simp only [List.map_toArray, List.map_cons, List.map_nil]); first | done | (simp only [hji2]; rfl) | rfl | (simp only [List.length_drop, List.length_take]; rfl)) ?_; (with_reducible refine (strings_IndexM.calls (a0.extract 0 ((ji2) : Int).toNat) (⟨#[13, 10, 13, 10]⟩ : ByteArray) t286 _ (gm_ HGL.out (bel_ HB.out)) A5.out).mono ?_); rintro e w' ⟨rfl, ⟨nd, rfl⟩⟩; refine ⟨_, rfl, ?_⟩))
   (try simp only [Act.put, List.setIfInBounds_toArray, List.set_cons_zero, List.set_cons_succ])
   go_cut [14] (fun v14 wc => ∃ (kq : Nat) (x14_5 : Bool), v14 = .bool x14_5 ∧ Aside0 (head_Parse.j0 kq a0 t286 x14_5 = some (r1, r2, r3, r4, r5, r6, r7)) ∧ Aside0 (kq ≤ k) ∧ Aside0 (wc.heap[gb285]? = some (.cells #[.string (⟨#[]⟩ : ByteArray), .string (⟨#[]⟩ : ByteArray), .string (⟨#[]⟩ : ByteArray), (.slice none 0 0), (.slice none 0 0)] 24 (0, 0))) ∧ Aside0 (Below w.heap.size w wc))
   case first =>
    have H := HC6.out
    clear HC6
    by_cases c8 : t286 < 0
    ·rw [if_pos c8] at H
     have c8b0 : decide (t286 < 0) = true := decide_eq_true c8
     clear c8
     (first | rw [c8b0] | rw [c8b1] | rw [c8b2] | (simp only [i64_w, i32_w]; rw [c8b0]) | skip)
     have H' := Aside0.mk H
     clear H
     go_wp2
     go_meet
     case rel => exact ⟨_, (decide ((a0.size : Int) ≥ 1000)), sd_, H', ⟨by first | omega | exact Nat.le_refl _⟩, ⟨by (with_reducible repeat (first | refine blk_drewN ?_ _ | refine blk_drew ?_ | refine blk_alloc ?_ _)); exact BK285.out⟩, ⟨bel_ HB.out⟩⟩
    ·rw [if_neg c8] at H
     have c8b0 : decide (t286 < 0) = false := decide_eq_false c8
     clear c8
     (first | rw [c8b0] | rw [c8b1] | rw [c8b2] | (simp only [i64_w, i32_w]; rw [c8b0]) | skip)
     have H' := Aside0.mk H
     clear H
     go_wp2
     go_meet
     case rel => exact ⟨_, (false), sd_, H', ⟨by first | omega | exact Nat.le_refl _⟩, ⟨by (with_reducible repeat (first | refine blk_drewN ?_ _ | refine blk_drew ?_ | refine blk_alloc ?_ _)); exact BK285.out⟩, ⟨bel_ HB.out⟩⟩
   case rest =>
    clear HC6
    try clear c2
    try clear p2
    try clear c3
    try clear c3b0
    try clear c3b1
    try clear c4
    try clear c4b0
    try clear c4b1
    try clear c8
    try clear c8b0
    try clear c8b1
    try clear c8b2
    obtain ⟨kq, x14_5, rfl, HA, HJ5, BK285, HB⟩ := hcut
    cases kq with
    | zero => exact absurd HA.out (by simp [head_Parse.j0])
    | succ kj5 =>
     have H := HA.out
     clear HA
     simp only [head_Parse.j0] at H
     by_cases c9 : x14_5 = true
     ·subst c9
      have H1 : (some ((⟨#[]⟩ : ByteArray), (⟨#[]⟩ : ByteArray), (⟨#[]⟩ : ByteArray), ([] : List (S51)), ([] : List (S51)), 0, 5)) = some (r1, r2, r3, r4, r5, r6, r7) := by rw [if_pos rfl] at H; exact H
      clear H
      have H := H1
      clear H1
      simp only [Option.some.injEq, Prod.mk.injEq] at H
      obtain ⟨rfl, rfl, rfl, rfl, rfl, rfl, rfl⟩ := H
      obtain ⟨hcz10_0, hcz10_1, hcz10_2, hcz10_3, hcz10_4, hfz10_0, hfz10_1, hfz10_2, hfz10_3, hfz10_4⟩ := blk5 BK285.out
      go_wp2
      refine bodyPost_ret (results_ctt rfl _ _ gb285 24 #[.string (⟨#[]⟩ : ByteArray), .string (⟨#[]⟩ : ByteArray), .string (⟨#[]⟩ : ByteArray), .slice none 0 0, .slice none 0 0] (0, 0) _ rfl (by (with_reducible repeat (first | refine blk_drewN ?_ _ | refine blk_drew ?_ | refine blk_alloc ?_ _)); refine blk_put (cs := #[.string (⟨#[]⟩ : ByteArray), .string (⟨#[]⟩ : ByteArray), .string (⟨#[]⟩ : ByteArray), .slice none 0 0, .slice none 0 0]) ?_ 4 _ rfl; (with_reducible repeat (first | refine blk_drewN ?_ _ | refine blk_drew ?_ | refine blk_alloc ?_ _)); refine blk_put (cs := #[.string (⟨#[]⟩ : ByteArray), .string (⟨#[]⟩ : ByteArray), .string (⟨#[]⟩ : ByteArray), .slice none 0 0, .slice none 0 0]) ?_ 3 _ rfl; (with_reducible repeat (first | refine blk_drewN ?_ _ | refine blk_drew ?_ | refine blk_alloc ?_ _)); refine blk_put (cs := #[.string (⟨#[]⟩ : ByteArray), .string (⟨#[]⟩ : ByteArray), .string (⟨#[]⟩ : ByteArray), .slice none 0 0, .slice none 0 0]) ?_ 2 _ rfl; (with_reducible repeat (first | refine blk_drewN ?_ _ | refine blk_drew ?_ | refine blk_alloc ?_ _)); refine blk_put (cs := #[.string (⟨#[]⟩ : ByteArray), .string (⟨#[]⟩ : ByteArray), .string (⟨#[]⟩ : ByteArray), .slice none 0 0, .slice none 0 0]) ?_ 1 _ rfl; (with_reducible repeat (first | refine blk_drewN ?_ _ | refine blk_drew ?_ | refine blk_alloc ?_ _)); refine blk_put (cs := #[.string (⟨#[]⟩ : ByteArray), .string (⟨#[]⟩ : ByteArray), .string (⟨#[]⟩ : ByteArray), .slice none 0 0, .slice none 0 0]) ?_ 0 _ rfl; (with_reducible repeat (first | refine blk_drewN ?_ _ | refine blk_drew ?_ | refine blk_alloc ?_ _)); exact BK285.out) Tryz.underlying24 rfl kr_) rfl ?_
      exact ⟨_, _, by first | rfl | (simp [errW_none, errW_some] <;> rfl) | (simp only [← hji2]; first | rfl | (simp [errW_none, errW_some] <;> rfl)) | (simp [*, errW_none, errW_some] <;> rfl), by first | exact Kd.R_nil _ _ _ _ _ | exact Kd.N_nil _ _ _ _ _ | exact Kd.V_nil _ _ _ _ _ | exact Kd.Q_nil _ _ _ _ _ | exact Kd.S_nil _ _ _ _ _, by first | exact Kd.R_nil _ _ _ _ _ | exact Kd.N_nil _ _ _ _ _ | exact Kd.V_nil _ _ _ _ _ | exact Kd.Q_nil _ _ _ _ _ | exact Kd.S_nil _ _ _ _ _, bel_ HB.out⟩
     ·replace c9 := Bool.eq_false_iff.mpr c9
      subst c9
      have H1 : (if t286 < 0 then (some ((⟨#[]⟩ : ByteArray), (⟨#[]⟩ : ByteArray), (⟨#[]⟩ : ByteArray), ([] : List (S51)), ([] : List (S51)), 0, 8)) else (if 0 ≤ t286 then (if t286 ≤ (a0.size : Int) then ((head_read.f kj5 (a0.extract 0 (t286 : Int).toNat)).bind fun bt287 => (if bt287.2.2.2.2.2 = true then (some (bt287.1, bt287.2.1, bt287.2.2.1, bt287.2.2.2.1, bt287.2.2.2.2.1, wrap64 (t286 + 4), 0)) else (some ((⟨#[]⟩ : ByteArray), (⟨#[]⟩ : ByteArray), (⟨#[]⟩ : ByteArray), ([] : List (S51)), ([] : List (S51)), 0, 2)))) else (none)) else (none))) = some (r1, r2, r3, r4, r5, r6, r7) := by rw [if_neg (show ¬ (false = true) by decide)] at H; exact H
      clear H
      have H := H1
      clear H1
      by_cases c11 : t286 < 0
      ·rw [if_pos c11] at H
       have c11b0 : decide (t286 < 0) = true := decide_eq_true c11
       clear c11
       simp only [Option.some.injEq, Prod.mk.injEq] at H
       obtain ⟨rfl, rfl, rfl, rfl, rfl, rfl, rfl⟩ := H
       obtain ⟨hcz12_0, hcz12_1, hcz12_2, hcz12_3, hcz12_4, hfz12_0, hfz12_1, hfz12_2, hfz12_3, hfz12_4⟩ := blk5 BK285.out
       go_wp2
       refine bodyPost_ret (results_ctt rfl _ _ gb285 24 #[.string (⟨#[]⟩ : ByteArray), .string (⟨#[]⟩ : ByteArray), .string (⟨#[]⟩ : ByteArray), .slice none 0 0, .slice none 0 0] (0, 0) _ rfl (by (with_reducible repeat (first | refine blk_drewN ?_ _ | refine blk_drew ?_ | refine blk_alloc ?_ _)); refine blk_put (cs := #[.string (⟨#[]⟩ : ByteArray), .string (⟨#[]⟩ : ByteArray), .string (⟨#[]⟩ : ByteArray), .slice none 0 0, .slice none 0 0]) ?_ 4 _ rfl; (with_reducible repeat (first | refine blk_drewN ?_ _ | refine blk_drew ?_ | refine blk_alloc ?_ _)); refine blk_put (cs := #[.string (⟨#[]⟩ : ByteArray), .string (⟨#[]⟩ : ByteArray), .string (⟨#[]⟩ : ByteArray), .slice none 0 0, .slice none 0 0]) ?_ 3 _ rfl; (with_reducible repeat (first | refine blk_drewN ?_ _ | refine blk_drew ?_ | refine blk_alloc ?_ _)); refine blk_put (cs := #[.string (⟨#[]⟩ : ByteArray), .string (⟨#[]⟩ : ByteArray), .string (⟨#[]⟩ : ByteArray), .slice none 0 0, .slice none 0 0]) ?_ 2 _ rfl; (with_reducible repeat (first | refine blk_drewN ?_ _ | refine blk_drew ?_ | refine blk_alloc ?_ _)); refine blk_put (cs := #[.string (⟨#[]⟩ : ByteArray), .string (⟨#[]⟩ : ByteArray), .string (⟨#[]⟩ : ByteArray), .slice none 0 0, .slice none 0 0]) ?_ 1 _ rfl; (with_reducible repeat (first | refine blk_drewN ?_ _ | refine blk_drew ?_ | refine blk_alloc ?_ _)); refine blk_put (cs := #[.string (⟨#[]⟩ : ByteArray), .string (⟨#[]⟩ : ByteArray), .string (⟨#[]⟩ : ByteArray), .slice none 0 0, .slice none 0 0]) ?_ 0 _ rfl; (with_reducible repeat (first | refine blk_drewN ?_ _ | refine blk_drew ?_ | refine blk_alloc ?_ _)); exact BK285.out) Tryz.underlying24 rfl kr_) rfl ?_
       exact ⟨_, _, by first | rfl | (simp [errW_none, errW_some] <;> rfl) | (simp only [← hji2]; first | rfl | (simp [errW_none, errW_some] <;> rfl)) | (simp [*, errW_none, errW_some] <;> rfl), by first | exact Kd.R_nil _ _ _ _ _ | exact Kd.N_nil _ _ _ _ _ | exact Kd.V_nil _ _ _ _ _ | exact Kd.Q_nil _ _ _ _ _ | exact Kd.S_nil _ _ _ _ _, by first | exact Kd.R_nil _ _ _ _ _ | exact Kd.N_nil _ _ _ _ _ | exact Kd.V_nil _ _ _ _ _ | exact Kd.Q_nil _ _ _ _ _ | exact Kd.S_nil _ _ _ _ _, bel_ HB.out⟩
      ·rw [if_neg c11] at H
       have c11b0 : decide (t286 < 0) = false := decide_eq_false c11
       clear c11
       by_cases c13 : 0 ≤ t286
       ·rw [if_pos c13] at H
        have c13b0 := eq_true c13
        have c13b1 : decide (0 ≤ t286) = true := decide_eq_true c13
        clear c13
        by_cases c14 : t286 ≤ (a0.size : Int)
        ·rw [if_pos c14] at H
         have c14b0 := eq_true c14
         have c14b1 : decide (t286 ≤ (a0.size : Int)) = true := decide_eq_true c14
         clear c14
         replace H := Option.bind_eq_some_iff.mp H
         obtain ⟨⟨t287, t288, t289, t290, t293, t296⟩, A150, H⟩ := H
         replace H : (if t296 = true then (some (t287, t288, t289, t290, t293, wrap64 (t286 + 4), 0)) else (some ((⟨#[]⟩ : ByteArray), (⟨#[]⟩ : ByteArray), (⟨#[]⟩ : ByteArray), ([] : List (S51)), ([] : List (S51)), 0, 2))) = some (r1, r2, r3, r4, r5, r6, r7) := H
         have A15 := Aside0.mk A150
         clear A150
         by_cases c16 : t296 = true
         ·subst c16
          have H1 : (some (t287, t288, t289, t290, t293, wrap64 (t286 + 4), 0)) = some (r1, r2, r3, r4, r5, r6, r7) := by rw [if_pos rfl] at H; exact H
          clear H
          have H := H1
          clear H1
          simp only [Option.some.injEq, Prod.mk.injEq] at H
          obtain ⟨rfl, rfl, rfl, rfl, rfl, rfl, rfl⟩ := H
          go_wp2_with (first | ((with_reducible refine gate_callee (f := 30) rfl ?_); refine goesL_ (some 31) rfl rfl Tryz.func30 kr_ rfl #[.string (a0.extract 0 (t286 : Int).toNat)] rfl rl_ ?_; (with_reducible refine (head_read.calls kj5 (a0.extract 0 (t286 : Int).toNat) t287 t288 t289 t290 t293 true _ (gm_ HGL.out (bel_ HB.out)) A15.out).mono ?_); rintro e w17 ⟨v291, v294, rfl, ho0, ho1, hb⟩; refine ⟨_, rfl, ?_⟩; have n0_ := am_ (Kd.R_lower ho0 (below_size (bel_ HB.out))); have n1_ := am_ (Kd.R_lower ho1 (below_size (bel_ HB.out))); have n2_ := am_ (blk_below (g := gb285) (o := .cells #[.string (⟨#[]⟩ : ByteArray), .string (⟨#[]⟩ : ByteArray), .string (⟨#[]⟩ : ByteArray), .slice none 0 0, .slice none 0 0] 24 (0, 0)) (blk_ BK285.out) hb); have n3_ := am_ (below_step (bel_ HB.out) hb); clear BK285 HB; have HO292 := n0_; have HO295 := n1_; have BK285 := n2_; have HB := n3_; clear n0_ n1_ n2_ n3_; (try clear hb); (try clear hb2); (try clear hk); (try clear hi); (try clear ho0); (try clear ho1)) | ((with_reducible refine gate_dst (N := 6) rfl ?_); (try (refine gate_guard (by rfl) ?_; dsimp only)); refine box_event ?hg (N := 6) ?hd (cs := #[.string (⟨#[]⟩ : ByteArray), .string (⟨#[]⟩ : ByteArray), .string (⟨#[]⟩ : ByteArray), .slice none 0 0, .slice none 0 0]) (t := 24) ?hr ?_; (case hd => rfl); (case hg => rfl); (case hr => first | (go_simp; done) | (go_simp; rfl)); intro gb297 hg w18 hbox hb; have n0_ := am_ (Kd.R_below (R_ HO292.out) hb); have n1_ := am_ (Kd.R_below (R_ HO295.out) hb); have n2_ := am_ (blk_below (g := gb285) (o := .cells #[.string (⟨#[]⟩ : ByteArray), .string (⟨#[]⟩ : ByteArray), .string (⟨#[]⟩ : ByteArray), .slice none 0 0, .slice none 0 0] 24 (0, 0)) (blk_ BK285.out) hb); have n3_ := am_ (below_step (bel_ HB.out) hb); have n4_ := am_ (hbox); have n5_ := am_ ((by rw [hg]; exact (below_size (bel_ HB.out)) : w.heap.size ≤ gb297)); have n6_ := am_ ((by rw [hg]; exact (below_size (bel_ HB.out)) : w.heap.size ≤ gb297)); have n7_ := am_ ((by rw [hg]; exact Nat.ne_of_lt (blk_lt (g := gb285) (o := .cells #[.string (⟨#[]⟩ : ByteArray), .string (⟨#[]⟩ : ByteArray), .string (⟨#[]⟩ : ByteArray), .slice none 0 0, .slice none 0 0] 24 (0, 0)) (blk_ BK285.out)) : gb285 ≠ gb297)); have n8_ := am_ ((by rw [hg]; exact Nat.ne_of_gt (blk_lt (g := gb285) (o := .cells #[.string (⟨#[]⟩ : ByteArray), .string (⟨#[]⟩ : ByteArray), .string (⟨#[]⟩ : ByteArray), .slice none 0 0, .slice none 0 0] 24 (0, 0)) (blk_ BK285.out)) : gb297 ≠ gb285)); clear HO292 HO295 BK285 HB; have HO292 := n0_; have HO295 := n1_; have BK285 := n2_; have HB := n3_; have BK297 := n4_; have GW297 := n5_; have GE297 := n6_; have NB285_297 := n7_; have NB297_285 := n8_; clear n0_ n1_ n2_ n3_ n4_ n5_ n6_ n7_ n8_ hb hbox hg; have hnb19 := NB297_285.out; have hnc19 := NB285_297.out; obtain ⟨hcz20_0, hcz20_1, hcz20_2, hcz20_3, hcz20_4, hfz20_0, hfz20_1, hfz20_2, hfz20_3, hfz20_4⟩ := blk5 BK297.out; obtain ⟨Ao21, co21, eo21⟩ := Kd.R_slice HO292.out; subst eo21; obtain ⟨Ao22, co22, eo22⟩ := Kd.R_slice HO295.out; subst eo22; obtain ⟨hcz23_0, hcz23_1, hcz23_2, hcz23_3, hcz23_4, hfz23_0, hfz23_1, hfz23_2, hfz23_3, hfz23_4⟩ := blk5 BK285.out))
          refine bodyPost_ret (results_ctt rfl _ _ gb285 24 #[.string t287, .string t288, .string t289, .slice Ao21 t290.length co21, .slice Ao22 t293.length co22] (0, 0) _ rfl (by (with_reducible repeat (first | refine blk_drewN ?_ _ | refine blk_drew ?_ | refine blk_alloc ?_ _)); refine blk_put (cs := #[.string t287, .string t288, .string t289, .slice Ao21 t290.length co21, .slice none 0 0]) ?_ 4 _ rfl; (with_reducible repeat (first | refine blk_drewN ?_ _ | refine blk_drew ?_ | refine blk_alloc ?_ _)); refine blk_put (cs := #[.string t287, .string t288, .string t289, .slice none 0 0, .slice none 0 0]) ?_ 3 _ rfl; (with_reducible repeat (first | refine blk_drewN ?_ _ | refine blk_drew ?_ | refine blk_alloc ?_ _)); refine blk_put (cs := #[.string t287, .string t288, .string (⟨#[]⟩ : ByteArray), .slice none 0 0, .slice none 0 0]) ?_ 2 _ rfl; (with_reducible repeat (first | refine blk_drewN ?_ _ | refine blk_drew ?_ | refine blk_alloc ?_ _)); refine blk_put (cs := #[.string t287, .string (⟨#[]⟩ : ByteArray), .string (⟨#[]⟩ : ByteArray), .slice none 0 0, .slice none 0 0]) ?_ 1 _ rfl; (with_reducible repeat (first | refine blk_drewN ?_ _ | refine blk_drew ?_ | refine blk_alloc ?_ _)); refine blk_put (cs := #[.string (⟨#[]⟩ : ByteArray), .string (⟨#[]⟩ : ByteArray), .string (⟨#[]⟩ : ByteArray), .slice none 0 0, .slice none 0 0]) ?_ 0 _ rfl; (with_reducible repeat (first | refine blk_drewN ?_ _ | refine blk_drew ?_ | refine blk_alloc ?_ _)); refine blk_far ?_ NB285_297.out _; (with_reducible repeat (first | refine blk_drewN ?_ _ | refine blk_drew ?_ | refine blk_alloc ?_ _)); refine blk_far ?_ NB285_297.out _; (with_reducible repeat (first | refine blk_drewN ?_ _ | refine blk_drew ?_ | refine blk_alloc ?_ _)); refine blk_far ?_ NB285_297.out _; (with_reducible repeat (first | refine blk_drewN ?_ _ | refine blk_drew ?_ | refine blk_alloc ?_ _)); refine blk_far ?_ NB285_297.out _; (with_reducible repeat (first | refine blk_drewN ?_ _ | refine blk_drew ?_ | refine blk_alloc ?_ _)); refine blk_far ?_ NB285_297.out _; (with_reducible repeat (first | refine blk_drewN ?_ _ | refine blk_drew ?_ | refine blk_alloc ?_ _)); exact BK285.out) Tryz.underlying24 rfl kr_) rfl ?_
          exact ⟨_, _, by first | rfl | (simp [errW_none, errW_some] <;> rfl) | (simp only [← hji2]; first | rfl | (simp [errW_none, errW_some] <;> rfl)) | (simp [*, errW_none, errW_some] <;> rfl), by (with_reducible repeat (first | apply Kd.R_alloc | apply Kd.R_drewN | apply Kd.R_drew)); exact Kd.R_mono (Kd.R_far (p := ⟨gb285, 4, none⟩) (Kd.R_far (p := ⟨gb285, 3, none⟩) (Kd.R_far (p := ⟨gb285, 2, none⟩) (Kd.R_far (p := ⟨gb285, 1, none⟩) (Kd.R_far (p := ⟨gb285, 0, none⟩) (Kd.R_far (p := ⟨gb297, 4, none⟩) (Kd.R_far (p := ⟨gb297, 3, none⟩) (Kd.R_far (p := ⟨gb297, 2, none⟩) (Kd.R_far (p := ⟨gb297, 1, none⟩) (Kd.R_far (p := ⟨gb297, 0, none⟩) (Kd.R_types (Kd.R_types HO292.out BK297.out (by decide)) BK285.out (by decide)) (fun _ hk => hk.1.2) (.string t287)) (fun _ hk => hk.1.2) (.string t288)) (fun _ hk => hk.1.2) (.string t289)) (fun _ hk => hk.1.2) (.slice Ao21 t290.length co21)) (fun _ hk => hk.1.2) (.slice Ao22 t293.length co22)) (fun _ hk => hk.2) (.string t287)) (fun _ hk => hk.2) (.string t288)) (fun _ hk => hk.2) (.string t289)) (fun _ hk => hk.2) (.slice Ao21 t290.length co21)) (fun _ hk => hk.2) (.slice Ao22 t293.length co22)) (fun _ hk => hk.1.1), by (with_reducible repeat (first | apply Kd.R_alloc | apply Kd.R_drewN | apply Kd.R_drew)); exact Kd.R_mono (Kd.R_far (p := ⟨gb285, 4, none⟩) (Kd.R_far (p := ⟨gb285, 3, none⟩) (Kd.R_far (p := ⟨gb285, 2, none⟩) (Kd.R_far (p := ⟨gb285, 1, none⟩) (Kd.R_far (p := ⟨gb285, 0, none⟩) (Kd.R_far (p := ⟨gb297, 4, none⟩) (Kd.R_far (p := ⟨gb297, 3, none⟩) (Kd.R_far (p := ⟨gb297, 2, none⟩) (Kd.R_far (p := ⟨gb297, 1, none⟩) (Kd.R_far (p := ⟨gb297, 0, none⟩) (Kd.R_types (Kd.R_types HO295.out BK297.out (by decide)) BK285.out (by decide)) (fun _ hk => hk.1.2) (.string t287)) (fun _ hk => hk.1.2) (.string t288)) (fun _ hk => hk.1.2) (.string t289)) (fun _ hk => hk.1.2) (.slice Ao21 t290.length co21)) (fun _ hk => hk.1.2) (.slice Ao22 t293.length co22)) (fun _ hk => hk.2) (.string t287)) (fun _ hk => hk.2) (.string t288)) (fun _ hk => hk.2) (.string t289)) (fun _ hk => hk.2) (.slice Ao21 t290.length co21)) (fun _ hk => hk.2) (.slice Ao22 t293.length co22)) (fun _ hk => hk.1.1), bel_ HB.out⟩
         ·replace c16 := Bool.eq_false_iff.mpr c16
          subst c16
          have H1 : (some ((⟨#[]⟩ : ByteArray), (⟨#[]⟩ : ByteArray), (⟨#[]⟩ : ByteArray), ([] : List (S51)), ([] : List (S51)), 0, 2)) = some (r1, r2, r3, r4, r5, r6, r7) := by rw [if_neg (show ¬ (false = true) by decide)] at H; exact H
          clear H
          have H := H1
          clear H1
          simp only [Option.some.injEq, Prod.mk.injEq] at H
          obtain ⟨rfl, rfl, rfl, rfl, rfl, rfl, rfl⟩ := H
          go_wp2_with (first | ((with_reducible refine gate_callee (f := 30) rfl ?_); refine goesL_ (some 31) rfl rfl Tryz.func30 kr_ rfl #[.string (a0.extract 0 (t286 : Int).toNat)] rfl rl_ ?_; (with_reducible refine (head_read.calls kj5 (a0.extract 0 (t286 : Int).toNat) t287 t288 t289 t290 t293 false _ (gm_ HGL.out (bel_ HB.out)) A15.out).mono ?_); rintro e w24 ⟨v291, v294, rfl, ho0, ho1, hb⟩; refine ⟨_, rfl, ?_⟩; have n0_ := am_ (Kd.R_lower ho0 (below_size (bel_ HB.out))); have n1_ := am_ (Kd.R_lower ho1 (below_size (bel_ HB.out))); have n2_ := am_ (blk_below (g := gb285) (o := .cells #[.string (⟨#[]⟩ : ByteArray), .string (⟨#[]⟩ : ByteArray), .string (⟨#[]⟩ : ByteArray), .slice none 0 0, .slice none 0 0] 24 (0, 0)) (blk_ BK285.out) hb); have n3_ := am_ (below_step (bel_ HB.out) hb); clear BK285 HB; have HO292 := n0_; have HO295 := n1_; have BK285 := n2_; have HB := n3_; clear n0_ n1_ n2_ n3_; (try clear hb); (try clear hb2); (try clear hk); (try clear hi); (try clear ho0); (try clear ho1)) | ((with_reducible refine gate_dst (N := 6) rfl ?_); (try (refine gate_guard (by rfl) ?_; dsimp only)); refine box_event ?hg (N := 6) ?hd (cs := #[.string (⟨#[]⟩ : ByteArray), .string (⟨#[]⟩ : ByteArray), .string (⟨#[]⟩ : ByteArray), .slice none 0 0, .slice none 0 0]) (t := 24) ?hr ?_; (case hd => rfl); (case hg => rfl); (case hr => first | (go_simp; done) | (go_simp; rfl)); intro gb297 hg w25 hbox hb; have n0_ := am_ (Kd.R_below (R_ HO292.out) hb); have n1_ := am_ (Kd.R_below (R_ HO295.out) hb); have n2_ := am_ (blk_below (g := gb285) (o := .cells #[.string (⟨#[]⟩ : ByteArray), .string (⟨#[]⟩ : ByteArray), .string (⟨#[]⟩ : ByteArray), .slice none 0 0, .slice none 0 0] 24 (0, 0)) (blk_ BK285.out) hb); have n3_ := am_ (below_step (bel_ HB.out) hb); have n4_ := am_ (hbox); have n5_ := am_ ((by rw [hg]; exact (below_size (bel_ HB.out)) : w.heap.size ≤ gb297)); have n6_ := am_ ((by rw [hg]; exact (below_size (bel_ HB.out)) : w.heap.size ≤ gb297)); have n7_ := am_ ((by rw [hg]; exact Nat.ne_of_lt (blk_lt (g := gb285) (o := .cells #[.string (⟨#[]⟩ : ByteArray), .string (⟨#[]⟩ : ByteArray), .string (⟨#[]⟩ : ByteArray), .slice none 0 0, .slice none 0 0] 24 (0, 0)) (blk_ BK285.out)) : gb285 ≠ gb297)); have n8_ := am_ ((by rw [hg]; exact Nat.ne_of_gt (blk_lt (g := gb285) (o := .cells #[.string (⟨#[]⟩ : ByteArray), .string (⟨#[]⟩ : ByteArray), .string (⟨#[]⟩ : ByteArray), .slice none 0 0, .slice none 0 0] 24 (0, 0)) (blk_ BK285.out)) : gb297 ≠ gb285)); clear HO292 HO295 BK285 HB; have HO292 := n0_; have HO295 := n1_; have BK285 := n2_; have HB := n3_; have BK297 := n4_; have GW297 := n5_; have GE297 := n6_; have NB285_297 := n7_; have NB297_285 := n8_; clear n0_ n1_ n2_ n3_ n4_ n5_ n6_ n7_ n8_ hb hbox hg; have hnb26 := NB297_285.out; have hnc26 := NB285_297.out; obtain ⟨hcz27_0, hcz27_1, hcz27_2, hcz27_3, hcz27_4, hfz27_0, hfz27_1, hfz27_2, hfz27_3, hfz27_4⟩ := blk5 BK297.out; obtain ⟨Ao28, co28, eo28⟩ := Kd.R_slice HO292.out; subst eo28; obtain ⟨Ao29, co29, eo29⟩ := Kd.R_slice HO295.out; subst eo29; obtain ⟨hcz30_0, hcz30_1, hcz30_2, hcz30_3, hcz30_4, hfz30_0, hfz30_1, hfz30_2, hfz30_3, hfz30_4⟩ := blk5 BK285.out))
          refine bodyPost_ret (results_ctt rfl _ _ gb285 24 #[.string (⟨#[]⟩ : ByteArray), .string (⟨#[]⟩ : ByteArray), .string (⟨#[]⟩ : ByteArray), .slice none 0 0, .slice none 0 0] (0, 0) _ rfl (by (with_reducible repeat (first | refine blk_drewN ?_ _ | refine blk_drew ?_ | refine blk_alloc ?_ _)); refine blk_put (cs := #[.string (⟨#[]⟩ : ByteArray), .string (⟨#[]⟩ : ByteArray), .string (⟨#[]⟩ : ByteArray), .slice none 0 0, .slice none 0 0]) ?_ 4 _ rfl; (with_reducible repeat (first | refine blk_drewN ?_ _ | refine blk_drew ?_ | refine blk_alloc ?_ _)); refine blk_put (cs := #[.string (⟨#[]⟩ : ByteArray), .string (⟨#[]⟩ : ByteArray), .string (⟨#[]⟩ : ByteArray), .slice none 0 0, .slice none 0 0]) ?_ 3 _ rfl; (with_reducible repeat (first | refine blk_drewN ?_ _ | refine blk_drew ?_ | refine blk_alloc ?_ _)); refine blk_put (cs := #[.string (⟨#[]⟩ : ByteArray), .string (⟨#[]⟩ : ByteArray), .string (⟨#[]⟩ : ByteArray), .slice none 0 0, .slice none 0 0]) ?_ 2 _ rfl; (with_reducible repeat (first | refine blk_drewN ?_ _ | refine blk_drew ?_ | refine blk_alloc ?_ _)); refine blk_put (cs := #[.string (⟨#[]⟩ : ByteArray), .string (⟨#[]⟩ : ByteArray), .string (⟨#[]⟩ : ByteArray), .slice none 0 0, .slice none 0 0]) ?_ 1 _ rfl; (with_reducible repeat (first | refine blk_drewN ?_ _ | refine blk_drew ?_ | refine blk_alloc ?_ _)); refine blk_put (cs := #[.string (⟨#[]⟩ : ByteArray), .string (⟨#[]⟩ : ByteArray), .string (⟨#[]⟩ : ByteArray), .slice none 0 0, .slice none 0 0]) ?_ 0 _ rfl; (with_reducible repeat (first | refine blk_drewN ?_ _ | refine blk_drew ?_ | refine blk_alloc ?_ _)); refine blk_far ?_ NB285_297.out _; (with_reducible repeat (first | refine blk_drewN ?_ _ | refine blk_drew ?_ | refine blk_alloc ?_ _)); refine blk_far ?_ NB285_297.out _; (with_reducible repeat (first | refine blk_drewN ?_ _ | refine blk_drew ?_ | refine blk_alloc ?_ _)); refine blk_far ?_ NB285_297.out _; (with_reducible repeat (first | refine blk_drewN ?_ _ | refine blk_drew ?_ | refine blk_alloc ?_ _)); refine blk_far ?_ NB285_297.out _; (with_reducible repeat (first | refine blk_drewN ?_ _ | refine blk_drew ?_ | refine blk_alloc ?_ _)); refine blk_far ?_ NB285_297.out _; (with_reducible repeat (first | refine blk_drewN ?_ _ | refine blk_drew ?_ | refine blk_alloc ?_ _)); exact BK285.out) Tryz.underlying24 rfl kr_) rfl ?_
          exact ⟨_, _, by first | rfl | (simp [errW_none, errW_some] <;> rfl) | (simp only [← hji2]; first | rfl | (simp [errW_none, errW_some] <;> rfl)) | (simp [*, errW_none, errW_some] <;> rfl), by first | exact Kd.R_nil _ _ _ _ _ | exact Kd.N_nil _ _ _ _ _ | exact Kd.V_nil _ _ _ _ _ | exact Kd.Q_nil _ _ _ _ _ | exact Kd.S_nil _ _ _ _ _, by first | exact Kd.R_nil _ _ _ _ _ | exact Kd.N_nil _ _ _ _ _ | exact Kd.V_nil _ _ _ _ _ | exact Kd.Q_nil _ _ _ _ _ | exact Kd.S_nil _ _ _ _ _, bel_ HB.out⟩
        ·rw [if_neg c14] at H
         exact absurd H (by simp)
       ·rw [if_neg c13] at H
        exact absurd H (by simp)
  ·rw [if_neg c4] at H
   exact absurd H (by simp)
 ·rw [if_neg c3] at H
  exact absurd H (by simp)

end Go.Proofs.YtpmllmfamjpinaaGreatDoor.P
