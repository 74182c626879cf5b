-- written by wip/tool/hprint.py of this repo: the kit's print, with contracts by hand joined; Lean checks it.
import Derived.Test.YtglghmcdcdljoaaProg
import Derived.Below
import Derived.Deep.Draws
import Derived.Deep.AppendLies
import Derived.Maps.AppendAt
import Derived.OwnWalk
import Derived.Laws.BytesArg
import Derived.Laws.MakeOwn
import Derived.Laws.OwnMore
import Derived.Deep.OwnRows
import Derived.Tactics
import Derived.Lib.ConvBytes
import Derived.Laws.Slices
import Derived.WalkKit
import Derived.KernelRfl
import Derived.RowKit3
import Derived.Deep.LoopGhost
import Derived.Deep.QuietTactic
import Derived.BigQuiet
import Derived.WideLaws
import Derived.Deep.DeepCutAuto
import Derived.Deep.CutBlock
import Derived.Deep.RegionHeld3
import Derived.Laws.Rows
import Derived.Lib.AppendStr
import Derived.ArgAppend
import Derived.Laws.IdiomCopy
import Derived.OrdersHeld
import Derived.Laws.BitsLemmas
import Derived.RowKit
import Derived.Laws.Externs
import Derived.Lib.SliceRun
import Derived.Shelf.Abstract
import Derived.Laws.CopyRow
import Derived.Laws.EntriesVeiled
import Derived.Lib.Overlaps
import Derived.Shelf.RegionOpenPlain
import Derived.Lib.OthersKept
import Derived.Laws.RangeAny
import Derived.Laws.Cover1
import Derived.ChangeKeysEq
import Derived.Lib.RuneCount
import Derived.Test.YtglghmcdcdljoaaWWords
import Derived.Test.YtglghmcdcdljoaaWLast
import Derived.Test.YtglghmcdcdljoaaWTab
import Derived.Test.YtglghmcdcdljoaaWFour
import Derived.Test.YtglghmcdcdljoaaWQPut
import Derived.Test.YtglghmcdcdljoaaWApart
import Derived.Test.YtglghmcdcdljoaaWArr
import Derived.Test.YtglghmcdcdljoaaWZeros
import Derived.Test.YtglghmcdcdljoaaWFoot
import Derived.Test.YtglghmcdcdljoaaWKept
import Derived.Test.YtglghmcdcdljoaaWShare
import Derived.Test.YtglghmcdcdljoaaWN
import Derived.Test.YtglghmcdcdljoaaWFootNe
import Derived.Test.YtglghmcdcdljoaaWAt
import Derived.Test.YtglghmcdcdljoaaWEqStruct
import Derived.Test.YtglghmcdcdljoaaWRepsOne
import Derived.Test.YtglghmcdcdljoaaWInv
import Derived.Test.YtglghmcdcdljoaaWInvWords
import Derived.Test.YtglghmcdcdljoaaWGuard
import Derived.Test.YtglghmcdcdljoaaWNEv
import Derived.Test.YtglghmcdcdljoaaWMore
namespace Go.Proofs.Ytglghmcdcdljoaa.P
open Go.RowKit Go.Proofs.YtglghmcdcdljoaaW.PrintWords Go.Proofs.YtglghmcdcdljoaaW.PrintLast Go.Proofs.YtglghmcdcdljoaaW.PrintMore
attribute [local go_sem] max2_int min2_int max_two min_two max_three min_three max_four min_four   -- for this text's walks alone
set_option linter.unusedVariables false
set_option linter.unusedSimpArgs false



def errW : Option Int → Value
  | none => .nilIface
  | some c => .iface 0 (.int .i64 c)
theorem errW_none : errW none = .nilIface := rfl
theorem errW_some (c : Int) : errW (some c) = .iface 0 (.int .i64 c) := rfl


theorem bne_nil_isEmpty (l : List UInt8) : (l != ([] : List UInt8)) = !l.isEmpty := by cases l <;> rfl
theorem beq_nil_isEmpty (l : List UInt8) : (l == ([] : List UInt8)) = l.isEmpty := by cases l <;> rfl

theorem bt_nat (s : ByteArray) (n : Nat) : ∀ h : n < s.size, ((s[n]'h).toNat : Int) = bt s (n : Int) := fun h => bt_at s (n : Int) h
theorem wrap_sum {a b : Nat} (h : a + b ≤ 9223372036854775807) : wrap64 ((a : Int) + (b : Int)) = (a : Int) + (b : Int) := by unfold wrap64; omega
theorem getD_at {α : Type} (l : List α) (d : α) {i : Nat} (h : i < l.length) : l.getD i d = l[i]'h := by
  rw [List.getD_eq_getElem?_getD, List.getElem?_eq_getElem h, Option.getD_some]
/-- The first place at which p holds, or -1. -/
def idxI {α : Type} (p : α → Bool) (l : List α) : Int := if l.any p = true then ((l.findIdx p : Nat) : Int) else -1
theorem idxI_hit {α : Type} (p : α → Bool) (l : List α) (k : Nat) (hk : k < l.length) (h0 : ∀ j (hj : j < k), p (l[j]'(by omega)) = false) (h1 : p (l[k]'hk) = true) : idxI p l = (k : Int) := by
  unfold idxI
  rw [if_pos (List.any_eq_true.2 ⟨_, List.getElem_mem hk, h1⟩)]
  congr 1
  exact (List.findIdx_eq hk).2 ⟨h1, fun j hj => by have := h0 j hj; simpa using this⟩
theorem idxI_miss {α : Type} (p : α → Bool) (l : List α) (h0 : ∀ j (hj : j < l.length), p (l[j]'hj) = false) : idxI p l = -1 := by
  unfold idxI
  rw [if_neg]
  intro h
  obtain ⟨x, hx, hp⟩ := List.any_eq_true.1 h
  obtain ⟨j, hj, rfl⟩ := List.getElem_of_mem hx
  rw [h0 j hj] at hp
  cases hp
/-- What is asked of a predicate of a slice's elements: called in any world in which all that lay in w lies unturned it answers p, and leaves such a world. -/
def PredK {α : Type} (P : Program) (g : Nat) (lb : Array Value) (d : Kd α) (l : List α) (p : α → Bool) (w : World) : Prop :=
  ∀ (W : World) (x : α) (cs : List Value), x ∈ l → Below w.heap.size w W → d.K W x cs → Calls P g (#[.agg cs.toArray] ++ lb) W fun e w' => e = .returned (.bool (p x)) ∧ Below w.heap.size w w'
/-- What a function answers with rounds enough. -/
noncomputable def limF {β : Type} (F : Nat → Option β) : Option β := open Classical in if h : ∃ k r, F k = some r then F h.choose else none
theorem limF_some {β : Type} {F : Nat → Option β} {r : β} (h : limF F = some r) : ∃ k, F k = some r := by
  unfold limF at h
  split at h
  · exact ⟨_, h⟩
  · cases h
theorem limF_of {β : Type} {F : Nat → Option β} (hm : ∀ k r, F k = some r → F (k + 1) = some r) {k : Nat} {r : β} (h : F k = some r) : limF F = some r := by
  have up : ∀ n k r, F k = some r → F (k + n) = some r := fun n => by
    induction n with
    | zero => exact fun k r h => h
    | succ n ih => exact fun k r h => hm _ _ (ih k r h)
  have hx : ∃ k r, F k = some r := ⟨k, r, h⟩
  unfold limF
  rw [dif_pos hx]
  obtain ⟨r', hr'⟩ := hx.choose_spec
  have h1 := up hx.choose k r h
  have h2 := up k hx.choose r' hr'
  rw [Nat.add_comm, h2] at h1
  rw [hr', Option.some.inj h1]
/-! ### short names: what the print's texts ask again and again -/
/-- From one world to a later one by orders drawn and blocks made alone. -/
inductive Ups (w : World) : World → Prop
  | refl : Ups w w
  | alloc {W : World} (h : Ups w W) (o : Obj) : Ups w (W.alloc o)
  | drewN {W : World} (h : Ups w W) (n : Nat) : Ups w (W.drewN n)
  | drew {W : World} (h : Ups w W) : Ups w W.drew
theorem Ups.lies {w W : World} (h : Ups w W) : Below w.heap.size w W := by
  induction h with
  | refl => exact Below.refl _ _
  | alloc _ o ih => exact below_alloc ih o
  | drewN _ n ih => exact pw_below_drewN ih n
  | drew _ ih => exact below_drew ih
/-- The same, and cells of blocks at or behind a place written besides. -/
inductive UpB (B : Nat) (w : World) : World → Prop
  | refl : UpB B w w
  | alloc {W : World} (h : UpB B w W) (o : Obj) : UpB B w (W.alloc o)
  | drewN {W : World} (h : UpB B w W) (n : Nat) : UpB B w (W.drewN n)
  | drew {W : World} (h : UpB B w W) : UpB B w W.drew
  | set {W : World} (h : UpB B w W) {g j : Nat} {v : Value} (hg : B ≤ g) : UpB B w (W.setCell ⟨g, j, none⟩ v)
theorem bel_ {w W W' : World} (h : Below w.heap.size w W) (hu : UpB w.heap.size W W' := by repeat (first | (with_reducible first | exact UpB.refl | apply UpB.alloc | apply UpB.drewN | apply UpB.drew | refine UpB.set ?_ (Aside0.out (by assumption))) | exact UpB.refl)) : Below w.heap.size w W' := by
  induction hu with
  | refl => exact h
  | alloc _ o ih => exact below_alloc ih o
  | drewN _ n ih => exact pw_below_drewN ih n
  | drew _ ih => exact below_drew1 ih
  | set _ hg ih => exact below_set ih hg
theorem blk_ {w W : World} {g : Nat} {o : Obj} (h : w.heap[g]? = some o) (hu : Ups w W := by repeat (first | (with_reducible first | exact Ups.refl | apply Ups.drewN | apply Ups.drew | apply Ups.alloc) | exact Ups.refl)) : W.heap[g]? = some o := blk_below h hu.lies
theorem R_ {α : Type} {d : Kd α} {e : Nat} {w W : World} {base : Nat} {ok : Nat → Prop} {v : Value} {xs : List α} (h : d.R e w base ok v xs) (hu : Ups w W := by repeat (first | (with_reducible first | exact Ups.refl | apply Ups.drewN | apply Ups.drew | apply Ups.alloc) | exact Ups.refl)) : d.R e W base ok v xs := Kd.R_below h hu.lies
theorem C_ {α : Type} {d : Kd α} {w W : World} {A : Option Addr} {n : Nat} {xs : List α} (h : d.C w A n xs) (hu : Ups w W := by repeat (first | (with_reducible first | exact Ups.refl | apply Ups.drewN | apply Ups.drew | apply Ups.alloc) | exact Ups.refl)) : d.C W A n xs := Kd.C_below h hu.lies
theorem rl_ {p : Prop} (h : p := by (try simp only [List.map_toArray, List.map_cons, List.map_nil]); first | done | rfl | (simp only [List.length_drop, List.length_take]; rfl)) : p := h
theorem sd_ {p : Prop} (h : p := by first | rfl | (simp; done) | (simp [*]; done) | (simp [bne_nil_isEmpty, beq_nil_isEmpty]; done) | (simp [*, bne_nil_isEmpty, beq_nil_isEmpty]; done)) : p := h
theorem as_ {p : Prop} (h : p := by first | (with_reducible assumption) | assumption) : p := h
theorem kr_ {p : Prop} (h : p := by kernel_rfl) : p := h
theorem fi_ {p : Prop} (h : p := by first | rfl | (simp [errW_none, errW_some] <;> rfl) | (simp [*, errW_none, errW_some] <;> rfl) | (simp [bne_nil_isEmpty]; done)) : p := h
theorem sx_ {α : Type} {xs : List α} {i : Nat} {a : α} : xs.toArray.setIfInBounds i a = (xs.set i a).toArray := List.setIfInBounds_toArray ..
theorem s0_ {α : Type} {x : α} {xs : List α} {a : α} : (x :: xs).set 0 a = a :: xs := List.set_cons_zero
theorem s1_ {α : Type} {x : α} {xs : List α} {i : Nat} {a : α} : (x :: xs).set (i + 1) a = x :: xs.set i a := List.set_cons_succ
theorem am_ {p : Prop} (h : p) : Aside0 p := ⟨h⟩
theorem N_ {α : Type} {d : Kd α} {e : Nat} {w W : World} {base : Nat} {ok : Nat → Prop} {v : Value} {xs : List α} (h : d.N e w base ok v xs) (hu : Ups w W := by repeat (first | (with_reducible first | exact Ups.refl | apply Ups.drewN | apply Ups.drew | apply Ups.alloc) | exact Ups.refl)) : d.N e W base ok v xs := Kd.N_below h hu.lies

-- PRESS'S WORDS
/-! ### short names, more of them: what press.py puts in long rows' place -/
theorem bnd_ {α β : Type} {x : Option α} {f : α → Option β} {r : β} (h : x.bind f = some r) : ∃ a, Aside0 (x = some a) ∧ f a = some r := by
  obtain ⟨a, h1, h2⟩ := Option.bind_eq_some_iff.mp h
  exact ⟨a, ⟨h1⟩, h2⟩
theorem ift_ {α : Type} {i : Decidable (true = true)} {a b r : α} (h : @ite α (true = true) i a b = r) : a = r := by rwa [if_pos rfl] at h
theorem iff_ {α : Type} {i : Decidable (false = true)} {a b r : α} (h : @ite α (false = true) i a b = r) : b = r := by rwa [if_neg (fun h => by cases h)] at h
theorem eqb_ {α : Type} [BEq α] [LawfulBEq α] {a b : α} (h : a = b) : (a == b) = true := beq_iff_eq.mpr h
theorem neb_ {α : Type} [BEq α] [LawfulBEq α] {a b : α} (h : a = b) : (a != b) = false := bne_eq_false_iff_eq.mpr h
theorem le_ {p : Prop} (h : p := by first | omega | exact Nat.le_refl _) : p := h
theorem bs_ {w W0 W w1 : World} (h : Aside0 (Below w.heap.size w W0)) (hb : Below W.heap.size W w1) (hu : UpB w.heap.size W0 W := by repeat (first | (with_reducible first | exact UpB.refl | apply UpB.alloc | apply UpB.drewN | apply UpB.drew | refine UpB.set ?_ (Aside0.out (by assumption))) | exact UpB.refl)) : Aside0 (Below w.heap.size w w1) := ⟨below_step (bel_ h.out hu) hb⟩
theorem sz_ {w W0 W : World} {g : Nat} (h : Aside0 (Below w.heap.size w W0)) (hg : g = W.heap.size) (hu : UpB w.heap.size W0 W := by repeat (first | (with_reducible first | exact UpB.refl | apply UpB.alloc | apply UpB.drewN | apply UpB.drew | refine UpB.set ?_ (Aside0.out (by assumption))) | exact UpB.refl)) : Aside0 (w.heap.size ≤ g) := ⟨by rw [hg]; exact below_size (bel_ h.out hu)⟩
theorem bb_ {w W w1 : World} {g : Nat} {o : Obj} (h : Aside0 (w.heap[g]? = some o)) (hb : Below W.heap.size W w1) (hu : Ups w W := by repeat (first | (with_reducible first | exact Ups.refl | apply Ups.drewN | apply Ups.drew | apply Ups.alloc) | exact Ups.refl)) : Aside0 (w1.heap[g]? = some o) := ⟨blk_below (blk_ h.out hu) hb⟩
theorem nl_ {w W : World} {g g' : Nat} {o : Obj} (h : Aside0 (w.heap[g]? = some o)) (hg : g' = W.heap.size) (hu : Ups w W := by repeat (first | (with_reducible first | exact Ups.refl | apply Ups.drewN | apply Ups.drew | apply Ups.alloc) | exact Ups.refl)) : Aside0 (g ≠ g') := ⟨by rw [hg]; exact Nat.ne_of_lt (blk_lt (blk_ h.out hu))⟩
theorem nr_ {w W : World} {g g' : Nat} {o : Obj} (h : Aside0 (w.heap[g]? = some o)) (hg : g' = W.heap.size) (hu : Ups w W := by repeat (first | (with_reducible first | exact Ups.refl | apply Ups.drewN | apply Ups.drew | apply Ups.alloc) | exact Ups.refl)) : Aside0 (g' ≠ g) := ⟨by rw [hg]; exact Nat.ne_of_gt (blk_lt (blk_ h.out hu))⟩
theorem rb_ {α : Type} {d : Kd α} {e : Nat} {w W w1 : World} {base : Nat} {ok : Nat → Prop} {v : Value} {xs : List α} (h : Aside0 (d.R e w base ok v xs)) (hb : Below W.heap.size W w1) (hu : Ups w W := by repeat (first | (with_reducible first | exact Ups.refl | apply Ups.drewN | apply Ups.drew | apply Ups.alloc) | exact Ups.refl)) : Aside0 (d.R e w1 base ok v xs) := ⟨Kd.R_below (R_ h.out hu) hb⟩
theorem pur_ {P : Program} {ops : Array Oper} {Q : Exit → Act → World → Prop} {S : World → Prop} {ds : List Nat} {T : Bool × List (List Nat × List Nat)} {md : Region.Mode} {i : Nat} {N : Option Tmp} {oi : Oper} {v : Value} {fuel : Nat} {l : Array Bool} {a : Act} {w : World} (hi : ops[i]? = some oi) (hN : oi.dst = N) (hT : Aside0 (rtab md ops = T)) (hQ : ∀ c a w, Q (.panic c) (a.put oi.dst v) w → Q (.panic c) a w) (hy : Yields P ops oi v a) {a' : Act} (ha : a.put N v = a') (h : wpAnyLast P md ops Q S ds fuel (l.setIfInBounds i true) a' w) (hb : anyT T l.toList (l.setIfInBounds i true).toList i = true := by kernel_rfl) : wpAnyLast P md ops Q S ds (fuel + 1) l a w := pure_ _ hi hN (any_of hT.out hb) hQ hy ha h
theorem ono_ {P : Program} {ops : Array Oper} {Q : Exit → Act → World → Prop} {S : World → Prop} {ds : List Nat} {T : Bool × List (List Nat × List Nat)} {md : Region.Mode} {i : Nat} {N : Option Tmp} {oi : Oper} {fuel : Nat} {l : Array Bool} {a : Act} {w : World} (hi : ops[i]? = some oi) (hN : oi.dst = N) (hT : Aside0 (rtab md ops = T)) (hd : i ∉ ds) (h : ∀ K : Act → World → Prop, Shut (∀ a' w', S w' → (S w' → wpAnyLast P md ops Q S ds fuel (l.setIfInBounds i true) a' w') → K a' w') → if Region.wanted oi (yielded ops a.tmps) = true then Oper.wp P oi a w K Q else K (a.put N undef) w) (hb : (readyT T.2 l.toList == [i] && l.toList.set i true == (l.setIfInBounds i true).toList) = true := by kernel_rfl) : wpAnyLast P md ops Q S ds (fuel + 1) l a w := one_ _ hi hN (one_of hT.out hb) hd h
theorem tak_ {P : Program} {ops : Array Oper} {Q : Exit → Act → World → Prop} {S : World → Prop} {ds : List Nat} {T : Bool × List (List Nat × List Nat)} {B : List Nat} {md : Region.Mode} {i : Nat} {N : Option Tmp} {oi : Oper} {v : Value} {fuel : Nat} {l : Array Bool} {a : Act} {w : World} (hi : ops[i]? = some oi) (hN : oi.dst = N) (hT : Aside0 (rtab md ops = T)) (hW : Aside0 (waitsOk T.2 B = true)) (hQ : ∀ c a w, Q (.panic c) (a.put oi.dst v) w → Q (.panic c) a w) (hy : YieldsIf P ops S oi v a) (hS : S w) {a' : Act} (ha : a.put N v = a') (h : wpAnyLast P md ops Q S ds fuel (l.setIfInBounds i true) a' w) (hb : takeW T B ds l.toList (l.setIfInBounds i true).toList i = true := by kernel_rfl) : wpAnyLast P md ops Q S ds (fuel + 1) l a w := take_ _ hi hN (take_ofW hT.out hW.out hb) hQ hy hS ha h
/-- From one world to a later one: besides, cells of two blocks written. -/
inductive UpG2 (g g' : Nat) (w : World) : World → Prop
  | refl : UpG2 g g' w w
  | alloc {W : World} (h : UpG2 g g' w W) (o : Obj) : UpG2 g g' w (W.alloc o)
  | drewN {W : World} (h : UpG2 g g' w W) (n : Nat) : UpG2 g g' w (W.drewN n)
  | drew {W : World} (h : UpG2 g g' w W) : UpG2 g g' w W.drew
  | set1 {W : World} (h : UpG2 g g' w W) {j : Nat} {v : Value} : UpG2 g g' w (W.setCell ⟨g, j, none⟩ v)
  | set2 {W : World} (h : UpG2 g g' w W) {j : Nat} {v : Value} : UpG2 g g' w (W.setCell ⟨g', j, none⟩ v)
theorem Rf2_ {α : Type} {d : Kd α} {e : Nat} {w W : World} {base : Nat} {ok : Nat → Prop} {v : Value} {xs : List α} {g g' : Nat} (h : d.R e w base ok v xs) (hok : ∀ k, ok k → k ≠ g) (hok' : ∀ k, ok k → k ≠ g') (hu : UpG2 g g' w W := by repeat (first | (with_reducible first | exact UpG2.refl | apply UpG2.set1 | apply UpG2.set2 | apply UpG2.drewN | apply UpG2.drew | apply UpG2.alloc) | exact UpG2.refl)) : d.R e W base ok v xs := by
  induction hu with
  | refl => exact h
  | alloc _ o ih => exact Kd.R_alloc ih o
  | drewN _ n ih => exact Kd.R_drewN ih n
  | drew _ ih => exact Kd.R_drew ih
  | @set1 W' _ j v' ih => exact Kd.R_far (p := ⟨g, j, none⟩) ih hok v'
  | @set2 W' _ j v' ih => exact Kd.R_far (p := ⟨g', j, none⟩) ih hok' v'
-- END
theorem info24 : (Try.prog.info? 24).map (fun i => (i.zero, i.size, i.bytes)) = some (some (.agg #[(.string ⟨#[]⟩), (.string ⟨#[]⟩)]), 2, 32) := by kernel_rfl
-- the values' own types
/-! #### struct type 24 -/
structure S24 where
  f0 : ByteArray
  f1 : ByteArray
def z24 : S24 := ⟨(⟨#[]⟩ : ByteArray), (⟨#[]⟩ : ByteArray)⟩
def k24 : Kd S24 := Kd.iso (Kd.pair Kd.string Kd.string) (fun x : S24 => (x.f0, x.f1))
theorem k24_open {w : World} {x : S24} {cs : List Value} (h : k24.K w x cs) : cs = [.string x.f0, .string x.f1] := by
  obtain ⟨_, _, rfl, rfl, rfl⟩ := h
  exact rfl
theorem k24_openM {w : World} {base : Nat} {ok : Nat → Prop} {x : S24} {cs : List Value} (h : k24.M w base ok x cs) : cs = [.string x.f0, .string x.f1] := by
  obtain ⟨_, _, rfl, rfl, rfl⟩ := h
  exact rfl
theorem k24_mk (w : World) (x : S24)  : k24.K w x [.string x.f0, .string x.f1] := ⟨[.string x.f0], [.string x.f1], rfl, rfl, rfl⟩
theorem k24_mkM (w : World) (base : Nat) (ok : Nat → Prop) (x : S24)  : k24.M w base ok x [.string x.f0, .string x.f1] := ⟨[.string x.f0], [.string x.f1], rfl, rfl, rfl⟩
def rd_T24 (xs : List S24) (i : Int) : S24 := xs.getD i.toNat z24
theorem at_T24 {w : World} {A : Option Addr} {n : Nat} {xs : List S24} (h : Kd.C k24 w A n xs) (i : Int) (h0 : 0 ≤ i) (h1 : i < n) : ∃ ad , A = some ad ∧ w.cell? (ad.add (i.toNat * 2)) = some (.string (rd_T24 xs i).f0) ∧ w.cell? ⟨(ad.add (i.toNat * 2)).block, (ad.add (i.toNat * 2)).off + 1, none⟩ = some (.string (rd_T24 xs i).f1) := by
  obtain ⟨ad, c, e, _, hK, hc0⟩ := Kd.C_get h z24 i h0 h1
  have hc : ∀ j u, c[j]? = some u → w.cell? (ad.add (i.toNat * 2 + j)) = some u := hc0
  obtain rfl := k24_open hK
  exact ⟨ad, e, hc 0 _ rfl, by rw [← add_field _ _ 1 (by omega)]; exact hc 1 _ rfl⟩

def rd_L2 (xs : List (List S24)) (i : Int) : (List S24) := xs.getD i.toNat ([] : List S24)
theorem at_L2 {w : World} {A : Option Addr} {n : Nat} {xs : List (List S24)} (h : Kd.C (Kd.slice 24 k24) w A n xs) (i : Int) (h0 : 0 ≤ i) (h1 : i < n) : ∃ ad A0 c0, A = some ad ∧ w.cell? (ad.add i.toNat) = some (.slice A0 (rd_L2 xs i).length c0) ∧ (rd_L2 xs i).length ≤ c0 ∧ k24.C w A0 (rd_L2 xs i).length (rd_L2 xs i) := by
  obtain ⟨ad, c, e, _, hK, hc0⟩ := Kd.C_get h ([] : List S24) i h0 h1
  have hc : ∀ j u, c[j]? = some u → w.cell? (ad.add (i.toNat * 1 + j)) = some u := hc0
  obtain ⟨A0, c0, rfl, l0, g0⟩ := hK
  exact ⟨ad, A0, c0, e, by have hq := hc 0 _ rfl; rwa [Nat.mul_one, Nat.add_zero] at hq, l0, g0⟩

end Go.Proofs.Ytglghmcdcdljoaa.P
