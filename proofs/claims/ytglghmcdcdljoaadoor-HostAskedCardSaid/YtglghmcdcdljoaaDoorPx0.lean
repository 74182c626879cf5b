-- written by wip/tool/hprint.py of this repo: the kit's print, with contracts by hand joined; Lean checks it.
import Derived.Test.YtglghmcdcdljoaaDoorProg
import Derived.Below
import Derived.Deep.Draws
import Derived.Deep.AppendLies
import Derived.Maps.AppendAt
import Derived.OwnWalk
import Derived.Laws.BytesArg
import Derived.Laws.MakeOwn
import Derived.Laws.OwnMore
import Derived.Deep.OwnRows
import Derived.Tactics
import Derived.Lib.ConvBytes
import Derived.Laws.Slices
import Derived.WalkKit
import Derived.KernelRfl
import Derived.RowKit3
import Derived.Deep.LoopGhost
import Derived.Deep.QuietTactic
import Derived.BigQuiet
import Derived.WideLaws
import Derived.Deep.DeepCutAuto
import Derived.Deep.CutBlock
import Derived.Deep.RegionHeld3
import Derived.Laws.Rows
import Derived.Lib.AppendStr
import Derived.ArgAppend
import Derived.Laws.IdiomCopy
import Derived.OrdersHeld
import Derived.Laws.BitsLemmas
import Derived.RowKit
import Derived.Laws.Externs
import Derived.Lib.SliceRun
import Derived.Shelf.Abstract
import Derived.Laws.CopyRow
import Derived.Laws.EntriesVeiled
import Derived.Lib.Overlaps
import Derived.Shelf.RegionOpenPlain
import Derived.Lib.OthersKept
import Derived.Laws.RangeAny
import Derived.Laws.Cover1
import Derived.ChangeKeysEq
import Derived.Lib.RuneCount
import Derived.Deep.RegionHeld
import Derived.RangeFuncNested
import Derived.RangeFuncBound
import Derived.RangeFuncCalls
import Derived.RangeFuncLeaves
import Derived.OwnWalkIn
import Derived.TacticsInMore
import Derived.LoopNIn
import Derived.LoopIn
import Derived.Shelf.RegionOpen
import Derived.Shelf.Strings.SlTrimAscii
import Derived.Test.YtglghmcdcdljoaaDoorWWords
import Derived.Test.YtglghmcdcdljoaaDoorWLast
import Derived.Test.YtglghmcdcdljoaaDoorWTab
import Derived.Test.YtglghmcdcdljoaaDoorWFour
import Derived.Test.YtglghmcdcdljoaaDoorWQPut
import Derived.Test.YtglghmcdcdljoaaDoorWApart
import Derived.Test.YtglghmcdcdljoaaDoorWArr
import Derived.Test.YtglghmcdcdljoaaDoorWZeros
import Derived.Test.YtglghmcdcdljoaaDoorWFoot
import Derived.Test.YtglghmcdcdljoaaDoorWKept
import Derived.Test.YtglghmcdcdljoaaDoorWShare
import Derived.Test.YtglghmcdcdljoaaDoorWN
import Derived.Test.YtglghmcdcdljoaaDoorWFootNe
import Derived.Test.YtglghmcdcdljoaaDoorWAt
import Derived.Test.YtglghmcdcdljoaaDoorWEqStruct
import Derived.Test.YtglghmcdcdljoaaDoorWRepsOne
import Derived.Test.YtglghmcdcdljoaaDoorWInv
import Derived.Test.YtglghmcdcdljoaaDoorWInvWords
import Derived.Test.YtglghmcdcdljoaaDoorWGuard
import Derived.Test.YtglghmcdcdljoaaDoorWNEv
import Derived.Test.YtglghmcdcdljoaaDoorWMore
namespace Go.Proofs.YtglghmcdcdljoaaDoor.P
open Go.RowKit Go.Proofs.YtglghmcdcdljoaaDoorW.PrintWords Go.Proofs.YtglghmcdcdljoaaDoorW.PrintLast Go.Proofs.YtglghmcdcdljoaaDoorW.PrintMore
attribute [local go_sem] max2_int min2_int max_two min_two max_three min_three max_four min_four   -- for this text's walks alone
set_option linter.unusedVariables false
set_option linter.unusedSimpArgs false



def errW : Option Int → Value
  | none => .nilIface
  | some c => .iface 0 (.int .i64 c)
theorem errW_none : errW none = .nilIface := rfl
theorem errW_some (c : Int) : errW (some c) = .iface 0 (.int .i64 c) := rfl


theorem bne_nil_isEmpty (l : List UInt8) : (l != ([] : List UInt8)) = !l.isEmpty := by cases l <;> rfl
theorem beq_nil_isEmpty (l : List UInt8) : (l == ([] : List UInt8)) = l.isEmpty := by cases l <;> rfl

theorem bt_nat (s : ByteArray) (n : Nat) : ∀ h : n < s.size, ((s[n]'h).toNat : Int) = bt s (n : Int) := fun h => bt_at s (n : Int) h
theorem wrap_sum {a b : Nat} (h : a + b ≤ 9223372036854775807) : wrap64 ((a : Int) + (b : Int)) = (a : Int) + (b : Int) := by unfold wrap64; omega
theorem getD_at {α : Type} (l : List α) (d : α) {i : Nat} (h : i < l.length) : l.getD i d = l[i]'h := by
  rw [List.getD_eq_getElem?_getD, List.getElem?_eq_getElem h, Option.getD_some]
/-- The first place at which p holds, or -1. -/
def idxI {α : Type} (p : α → Bool) (l : List α) : Int := if l.any p = true then ((l.findIdx p : Nat) : Int) else -1
theorem idxI_hit {α : Type} (p : α → Bool) (l : List α) (k : Nat) (hk : k < l.length) (h0 : ∀ j (hj : j < k), p (l[j]'(by omega)) = false) (h1 : p (l[k]'hk) = true) : idxI p l = (k : Int) := by
  unfold idxI
  rw [if_pos (List.any_eq_true.2 ⟨_, List.getElem_mem hk, h1⟩)]
  congr 1
  exact (List.findIdx_eq hk).2 ⟨h1, fun j hj => by have := h0 j hj; simpa using this⟩
theorem idxI_miss {α : Type} (p : α → Bool) (l : List α) (h0 : ∀ j (hj : j < l.length), p (l[j]'hj) = false) : idxI p l = -1 := by
  unfold idxI
  rw [if_neg]
  intro h
  obtain ⟨x, hx, hp⟩ := List.any_eq_true.1 h
  obtain ⟨j, hj, rfl⟩ := List.getElem_of_mem hx
  rw [h0 j hj] at hp
  cases hp
/-- What is asked of a predicate of a slice's elements: called in any world in which all that lay in w lies unturned it answers p, and leaves such a world. -/
def PredK {α : Type} (P : Program) (g : Nat) (lb : Array Value) (d : Kd α) (l : List α) (p : α → Bool) (w : World) : Prop :=
  ∀ (W : World) (x : α) (cs : List Value), x ∈ l → Below w.heap.size w W → d.K W x cs → Calls P g (#[.agg cs.toArray] ++ lb) W fun e w' => e = .returned (.bool (p x)) ∧ Below w.heap.size w w'
/-- What a function answers with rounds enough. -/
noncomputable def limF {β : Type} (F : Nat → Option β) : Option β := open Classical in if h : ∃ k r, F k = some r then F h.choose else none
theorem limF_some {β : Type} {F : Nat → Option β} {r : β} (h : limF F = some r) : ∃ k, F k = some r := by
  unfold limF at h
  split at h
  · exact ⟨_, h⟩
  · cases h
theorem limF_of {β : Type} {F : Nat → Option β} (hm : ∀ k r, F k = some r → F (k + 1) = some r) {k : Nat} {r : β} (h : F k = some r) : limF F = some r := by
  have up : ∀ n k r, F k = some r → F (k + n) = some r := fun n => by
    induction n with
    | zero => exact fun k r h => h
    | succ n ih => exact fun k r h => hm _ _ (ih k r h)
  have hx : ∃ k r, F k = some r := ⟨k, r, h⟩
  unfold limF
  rw [dif_pos hx]
  obtain ⟨r', hr'⟩ := hx.choose_spec
  have h1 := up hx.choose k r h
  have h2 := up k hx.choose r' hr'
  rw [Nat.add_comm, h2] at h1
  rw [hr', Option.some.inj h1]
/-! ### short names: what the print's texts ask again and again -/
/-- From one world to a later one by orders drawn and blocks made alone. -/
inductive Ups (w : World) : World → Prop
  | refl : Ups w w
  | alloc {W : World} (h : Ups w W) (o : Obj) : Ups w (W.alloc o)
  | drewN {W : World} (h : Ups w W) (n : Nat) : Ups w (W.drewN n)
  | drew {W : World} (h : Ups w W) : Ups w W.drew
theorem Ups.lies {w W : World} (h : Ups w W) : Below w.heap.size w W := by
  induction h with
  | refl => exact Below.refl _ _
  | alloc _ o ih => exact below_alloc ih o
  | drewN _ n ih => exact pw_below_drewN ih n
  | drew _ ih => exact below_drew ih
/-- The same, and cells of blocks at or behind a place written besides. -/
inductive UpB (B : Nat) (w : World) : World → Prop
  | refl : UpB B w w
  | alloc {W : World} (h : UpB B w W) (o : Obj) : UpB B w (W.alloc o)
  | drewN {W : World} (h : UpB B w W) (n : Nat) : UpB B w (W.drewN n)
  | drew {W : World} (h : UpB B w W) : UpB B w W.drew
  | set {W : World} (h : UpB B w W) {g j : Nat} {v : Value} (hg : B ≤ g) : UpB B w (W.setCell ⟨g, j, none⟩ v)
theorem bel_ {w W W' : World} (h : Below w.heap.size w W) (hu : UpB w.heap.size W W' := by repeat (first | (with_reducible first | exact UpB.refl | apply UpB.alloc | apply UpB.drewN | apply UpB.drew | refine UpB.set ?_ (Aside0.out (by assumption))) | exact UpB.refl)) : Below w.heap.size w W' := by
  induction hu with
  | refl => exact h
  | alloc _ o ih => exact below_alloc ih o
  | drewN _ n ih => exact pw_below_drewN ih n
  | drew _ ih => exact below_drew1 ih
  | set _ hg ih => exact below_set ih hg
theorem blk_ {w W : World} {g : Nat} {o : Obj} (h : w.heap[g]? = some o) (hu : Ups w W := by repeat (first | (with_reducible first | exact Ups.refl | apply Ups.drewN | apply Ups.drew | apply Ups.alloc) | exact Ups.refl)) : W.heap[g]? = some o := blk_below h hu.lies
theorem R_ {α : Type} {d : Kd α} {e : Nat} {w W : World} {base : Nat} {ok : Nat → Prop} {v : Value} {xs : List α} (h : d.R e w base ok v xs) (hu : Ups w W := by repeat (first | (with_reducible first | exact Ups.refl | apply Ups.drewN | apply Ups.drew | apply Ups.alloc) | exact Ups.refl)) : d.R e W base ok v xs := Kd.R_below h hu.lies
theorem C_ {α : Type} {d : Kd α} {w W : World} {A : Option Addr} {n : Nat} {xs : List α} (h : d.C w A n xs) (hu : Ups w W := by repeat (first | (with_reducible first | exact Ups.refl | apply Ups.drewN | apply Ups.drew | apply Ups.alloc) | exact Ups.refl)) : d.C W A n xs := Kd.C_below h hu.lies
theorem rl_ {p : Prop} (h : p := by (try simp only [List.map_toArray, List.map_cons, List.map_nil]); first | done | rfl | (simp only [List.length_drop, List.length_take]; rfl)) : p := h
theorem sd_ {p : Prop} (h : p := by first | rfl | (simp; done) | (simp [*]; done) | (simp [bne_nil_isEmpty, beq_nil_isEmpty]; done) | (simp [*, bne_nil_isEmpty, beq_nil_isEmpty]; done)) : p := h
theorem as_ {p : Prop} (h : p := by first | (with_reducible assumption) | assumption) : p := h
theorem kr_ {p : Prop} (h : p := by kernel_rfl) : p := h
theorem fi_ {p : Prop} (h : p := by first | rfl | (simp [errW_none, errW_some] <;> rfl) | (simp [*, errW_none, errW_some] <;> rfl) | (simp [bne_nil_isEmpty]; done)) : p := h
theorem sx_ {α : Type} {xs : List α} {i : Nat} {a : α} : xs.toArray.setIfInBounds i a = (xs.set i a).toArray := List.setIfInBounds_toArray ..
theorem s0_ {α : Type} {x : α} {xs : List α} {a : α} : (x :: xs).set 0 a = a :: xs := List.set_cons_zero
theorem s1_ {α : Type} {x : α} {xs : List α} {i : Nat} {a : α} : (x :: xs).set (i + 1) a = x :: xs.set i a := List.set_cons_succ
theorem am_ {p : Prop} (h : p) : Aside0 p := ⟨h⟩
theorem N_ {α : Type} {d : Kd α} {e : Nat} {w W : World} {base : Nat} {ok : Nat → Prop} {v : Value} {xs : List α} (h : d.N e w base ok v xs) (hu : Ups w W := by repeat (first | (with_reducible first | exact Ups.refl | apply Ups.drewN | apply Ups.drew | apply Ups.alloc) | exact Ups.refl)) : d.N e W base ok v xs := Kd.N_below h hu.lies

theorem info9 : (Tryd.prog.info? 9).map (fun i => (i.zero, i.size, i.bytes)) = some (some (.string ⟨#[]⟩), 1, 16) := by kernel_rfl
-- the values' own types
def rd_L7 (xs : List (List Bool)) (i : Int) : (List Bool) := xs.getD i.toNat ([] : List Bool)
theorem at_L7 {w : World} {A : Option Addr} {n : Nat} {xs : List (List Bool)} (h : Kd.C (Kd.slice 4 Kd.bool) w A n xs) (i : Int) (h0 : 0 ≤ i) (h1 : i < n) : ∃ ad A0 c0, A = some ad ∧ w.cell? (ad.add i.toNat) = some (.slice A0 (rd_L7 xs i).length c0) ∧ (rd_L7 xs i).length ≤ c0 ∧ Kd.bool.C w A0 (rd_L7 xs i).length (rd_L7 xs i) := by
  obtain ⟨ad, c, e, _, hK, hc0⟩ := Kd.C_get h ([] : List Bool) i h0 h1
  have hc : ∀ j u, c[j]? = some u → w.cell? (ad.add (i.toNat * 1 + j)) = some u := hc0
  obtain ⟨A0, c0, rfl, l0, g0⟩ := hK
  exact ⟨ad, A0, c0, e, by have hq := hc 0 _ rfl; rwa [Nat.mul_one, Nat.add_zero] at hq, l0, g0⟩

end Go.Proofs.YtglghmcdcdljoaaDoor.P
