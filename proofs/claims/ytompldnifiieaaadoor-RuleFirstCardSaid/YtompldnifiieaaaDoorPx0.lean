-- written by wip/tool/hprint.py of this repo: the kit's print, with contracts by hand joined; Lean checks it.
import Derived.Test.YtompldnifiieaaaDoorProg
import Derived.Below
import Derived.Deep.Draws
import Derived.Deep.AppendLies
import Derived.Maps.AppendAt
import Derived.OwnWalk
import Derived.Laws.BytesArg
import Derived.Laws.MakeOwn
import Derived.Laws.OwnMore
import Derived.Deep.OwnRows
import Derived.Tactics
import Derived.Lib.ConvBytes
import Derived.Laws.Slices
import Derived.WalkKit
import Derived.KernelRfl
import Derived.RowKit3
import Derived.Deep.LoopGhost
import Derived.Deep.QuietTactic
import Derived.BigQuiet
import Derived.WideLaws
import Derived.Deep.DeepCutAuto
import Derived.Deep.CutBlock
import Derived.Deep.RegionHeld3
import Derived.Laws.Rows
import Derived.Lib.AppendStr
import Derived.ArgAppend
import Derived.Laws.IdiomCopy
import Derived.OrdersHeld
import Derived.Laws.BitsLemmas
import Derived.RowKit
import Derived.Laws.Externs
import Derived.Lib.SliceRun
import Derived.Shelf.Abstract
import Derived.Laws.CopyRow
import Derived.Laws.EntriesVeiled
import Derived.Lib.Overlaps
import Derived.Shelf.RegionOpenPlain
import Derived.Lib.OthersKept
import Derived.Laws.RangeAny
import Derived.Laws.Cover1
import Derived.ChangeKeysEq
import Derived.Lib.RuneCount
import Derived.Test.YtompldnifiieaaaDoorWWords
import Derived.Test.YtompldnifiieaaaDoorWLast
import Derived.Test.YtompldnifiieaaaDoorWTab
import Derived.Test.YtompldnifiieaaaDoorWFour
import Derived.Test.YtompldnifiieaaaDoorWQPut
import Derived.Test.YtompldnifiieaaaDoorWApart
import Derived.Test.YtompldnifiieaaaDoorWArr
import Derived.Test.YtompldnifiieaaaDoorWZeros
import Derived.Test.YtompldnifiieaaaDoorWFoot
import Derived.Test.YtompldnifiieaaaDoorWKept
import Derived.Test.YtompldnifiieaaaDoorWShare
import Derived.Test.YtompldnifiieaaaDoorWN
import Derived.Test.YtompldnifiieaaaDoorWFootNe
import Derived.Test.YtompldnifiieaaaDoorWAt
import Derived.Test.YtompldnifiieaaaDoorWEqStruct
import Derived.Test.YtompldnifiieaaaDoorWRepsOne
import Derived.Test.YtompldnifiieaaaDoorWInv
import Derived.Test.YtompldnifiieaaaDoorWInvWords
import Derived.Test.YtompldnifiieaaaDoorWGuard
import Derived.Test.YtompldnifiieaaaDoorWNEv
import Derived.Test.YtompldnifiieaaaDoorWMore
namespace Go.Proofs.YtompldnifiieaaaDoor.P
open Go.RowKit Go.Proofs.YtompldnifiieaaaDoorW.PrintWords Go.Proofs.YtompldnifiieaaaDoorW.PrintLast Go.Proofs.YtompldnifiieaaaDoorW.PrintMore
attribute [local go_sem] max2_int min2_int max_two min_two max_three min_three max_four min_four   -- for this text's walks alone
set_option linter.unusedVariables false
set_option linter.unusedSimpArgs false



noncomputable def errW : Option Int → Value
  | none => .nilIface
  | some c => .iface 0 (.int .i64 c)
theorem errW_none : errW none = .nilIface := rfl
theorem errW_some (c : Int) : errW (some c) = .iface 0 (.int .i64 c) := rfl


theorem bne_nil_isEmpty (l : List UInt8) : (l != ([] : List UInt8)) = !l.isEmpty := by cases l <;> rfl
theorem beq_nil_isEmpty (l : List UInt8) : (l == ([] : List UInt8)) = l.isEmpty := by cases l <;> rfl

theorem bt_nat (s : ByteArray) (n : Nat) : ∀ h : n < s.size, ((s[n]'h).toNat : Int) = bt s (n : Int) := fun h => bt_at s (n : Int) h
theorem wrap_sum {a b : Nat} (h : a + b ≤ 9223372036854775807) : wrap64 ((a : Int) + (b : Int)) = (a : Int) + (b : Int) := by unfold wrap64; omega
theorem getD_at {α : Type} (l : List α) (d : α) {i : Nat} (h : i < l.length) : l.getD i d = l[i]'h := by
  rw [List.getD_eq_getElem?_getD, List.getElem?_eq_getElem h, Option.getD_some]
/-- The first place at which p holds, or -1. -/
noncomputable def idxI {α : Type} (p : α → Bool) (l : List α) : Int := if l.any p = true then ((l.findIdx p : Nat) : Int) else -1
theorem idxI_hit {α : Type} (p : α → Bool) (l : List α) (k : Nat) (hk : k < l.length) (h0 : ∀ j (hj : j < k), p (l[j]'(by omega)) = false) (h1 : p (l[k]'hk) = true) : idxI p l = (k : Int) := by
  unfold idxI
  rw [if_pos (List.any_eq_true.2 ⟨_, List.getElem_mem hk, h1⟩)]
  congr 1
  exact (List.findIdx_eq hk).2 ⟨h1, fun j hj => by have := h0 j hj; simpa using this⟩
theorem idxI_miss {α : Type} (p : α → Bool) (l : List α) (h0 : ∀ j (hj : j < l.length), p (l[j]'hj) = false) : idxI p l = -1 := by
  unfold idxI
  rw [if_neg]
  intro h
  obtain ⟨x, hx, hp⟩ := List.any_eq_true.1 h
  obtain ⟨j, hj, rfl⟩ := List.getElem_of_mem hx
  rw [h0 j hj] at hp
  cases hp
/-- What is asked of a predicate of a slice's elements: called in any world in which all that lay in w lies unturned it answers p, and leaves such a world. -/
noncomputable def PredK {α : Type} (P : Program) (g : Nat) (lb : Array Value) (d : Kd α) (l : List α) (p : α → Bool) (w : World) : Prop :=
  ∀ (W : World) (x : α) (cs : List Value), x ∈ l → Below w.heap.size w W → d.K W x cs → Calls P g (#[.agg cs.toArray] ++ lb) W fun e w' => e = .returned (.bool (p x)) ∧ Below w.heap.size w w'
/-- What a function answers with rounds enough. -/
noncomputable def limF {β : Type} (F : Nat → Option β) : Option β := open Classical in if h : ∃ k r, F k = some r then F h.choose else none
theorem limF_some {β : Type} {F : Nat → Option β} {r : β} (h : limF F = some r) : ∃ k, F k = some r := by
  unfold limF at h
  split at h
  · exact ⟨_, h⟩
  · cases h
theorem limF_of {β : Type} {F : Nat → Option β} (hm : ∀ k r, F k = some r → F (k + 1) = some r) {k : Nat} {r : β} (h : F k = some r) : limF F = some r := by
  have up : ∀ n k r, F k = some r → F (k + n) = some r := fun n => by
    induction n with
    | zero => exact fun k r h => h
    | succ n ih => exact fun k r h => hm _ _ (ih k r h)
  have hx : ∃ k r, F k = some r := ⟨k, r, h⟩
  unfold limF
  rw [dif_pos hx]
  obtain ⟨r', hr'⟩ := hx.choose_spec
  have h1 := up hx.choose k r h
  have h2 := up k hx.choose r' hr'
  rw [Nat.add_comm, h2] at h1
  rw [hr', Option.some.inj h1]
/-! ### short names: what the print's texts ask again and again -/
/-- From one world to a later one by orders drawn and blocks made alone. -/
inductive Ups (w : World) : World → Prop
  | refl : Ups w w
  | alloc {W : World} (h : Ups w W) (o : Obj) : Ups w (W.alloc o)
  | drewN {W : World} (h : Ups w W) (n : Nat) : Ups w (W.drewN n)
  | drew {W : World} (h : Ups w W) : Ups w W.drew
theorem Ups.lies {w W : World} (h : Ups w W) : Below w.heap.size w W := by
  induction h with
  | refl => exact Below.refl _ _
  | alloc _ o ih => exact below_alloc ih o
  | drewN _ n ih => exact pw_below_drewN ih n
  | drew _ ih => exact below_drew ih
/-- The same, and cells of blocks at or behind a place written besides. -/
inductive UpB (B : Nat) (w : World) : World → Prop
  | refl : UpB B w w
  | alloc {W : World} (h : UpB B w W) (o : Obj) : UpB B w (W.alloc o)
  | drewN {W : World} (h : UpB B w W) (n : Nat) : UpB B w (W.drewN n)
  | drew {W : World} (h : UpB B w W) : UpB B w W.drew
  | set {W : World} (h : UpB B w W) {g j : Nat} {v : Value} (hg : B ≤ g) : UpB B w (W.setCell ⟨g, j, none⟩ v)
theorem bel_ {w W W' : World} (h : Below w.heap.size w W) (hu : UpB w.heap.size W W' := by repeat (first | (with_reducible first | exact UpB.refl | apply UpB.alloc | apply UpB.drewN | apply UpB.drew | refine UpB.set ?_ (Aside0.out (by assumption))) | exact UpB.refl)) : Below w.heap.size w W' := by
  induction hu with
  | refl => exact h
  | alloc _ o ih => exact below_alloc ih o
  | drewN _ n ih => exact pw_below_drewN ih n
  | drew _ ih => exact below_drew1 ih
  | set _ hg ih => exact below_set ih hg
theorem blk_ {w W : World} {g : Nat} {o : Obj} (h : w.heap[g]? = some o) (hu : Ups w W := by repeat (first | (with_reducible first | exact Ups.refl | apply Ups.drewN | apply Ups.drew | apply Ups.alloc) | exact Ups.refl)) : W.heap[g]? = some o := blk_below h hu.lies
theorem R_ {α : Type} {d : Kd α} {e : Nat} {w W : World} {base : Nat} {ok : Nat → Prop} {v : Value} {xs : List α} (h : d.R e w base ok v xs) (hu : Ups w W := by repeat (first | (with_reducible first | exact Ups.refl | apply Ups.drewN | apply Ups.drew | apply Ups.alloc) | exact Ups.refl)) : d.R e W base ok v xs := Kd.R_below h hu.lies
theorem C_ {α : Type} {d : Kd α} {w W : World} {A : Option Addr} {n : Nat} {xs : List α} (h : d.C w A n xs) (hu : Ups w W := by repeat (first | (with_reducible first | exact Ups.refl | apply Ups.drewN | apply Ups.drew | apply Ups.alloc) | exact Ups.refl)) : d.C W A n xs := Kd.C_below h hu.lies
theorem rl_ {p : Prop} (h : p := by (try simp only [List.map_toArray, List.map_cons, List.map_nil]); first | done | rfl | (simp only [List.length_drop, List.length_take]; rfl)) : p := h
theorem sd_ {p : Prop} (h : p := by first | rfl | (simp; done) | (simp [*]; done) | (simp [bne_nil_isEmpty, beq_nil_isEmpty]; done) | (simp [*, bne_nil_isEmpty, beq_nil_isEmpty]; done)) : p := h
theorem as_ {p : Prop} (h : p := by first | (with_reducible assumption) | assumption) : p := h
theorem kr_ {p : Prop} (h : p := by kernel_rfl) : p := h
theorem fi_ {p : Prop} (h : p := by first | rfl | (simp [errW_none, errW_some] <;> rfl) | (simp [*, errW_none, errW_some] <;> rfl)) : p := h
theorem sx_ {α : Type} {xs : List α} {i : Nat} {a : α} : xs.toArray.setIfInBounds i a = (xs.set i a).toArray := List.setIfInBounds_toArray ..
theorem s0_ {α : Type} {x : α} {xs : List α} {a : α} : (x :: xs).set 0 a = a :: xs := List.set_cons_zero
theorem s1_ {α : Type} {x : α} {xs : List α} {i : Nat} {a : α} : (x :: xs).set (i + 1) a = x :: xs.set i a := List.set_cons_succ
theorem am_ {p : Prop} (h : p) : Aside0 p := ⟨h⟩
theorem N_ {α : Type} {d : Kd α} {e : Nat} {w W : World} {base : Nat} {ok : Nat → Prop} {v : Value} {xs : List α} (h : d.N e w base ok v xs) (hu : Ups w W := by repeat (first | (with_reducible first | exact Ups.refl | apply Ups.drewN | apply Ups.drew | apply Ups.alloc) | exact Ups.refl)) : d.N e W base ok v xs := Kd.N_below h hu.lies

theorem info26 : (Tryd.prog.info? 26).map (fun i => (i.zero, i.size, i.bytes)) = some (some (.agg #[(.int .i64 0), (.string ⟨#[]⟩), (.string ⟨#[]⟩), (.slice none 0 0), (.slice none 0 0)]), 5, 88) := by kernel_rfl
theorem info49 : (Tryd.prog.info? 49).map (fun i => (i.zero, i.size, i.bytes)) = some (some (.agg #[(.string ⟨#[]⟩), (.string ⟨#[]⟩)]), 2, 32) := by kernel_rfl
-- the values' own types
/-! #### struct type 49 -/
structure S49 where
  f0 : ByteArray
  f1 : ByteArray
noncomputable def z49 : S49 := ⟨(⟨#[]⟩ : ByteArray), (⟨#[]⟩ : ByteArray)⟩
noncomputable def k49 : Kd S49 := Kd.iso (Kd.pair Kd.string Kd.string) (fun x : S49 => (x.f0, x.f1))
theorem k49_open {w : World} {x : S49} {cs : List Value} (h : k49.K w x cs) : cs = [.string x.f0, .string x.f1] := by
  obtain ⟨_, _, rfl, rfl, rfl⟩ := h
  exact rfl
theorem k49_openM {w : World} {base : Nat} {ok : Nat → Prop} {x : S49} {cs : List Value} (h : k49.M w base ok x cs) : cs = [.string x.f0, .string x.f1] := by
  obtain ⟨_, _, rfl, rfl, rfl⟩ := h
  exact rfl
theorem k49_mk (w : World) (x : S49)  : k49.K w x [.string x.f0, .string x.f1] := ⟨[.string x.f0], [.string x.f1], rfl, rfl, rfl⟩
theorem k49_mkM (w : World) (base : Nat) (ok : Nat → Prop) (x : S49)  : k49.M w base ok x [.string x.f0, .string x.f1] := ⟨[.string x.f0], [.string x.f1], rfl, rfl, rfl⟩
theorem k49_mkF (W : World) (ok : Nat → Prop) (x : S49) : Kd.FK k49 W ok x [.string x.f0, .string x.f1] := fun W2 _ => k49_mk W2 x
noncomputable def rd_T49 (xs : List S49) (i : Int) : S49 := xs.getD i.toNat z49
theorem at_T49 {w : World} {A : Option Addr} {n : Nat} {xs : List S49} (h : Kd.C k49 w A n xs) (i : Int) (h0 : 0 ≤ i) (h1 : i < n) : ∃ ad , A = some ad ∧ w.cell? (ad.add (i.toNat * 2)) = some (.string (rd_T49 xs i).f0) ∧ w.cell? ⟨(ad.add (i.toNat * 2)).block, (ad.add (i.toNat * 2)).off + 1, none⟩ = some (.string (rd_T49 xs i).f1) := by
  obtain ⟨ad, c, e, _, hK, hc0⟩ := Kd.C_get h z49 i h0 h1
  have hc : ∀ j u, c[j]? = some u → w.cell? (ad.add (i.toNat * 2 + j)) = some u := hc0
  obtain rfl := k49_open hK
  exact ⟨ad, e, hc 0 _ rfl, by rw [← add_field _ _ 1 (by omega)]; exact hc 1 _ rfl⟩

noncomputable def rd_L5 (xs : List (List S49)) (i : Int) : (List S49) := xs.getD i.toNat ([] : List S49)
theorem at_L5 {w : World} {A : Option Addr} {n : Nat} {xs : List (List S49)} (h : Kd.C (Kd.slice 49 k49) w A n xs) (i : Int) (h0 : 0 ≤ i) (h1 : i < n) : ∃ ad A0 c0, A = some ad ∧ w.cell? (ad.add i.toNat) = some (.slice A0 (rd_L5 xs i).length c0) ∧ (rd_L5 xs i).length ≤ c0 ∧ k49.C w A0 (rd_L5 xs i).length (rd_L5 xs i) := by
  obtain ⟨ad, c, e, _, hK, hc0⟩ := Kd.C_get h ([] : List S49) i h0 h1
  have hc : ∀ j u, c[j]? = some u → w.cell? (ad.add (i.toNat * 1 + j)) = some u := hc0
  obtain ⟨A0, c0, rfl, l0, g0⟩ := hK
  exact ⟨ad, A0, c0, e, by have hq := hc 0 _ rfl; rwa [Nat.mul_one, Nat.add_zero] at hq, l0, g0⟩

/-! #### struct type 23 -/
structure S23 where
  f0 : Int
  f1 : ByteArray
noncomputable def z23 : S23 := ⟨(0 : Int), (⟨#[]⟩ : ByteArray)⟩
noncomputable def k23 : Kd S23 := Kd.iso (Kd.pair (Kd.int .i64) Kd.string) (fun x : S23 => (x.f0, x.f1))
theorem k23_open {w : World} {x : S23} {cs : List Value} (h : k23.K w x cs) : cs = [.int .i64 x.f0, .string x.f1] := by
  obtain ⟨_, _, rfl, rfl, rfl⟩ := h
  exact rfl
theorem k23_openM {w : World} {base : Nat} {ok : Nat → Prop} {x : S23} {cs : List Value} (h : k23.M w base ok x cs) : cs = [.int .i64 x.f0, .string x.f1] := by
  obtain ⟨_, _, rfl, rfl, rfl⟩ := h
  exact rfl
theorem k23_mk (w : World) (x : S23)  : k23.K w x [.int .i64 x.f0, .string x.f1] := ⟨[.int .i64 x.f0], [.string x.f1], rfl, rfl, rfl⟩
theorem k23_mkM (w : World) (base : Nat) (ok : Nat → Prop) (x : S23)  : k23.M w base ok x [.int .i64 x.f0, .string x.f1] := ⟨[.int .i64 x.f0], [.string x.f1], rfl, rfl, rfl⟩
theorem k23_mkF (W : World) (ok : Nat → Prop) (x : S23) : Kd.FK k23 W ok x [.int .i64 x.f0, .string x.f1] := fun W2 _ => k23_mk W2 x
noncomputable def rd_T23 (xs : List S23) (i : Int) : S23 := xs.getD i.toNat z23
theorem at_T23 {w : World} {A : Option Addr} {n : Nat} {xs : List S23} (h : Kd.C k23 w A n xs) (i : Int) (h0 : 0 ≤ i) (h1 : i < n) : ∃ ad , A = some ad ∧ w.cell? (ad.add (i.toNat * 2)) = some (.int .i64 (rd_T23 xs i).f0) ∧ w.cell? ⟨(ad.add (i.toNat * 2)).block, (ad.add (i.toNat * 2)).off + 1, none⟩ = some (.string (rd_T23 xs i).f1) := by
  obtain ⟨ad, c, e, _, hK, hc0⟩ := Kd.C_get h z23 i h0 h1
  have hc : ∀ j u, c[j]? = some u → w.cell? (ad.add (i.toNat * 2 + j)) = some u := hc0
  obtain rfl := k23_open hK
  exact ⟨ad, e, hc 0 _ rfl, by rw [← add_field _ _ 1 (by omega)]; exact hc 1 _ rfl⟩

/-! #### struct type 26 -/
structure S26 where
  f0 : S23
  f1 : ByteArray
  f2 : (List S49)
  f3 : (List S49)
noncomputable def z26 : S26 := ⟨z23, (⟨#[]⟩ : ByteArray), ([] : List S49), ([] : List S49)⟩
noncomputable def k26 : Kd S26 := Kd.iso (Kd.pair k23 (Kd.pair Kd.string (Kd.pair (Kd.slice 49 k49) (Kd.slice 49 k49)))) (fun x : S26 => (x.f0, x.f1, x.f2, x.f3))
theorem k26_open {w : World} {x : S26} {cs : List Value} (h : k26.K w x cs) : ∃ A3 c3 A4 c4, cs = [.int .i64 x.f0.f0, .string x.f0.f1, .string x.f1, .slice A3 x.f2.length c3, .slice A4 x.f3.length c4] ∧ x.f2.length ≤ c3 ∧ k49.C w A3 x.f2.length x.f2 ∧ x.f3.length ≤ c4 ∧ k49.C w A4 x.f3.length x.f3 := by
  obtain ⟨_, _, rfl, s0, ⟨_, _, rfl, rfl, ⟨_, _, rfl, ⟨A3, c3, rfl, l3, g3⟩, ⟨A4, c4, rfl, l4, g4⟩⟩⟩⟩ := h
  obtain rfl := k23_open s0
  exact ⟨A3, c3, A4, c4, rfl, l3, g3, l4, g4⟩
theorem k26_openM {w : World} {base : Nat} {ok : Nat → Prop} {x : S26} {cs : List Value} (h : k26.M w base ok x cs) : ∃ v3 v4, cs = [.int .i64 x.f0.f0, .string x.f0.f1, .string x.f1, v3, v4] ∧ k49.R 49 w base ok v3 x.f2 ∧ k49.R 49 w base ok v4 x.f3 := by
  obtain ⟨_, _, rfl, s0, ⟨_, _, rfl, rfl, ⟨_, _, rfl, ⟨v3, rfl, g3⟩, ⟨v4, rfl, g4⟩⟩⟩⟩ := h
  obtain rfl := k23_openM s0
  exact ⟨v3, v4, rfl, g3, g4⟩
theorem k26_mk (w : World) (x : S26) {A3 : Option Addr} {c3 : Nat} (l3 : x.f2.length ≤ c3) (g3 : k49.C w A3 x.f2.length x.f2) {A4 : Option Addr} {c4 : Nat} (l4 : x.f3.length ≤ c4) (g4 : k49.C w A4 x.f3.length x.f3) : k26.K w x [.int .i64 x.f0.f0, .string x.f0.f1, .string x.f1, .slice A3 x.f2.length c3, .slice A4 x.f3.length c4] := ⟨[.int .i64 x.f0.f0, .string x.f0.f1], [.string x.f1, .slice A3 x.f2.length c3, .slice A4 x.f3.length c4], rfl, (k23_mk w x.f0 ), ⟨[.string x.f1], [.slice A3 x.f2.length c3, .slice A4 x.f3.length c4], rfl, rfl, ⟨[.slice A3 x.f2.length c3], [.slice A4 x.f3.length c4], rfl, ⟨A3, c3, rfl, l3, g3⟩, ⟨A4, c4, rfl, l4, g4⟩⟩⟩⟩
theorem k26_mkM (w : World) (base : Nat) (ok : Nat → Prop) (x : S26) {v3 : Value} (g3 : k49.R 49 w base ok v3 x.f2) {v4 : Value} (g4 : k49.R 49 w base ok v4 x.f3) : k26.M w base ok x [.int .i64 x.f0.f0, .string x.f0.f1, .string x.f1, v3, v4] := ⟨[.int .i64 x.f0.f0, .string x.f0.f1], [.string x.f1, v3, v4], rfl, (k23_mkM w base ok x.f0 ), ⟨[.string x.f1], [v3, v4], rfl, rfl, ⟨[v3], [v4], rfl, ⟨v3, rfl, g3⟩, ⟨v4, rfl, g4⟩⟩⟩⟩
theorem k26_openF {W : World} {ok : Nat → Prop} {x : S26} {cs : List Value} (h : Kd.FK k26 W ok x cs) : ∃ A3 c3 A4 c4, cs = [.int .i64 x.f0.f0, .string x.f0.f1, .string x.f1, .slice A3 x.f2.length c3, .slice A4 x.f3.length c4] ∧ x.f2.length ≤ c3 ∧ Kd.F k49 W ok A3 x.f2.length x.f2 ∧ x.f3.length ≤ c4 ∧ Kd.F k49 W ok A4 x.f3.length x.f3 := by
  obtain ⟨A3, c3, A4, c4, rfl, l3, _, l4, _⟩ := k26_open (Kd.FK_now h)
  exact ⟨A3, c3, A4, c4, rfl, l3, (fun W' hW => by obtain ⟨A3_, c3_, A4_, c4_, he, l3_, g3_, l4_, g4_⟩ := k26_open (h W' hW); injection (Option.some.inj (show some (Value.slice A3 x.f2.length c3) = some (Value.slice A3_ x.f2.length c3_) from congrArg (fun l => l[3]?) he)) with ha_ _ _; rw [ha_]; exact g3_), l4, (fun W' hW => by obtain ⟨A3_, c3_, A4_, c4_, he, l3_, g3_, l4_, g4_⟩ := k26_open (h W' hW); injection (Option.some.inj (show some (Value.slice A4 x.f3.length c4) = some (Value.slice A4_ x.f3.length c4_) from congrArg (fun l => l[4]?) he)) with ha_ _ _; rw [ha_]; exact g4_)⟩
theorem k26_mkF (W : World) (ok : Nat → Prop) (x : S26) {A3 : Option Addr} {c3 : Nat} (l3 : x.f2.length ≤ c3) (g3 : Kd.F k49 W ok A3 x.f2.length x.f2) {A4 : Option Addr} {c4 : Nat} (l4 : x.f3.length ≤ c4) (g4 : Kd.F k49 W ok A4 x.f3.length x.f3) : Kd.FK k26 W ok x [.int .i64 x.f0.f0, .string x.f0.f1, .string x.f1, .slice A3 x.f2.length c3, .slice A4 x.f3.length c4] := fun W2 hW => k26_mk W2 x l3 (g3 W2 hW) l4 (g4 W2 hW)
noncomputable def rd_T26 (xs : List S26) (i : Int) : S26 := xs.getD i.toNat z26
theorem at_T26 {w : World} {A : Option Addr} {n : Nat} {xs : List S26} (h : Kd.C k26 w A n xs) (i : Int) (h0 : 0 ≤ i) (h1 : i < n) : ∃ ad A3 c3 A4 c4, A = some ad ∧ w.cell? (ad.add (i.toNat * 5)) = some (.int .i64 (rd_T26 xs i).f0.f0) ∧ w.cell? ⟨(ad.add (i.toNat * 5)).block, (ad.add (i.toNat * 5)).off + 1, none⟩ = some (.string (rd_T26 xs i).f0.f1) ∧ w.cell? ⟨(ad.add (i.toNat * 5)).block, (ad.add (i.toNat * 5)).off + 2, none⟩ = some (.string (rd_T26 xs i).f1) ∧ w.cell? ⟨(ad.add (i.toNat * 5)).block, (ad.add (i.toNat * 5)).off + 3, none⟩ = some (.slice A3 (rd_T26 xs i).f2.length c3) ∧ w.cell? ⟨(ad.add (i.toNat * 5)).block, (ad.add (i.toNat * 5)).off + 4, none⟩ = some (.slice A4 (rd_T26 xs i).f3.length c4) ∧ (rd_T26 xs i).f2.length ≤ c3 ∧ k49.C w A3 (rd_T26 xs i).f2.length (rd_T26 xs i).f2 ∧ (rd_T26 xs i).f3.length ≤ c4 ∧ k49.C w A4 (rd_T26 xs i).f3.length (rd_T26 xs i).f3 := by
  obtain ⟨ad, c, e, _, hK, hc0⟩ := Kd.C_get h z26 i h0 h1
  have hc : ∀ j u, c[j]? = some u → w.cell? (ad.add (i.toNat * 5 + j)) = some u := hc0
  obtain ⟨A3, c3, A4, c4, rfl, l3, g3, l4, g4⟩ := k26_open hK
  exact ⟨ad, A3, c3, A4, c4, e, hc 0 _ rfl, by rw [← add_field _ _ 1 (by omega)]; exact hc 1 _ rfl, by rw [← add_field _ _ 2 (by omega)]; exact hc 2 _ rfl, by rw [← add_field _ _ 3 (by omega)]; exact hc 3 _ rfl, by rw [← add_field _ _ 4 (by omega)]; exact hc 4 _ rfl, l3, g3, l4, g4⟩

noncomputable def rd_L8 (xs : List (List S26)) (i : Int) : (List S26) := xs.getD i.toNat ([] : List S26)
theorem at_L8 {w : World} {A : Option Addr} {n : Nat} {xs : List (List S26)} (h : Kd.C (Kd.slice 26 k26) w A n xs) (i : Int) (h0 : 0 ≤ i) (h1 : i < n) : ∃ ad A0 c0, A = some ad ∧ w.cell? (ad.add i.toNat) = some (.slice A0 (rd_L8 xs i).length c0) ∧ (rd_L8 xs i).length ≤ c0 ∧ k26.C w A0 (rd_L8 xs i).length (rd_L8 xs i) := by
  obtain ⟨ad, c, e, _, hK, hc0⟩ := Kd.C_get h ([] : List S26) i h0 h1
  have hc : ∀ j u, c[j]? = some u → w.cell? (ad.add (i.toNat * 1 + j)) = some u := hc0
  obtain ⟨A0, c0, rfl, l0, g0⟩ := hK
  exact ⟨ad, A0, c0, e, by have hq := hc 0 _ rfl; rwa [Nat.mul_one, Nat.add_zero] at hq, l0, g0⟩

/-! #### struct type 28 -/
structure S28 where
  f0 : ByteArray
  f1 : ByteArray
  f2 : ByteArray
  f3 : (List S49)
  f4 : (List S49)
noncomputable def z28 : S28 := ⟨(⟨#[]⟩ : ByteArray), (⟨#[]⟩ : ByteArray), (⟨#[]⟩ : ByteArray), ([] : List S49), ([] : List S49)⟩
noncomputable def k28 : Kd S28 := Kd.iso (Kd.pair Kd.string (Kd.pair Kd.string (Kd.pair Kd.string (Kd.pair (Kd.slice 49 k49) (Kd.slice 49 k49))))) (fun x : S28 => (x.f0, x.f1, x.f2, x.f3, x.f4))
theorem k28_open {w : World} {x : S28} {cs : List Value} (h : k28.K w x cs) : ∃ A3 c3 A4 c4, cs = [.string x.f0, .string x.f1, .string x.f2, .slice A3 x.f3.length c3, .slice A4 x.f4.length c4] ∧ x.f3.length ≤ c3 ∧ k49.C w A3 x.f3.length x.f3 ∧ x.f4.length ≤ c4 ∧ k49.C w A4 x.f4.length x.f4 := by
  obtain ⟨_, _, rfl, rfl, ⟨_, _, rfl, rfl, ⟨_, _, rfl, rfl, ⟨_, _, rfl, ⟨A3, c3, rfl, l3, g3⟩, ⟨A4, c4, rfl, l4, g4⟩⟩⟩⟩⟩ := h
  exact ⟨A3, c3, A4, c4, rfl, l3, g3, l4, g4⟩
theorem k28_openM {w : World} {base : Nat} {ok : Nat → Prop} {x : S28} {cs : List Value} (h : k28.M w base ok x cs) : ∃ v3 v4, cs = [.string x.f0, .string x.f1, .string x.f2, v3, v4] ∧ k49.R 49 w base ok v3 x.f3 ∧ k49.R 49 w base ok v4 x.f4 := by
  obtain ⟨_, _, rfl, rfl, ⟨_, _, rfl, rfl, ⟨_, _, rfl, rfl, ⟨_, _, rfl, ⟨v3, rfl, g3⟩, ⟨v4, rfl, g4⟩⟩⟩⟩⟩ := h
  exact ⟨v3, v4, rfl, g3, g4⟩
theorem k28_mk (w : World) (x : S28) {A3 : Option Addr} {c3 : Nat} (l3 : x.f3.length ≤ c3) (g3 : k49.C w A3 x.f3.length x.f3) {A4 : Option Addr} {c4 : Nat} (l4 : x.f4.length ≤ c4) (g4 : k49.C w A4 x.f4.length x.f4) : k28.K w x [.string x.f0, .string x.f1, .string x.f2, .slice A3 x.f3.length c3, .slice A4 x.f4.length c4] := ⟨[.string x.f0], [.string x.f1, .string x.f2, .slice A3 x.f3.length c3, .slice A4 x.f4.length c4], rfl, rfl, ⟨[.string x.f1], [.string x.f2, .slice A3 x.f3.length c3, .slice A4 x.f4.length c4], rfl, rfl, ⟨[.string x.f2], [.slice A3 x.f3.length c3, .slice A4 x.f4.length c4], rfl, rfl, ⟨[.slice A3 x.f3.length c3], [.slice A4 x.f4.length c4], rfl, ⟨A3, c3, rfl, l3, g3⟩, ⟨A4, c4, rfl, l4, g4⟩⟩⟩⟩⟩
theorem k28_mkM (w : World) (base : Nat) (ok : Nat → Prop) (x : S28) {v3 : Value} (g3 : k49.R 49 w base ok v3 x.f3) {v4 : Value} (g4 : k49.R 49 w base ok v4 x.f4) : k28.M w base ok x [.string x.f0, .string x.f1, .string x.f2, v3, v4] := ⟨[.string x.f0], [.string x.f1, .string x.f2, v3, v4], rfl, rfl, ⟨[.string x.f1], [.string x.f2, v3, v4], rfl, rfl, ⟨[.string x.f2], [v3, v4], rfl, rfl, ⟨[v3], [v4], rfl, ⟨v3, rfl, g3⟩, ⟨v4, rfl, g4⟩⟩⟩⟩⟩
theorem k28_openF {W : World} {ok : Nat → Prop} {x : S28} {cs : List Value} (h : Kd.FK k28 W ok x cs) : ∃ A3 c3 A4 c4, cs = [.string x.f0, .string x.f1, .string x.f2, .slice A3 x.f3.length c3, .slice A4 x.f4.length c4] ∧ x.f3.length ≤ c3 ∧ Kd.F k49 W ok A3 x.f3.length x.f3 ∧ x.f4.length ≤ c4 ∧ Kd.F k49 W ok A4 x.f4.length x.f4 := by
  obtain ⟨A3, c3, A4, c4, rfl, l3, _, l4, _⟩ := k28_open (Kd.FK_now h)
  exact ⟨A3, c3, A4, c4, rfl, l3, (fun W' hW => by obtain ⟨A3_, c3_, A4_, c4_, he, l3_, g3_, l4_, g4_⟩ := k28_open (h W' hW); injection (Option.some.inj (show some (Value.slice A3 x.f3.length c3) = some (Value.slice A3_ x.f3.length c3_) from congrArg (fun l => l[3]?) he)) with ha_ _ _; rw [ha_]; exact g3_), l4, (fun W' hW => by obtain ⟨A3_, c3_, A4_, c4_, he, l3_, g3_, l4_, g4_⟩ := k28_open (h W' hW); injection (Option.some.inj (show some (Value.slice A4 x.f4.length c4) = some (Value.slice A4_ x.f4.length c4_) from congrArg (fun l => l[4]?) he)) with ha_ _ _; rw [ha_]; exact g4_)⟩
theorem k28_mkF (W : World) (ok : Nat → Prop) (x : S28) {A3 : Option Addr} {c3 : Nat} (l3 : x.f3.length ≤ c3) (g3 : Kd.F k49 W ok A3 x.f3.length x.f3) {A4 : Option Addr} {c4 : Nat} (l4 : x.f4.length ≤ c4) (g4 : Kd.F k49 W ok A4 x.f4.length x.f4) : Kd.FK k28 W ok x [.string x.f0, .string x.f1, .string x.f2, .slice A3 x.f3.length c3, .slice A4 x.f4.length c4] := fun W2 hW => k28_mk W2 x l3 (g3 W2 hW) l4 (g4 W2 hW)
noncomputable def rd_T28 (xs : List S28) (i : Int) : S28 := xs.getD i.toNat z28
theorem at_T28 {w : World} {A : Option Addr} {n : Nat} {xs : List S28} (h : Kd.C k28 w A n xs) (i : Int) (h0 : 0 ≤ i) (h1 : i < n) : ∃ ad A3 c3 A4 c4, A = some ad ∧ w.cell? (ad.add (i.toNat * 5)) = some (.string (rd_T28 xs i).f0) ∧ w.cell? ⟨(ad.add (i.toNat * 5)).block, (ad.add (i.toNat * 5)).off + 1, none⟩ = some (.string (rd_T28 xs i).f1) ∧ w.cell? ⟨(ad.add (i.toNat * 5)).block, (ad.add (i.toNat * 5)).off + 2, none⟩ = some (.string (rd_T28 xs i).f2) ∧ w.cell? ⟨(ad.add (i.toNat * 5)).block, (ad.add (i.toNat * 5)).off + 3, none⟩ = some (.slice A3 (rd_T28 xs i).f3.length c3) ∧ w.cell? ⟨(ad.add (i.toNat * 5)).block, (ad.add (i.toNat * 5)).off + 4, none⟩ = some (.slice A4 (rd_T28 xs i).f4.length c4) ∧ (rd_T28 xs i).f3.length ≤ c3 ∧ k49.C w A3 (rd_T28 xs i).f3.length (rd_T28 xs i).f3 ∧ (rd_T28 xs i).f4.length ≤ c4 ∧ k49.C w A4 (rd_T28 xs i).f4.length (rd_T28 xs i).f4 := by
  obtain ⟨ad, c, e, _, hK, hc0⟩ := Kd.C_get h z28 i h0 h1
  have hc : ∀ j u, c[j]? = some u → w.cell? (ad.add (i.toNat * 5 + j)) = some u := hc0
  obtain ⟨A3, c3, A4, c4, rfl, l3, g3, l4, g4⟩ := k28_open hK
  exact ⟨ad, A3, c3, A4, c4, e, hc 0 _ rfl, by rw [← add_field _ _ 1 (by omega)]; exact hc 1 _ rfl, by rw [← add_field _ _ 2 (by omega)]; exact hc 2 _ rfl, by rw [← add_field _ _ 3 (by omega)]; exact hc 3 _ rfl, by rw [← add_field _ _ 4 (by omega)]; exact hc 4 _ rfl, l3, g3, l4, g4⟩

end Go.Proofs.YtompldnifiieaaaDoor.P
