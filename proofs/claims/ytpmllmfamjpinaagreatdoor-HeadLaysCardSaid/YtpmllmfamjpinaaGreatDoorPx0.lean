-- written by wip/tool/hprint.py of this repo: the kit's print, with contracts by hand joined; Lean checks it.
import Derived.Test.YtpmllmfamjpinaaGreatDoorProg
import Derived.Below
import Derived.Deep.Draws
import Derived.Deep.AppendLies
import Derived.Maps.AppendAt
import Derived.OwnWalk
import Derived.Laws.BytesArg
import Derived.Laws.MakeOwn
import Derived.Laws.OwnMore
import Derived.Deep.OwnRows
import Derived.Tactics
import Derived.Lib.ConvBytes
import Derived.Laws.Slices
import Derived.WalkKit
import Derived.KernelRfl
import Derived.RowKit3
import Derived.Deep.LoopGhost
import Derived.Deep.QuietTactic
import Derived.BigQuiet
import Derived.WideLaws
import Derived.Deep.DeepCutAuto
import Derived.Deep.CutBlock
import Derived.Deep.RegionHeld3
import Derived.Laws.Rows
import Derived.Lib.AppendStr
import Derived.ArgAppend
import Derived.Laws.IdiomCopy
import Derived.OrdersHeld
import Derived.Laws.BitsLemmas
import Derived.RowKit
import Derived.Laws.Externs
import Derived.Lib.SliceRun
import Derived.Shelf.Abstract
import Derived.Laws.CopyRow
import Derived.Laws.EntriesVeiled
import Derived.Lib.Overlaps
import Derived.Shelf.RegionOpenPlain
import Derived.Lib.OthersKept
import Derived.Laws.RangeAny
import Derived.Laws.Cover1
import Derived.ChangeKeysEq
import Derived.Lib.RuneCount
import Derived.Shelf.Strings.Builder1
import Derived.Shelf.Strings.OnBuilder
import Derived.Shelf.Strings.Search3
import Derived.Deep.RegionHeld
import Derived.RangeFuncNested
import Derived.RangeFuncBound
import Derived.RangeFuncCalls
import Derived.RangeFuncLeaves
import Derived.OwnWalkIn
import Derived.TacticsInMore
import Derived.LoopNIn
import Derived.LoopIn
import Derived.Shelf.RegionOpen
import Derived.Shelf.Strings.SlTrimAscii
import Derived.Test.YtpmllmfamjpinaaGreatDoorWWords
import Derived.Test.YtpmllmfamjpinaaGreatDoorWLast
import Derived.Test.YtpmllmfamjpinaaGreatDoorWTab
import Derived.Test.YtpmllmfamjpinaaGreatDoorWFour
import Derived.Test.YtpmllmfamjpinaaGreatDoorWQPut
import Derived.Test.YtpmllmfamjpinaaGreatDoorWApart
import Derived.Test.YtpmllmfamjpinaaGreatDoorWArr
import Derived.Test.YtpmllmfamjpinaaGreatDoorWZeros
import Derived.Test.YtpmllmfamjpinaaGreatDoorWFoot
import Derived.Test.YtpmllmfamjpinaaGreatDoorWKept
import Derived.Test.YtpmllmfamjpinaaGreatDoorWShare
import Derived.Test.YtpmllmfamjpinaaGreatDoorWN
import Derived.Test.YtpmllmfamjpinaaGreatDoorWFootNe
import Derived.Test.YtpmllmfamjpinaaGreatDoorWAt
import Derived.Test.YtpmllmfamjpinaaGreatDoorWEqStruct
import Derived.Test.YtpmllmfamjpinaaGreatDoorWRepsOne
import Derived.Test.YtpmllmfamjpinaaGreatDoorWInv
import Derived.Test.YtpmllmfamjpinaaGreatDoorWInvWords
import Derived.Test.YtpmllmfamjpinaaGreatDoorWGuard
import Derived.Test.YtpmllmfamjpinaaGreatDoorWNEv
import Derived.Test.YtpmllmfamjpinaaGreatDoorWMore
namespace Go.Proofs.YtpmllmfamjpinaaGreatDoor.P
open Go.RowKit Go.Proofs.YtpmllmfamjpinaaGreatDoorW.PrintWords Go.Proofs.YtpmllmfamjpinaaGreatDoorW.PrintLast Go.Proofs.YtpmllmfamjpinaaGreatDoorW.PrintMore
attribute [local go_sem] max2_int min2_int max_two min_two max_three min_three max_four min_four   -- for this text's walks alone
set_option linter.unusedVariables false
set_option linter.unusedSimpArgs false



def errW : Option Int → Value
  | none => .nilIface
  | some c => .iface 0 (.int .i64 c)
theorem errW_none : errW none = .nilIface := rfl
theorem errW_some (c : Int) : errW (some c) = .iface 0 (.int .i64 c) := rfl


theorem bne_nil_isEmpty (l : List UInt8) : (l != ([] : List UInt8)) = !l.isEmpty := by cases l <;> rfl
theorem beq_nil_isEmpty (l : List UInt8) : (l == ([] : List UInt8)) = l.isEmpty := by cases l <;> rfl

theorem bt_nat (s : ByteArray) (n : Nat) : ∀ h : n < s.size, ((s[n]'h).toNat : Int) = bt s (n : Int) := fun h => bt_at s (n : Int) h
theorem wrap_sum {a b : Nat} (h : a + b ≤ 9223372036854775807) : wrap64 ((a : Int) + (b : Int)) = (a : Int) + (b : Int) := by unfold wrap64; omega
theorem getD_at {α : Type} (l : List α) (d : α) {i : Nat} (h : i < l.length) : l.getD i d = l[i]'h := by
  rw [List.getD_eq_getElem?_getD, List.getElem?_eq_getElem h, Option.getD_some]
/-- The first place at which p holds, or -1. -/
def idxI {α : Type} (p : α → Bool) (l : List α) : Int := if l.any p = true then ((l.findIdx p : Nat) : Int) else -1
theorem idxI_hit {α : Type} (p : α → Bool) (l : List α) (k : Nat) (hk : k < l.length) (h0 : ∀ j (hj : j < k), p (l[j]'(by omega)) = false) (h1 : p (l[k]'hk) = true) : idxI p l = (k : Int) := by
  unfold idxI
  rw [if_pos (List.any_eq_true.2 ⟨_, List.getElem_mem hk, h1⟩)]
  congr 1
  exact (List.findIdx_eq hk).2 ⟨h1, fun j hj => by have := h0 j hj; simpa using this⟩
theorem idxI_miss {α : Type} (p : α → Bool) (l : List α) (h0 : ∀ j (hj : j < l.length), p (l[j]'hj) = false) : idxI p l = -1 := by
  unfold idxI
  rw [if_neg]
  intro h
  obtain ⟨x, hx, hp⟩ := List.any_eq_true.1 h
  obtain ⟨j, hj, rfl⟩ := List.getElem_of_mem hx
  rw [h0 j hj] at hp
  cases hp
/-- What is asked of a predicate of a slice's elements: called in any world in which all that lay in w lies unturned it answers p, and leaves such a world. -/
def PredK {α : Type} (P : Program) (g : Nat) (lb : Array Value) (d : Kd α) (l : List α) (p : α → Bool) (w : World) : Prop :=
  ∀ (W : World) (x : α) (cs : List Value), x ∈ l → Below w.heap.size w W → d.K W x cs → Calls P g (#[.agg cs.toArray] ++ lb) W fun e w' => e = .returned (.bool (p x)) ∧ Below w.heap.size w w'
/-- What a function answers with rounds enough. -/
noncomputable def limF {β : Type} (F : Nat → Option β) : Option β := open Classical in if h : ∃ k r, F k = some r then F h.choose else none
theorem limF_some {β : Type} {F : Nat → Option β} {r : β} (h : limF F = some r) : ∃ k, F k = some r := by
  unfold limF at h
  split at h
  · exact ⟨_, h⟩
  · cases h
theorem limF_of {β : Type} {F : Nat → Option β} (hm : ∀ k r, F k = some r → F (k + 1) = some r) {k : Nat} {r : β} (h : F k = some r) : limF F = some r := by
  have up : ∀ n k r, F k = some r → F (k + n) = some r := fun n => by
    induction n with
    | zero => exact fun k r h => h
    | succ n ih => exact fun k r h => hm _ _ (ih k r h)
  have hx : ∃ k r, F k = some r := ⟨k, r, h⟩
  unfold limF
  rw [dif_pos hx]
  obtain ⟨r', hr'⟩ := hx.choose_spec
  have h1 := up hx.choose k r h
  have h2 := up k hx.choose r' hr'
  rw [Nat.add_comm, h2] at h1
  rw [hr', Option.some.inj h1]
/-! ### short names: what the print's texts ask again and again -/
/-- From one world to a later one by orders drawn and blocks made alone. -/
inductive Ups (w : World) : World → Prop
  | refl : Ups w w
  | alloc {W : World} (h : Ups w W) (o : Obj) : Ups w (W.alloc o)
  | drewN {W : World} (h : Ups w W) (n : Nat) : Ups w (W.drewN n)
  | drew {W : World} (h : Ups w W) : Ups w W.drew
theorem Ups.lies {w W : World} (h : Ups w W) : Below w.heap.size w W := by
  induction h with
  | refl => exact Below.refl _ _
  | alloc _ o ih => exact below_alloc ih o
  | drewN _ n ih => exact pw_below_drewN ih n
  | drew _ ih => exact below_drew ih
/-- The same, and cells of blocks at or behind a place written besides. -/
inductive UpB (B : Nat) (w : World) : World → Prop
  | refl : UpB B w w
  | alloc {W : World} (h : UpB B w W) (o : Obj) : UpB B w (W.alloc o)
  | drewN {W : World} (h : UpB B w W) (n : Nat) : UpB B w (W.drewN n)
  | drew {W : World} (h : UpB B w W) : UpB B w W.drew
  | set {W : World} (h : UpB B w W) {g j : Nat} {v : Value} (hg : B ≤ g) : UpB B w (W.setCell ⟨g, j, none⟩ v)
theorem bel_ {w W W' : World} (h : Below w.heap.size w W) (hu : UpB w.heap.size W W' := by repeat (first | (with_reducible first | exact UpB.refl | apply UpB.alloc | apply UpB.drewN | apply UpB.drew | refine UpB.set ?_ (Aside0.out (by assumption))) | exact UpB.refl)) : Below w.heap.size w W' := by
  induction hu with
  | refl => exact h
  | alloc _ o ih => exact below_alloc ih o
  | drewN _ n ih => exact pw_below_drewN ih n
  | drew _ ih => exact below_drew1 ih
  | set _ hg ih => exact below_set ih hg
theorem blk_ {w W : World} {g : Nat} {o : Obj} (h : w.heap[g]? = some o) (hu : Ups w W := by repeat (first | (with_reducible first | exact Ups.refl | apply Ups.drewN | apply Ups.drew | apply Ups.alloc) | exact Ups.refl)) : W.heap[g]? = some o := blk_below h hu.lies
theorem R_ {α : Type} {d : Kd α} {e : Nat} {w W : World} {base : Nat} {ok : Nat → Prop} {v : Value} {xs : List α} (h : d.R e w base ok v xs) (hu : Ups w W := by repeat (first | (with_reducible first | exact Ups.refl | apply Ups.drewN | apply Ups.drew | apply Ups.alloc) | exact Ups.refl)) : d.R e W base ok v xs := Kd.R_below h hu.lies
theorem blk2 {w : World} {g : Nat} {t : TypeId} {a0 a1 : Value} (h : w.heap[g]? = some (.cells #[a0, a1] t (0, 0))) : w.cell? ⟨g, 0, none⟩ = some a0 ∧ w.cell? ⟨g, 1, none⟩ = some a1 ∧ w.frozen? ⟨g, 0, none⟩ = false ∧ w.frozen? ⟨g, 1, none⟩ = false := ⟨blk_cell h 0, blk_cell h 1, blk_frozen h 0, blk_frozen h 1⟩
theorem blk5 {w : World} {g : Nat} {t : TypeId} {a0 a1 a2 a3 a4 : Value} (h : w.heap[g]? = some (.cells #[a0, a1, a2, a3, a4] t (0, 0))) : w.cell? ⟨g, 0, none⟩ = some a0 ∧ w.cell? ⟨g, 1, none⟩ = some a1 ∧ w.cell? ⟨g, 2, none⟩ = some a2 ∧ w.cell? ⟨g, 3, none⟩ = some a3 ∧ w.cell? ⟨g, 4, none⟩ = some a4 ∧ w.frozen? ⟨g, 0, none⟩ = false ∧ w.frozen? ⟨g, 1, none⟩ = false ∧ w.frozen? ⟨g, 2, none⟩ = false ∧ w.frozen? ⟨g, 3, none⟩ = false ∧ w.frozen? ⟨g, 4, none⟩ = false := ⟨blk_cell h 0, blk_cell h 1, blk_cell h 2, blk_cell h 3, blk_cell h 4, blk_frozen h 0, blk_frozen h 1, blk_frozen h 2, blk_frozen h 3, blk_frozen h 4⟩
theorem C_ {α : Type} {d : Kd α} {w W : World} {A : Option Addr} {n : Nat} {xs : List α} (h : d.C w A n xs) (hu : Ups w W := by repeat (first | (with_reducible first | exact Ups.refl | apply Ups.drewN | apply Ups.drew | apply Ups.alloc) | exact Ups.refl)) : d.C W A n xs := Kd.C_below h hu.lies
theorem rl_ {p : Prop} (h : p := by (try simp only [List.map_toArray, List.map_cons, List.map_nil]); first | done | rfl | (simp only [List.length_drop, List.length_take]; rfl)) : p := h
theorem sd_ {p : Prop} (h : p := by first | rfl | (simp; done) | (simp [*]; done) | (simp [bne_nil_isEmpty, beq_nil_isEmpty]; done) | (simp [*, bne_nil_isEmpty, beq_nil_isEmpty]; done)) : p := h
theorem as_ {p : Prop} (h : p := by first | (with_reducible assumption) | assumption) : p := h
theorem kr_ {p : Prop} (h : p := by kernel_rfl) : p := h
theorem fi_ {p : Prop} (h : p := by first | rfl | (simp [errW_none, errW_some] <;> rfl) | (simp [*, errW_none, errW_some] <;> rfl)) : p := h
theorem sx_ {α : Type} {xs : List α} {i : Nat} {a : α} : xs.toArray.setIfInBounds i a = (xs.set i a).toArray := List.setIfInBounds_toArray ..
theorem s0_ {α : Type} {x : α} {xs : List α} {a : α} : (x :: xs).set 0 a = a :: xs := List.set_cons_zero
theorem s1_ {α : Type} {x : α} {xs : List α} {i : Nat} {a : α} : (x :: xs).set (i + 1) a = x :: xs.set i a := List.set_cons_succ
theorem am_ {p : Prop} (h : p) : Aside0 p := ⟨h⟩
theorem N_ {α : Type} {d : Kd α} {e : Nat} {w W : World} {base : Nat} {ok : Nat → Prop} {v : Value} {xs : List α} (h : d.N e w base ok v xs) (hu : Ups w W := by repeat (first | (with_reducible first | exact Ups.refl | apply Ups.drewN | apply Ups.drew | apply Ups.alloc) | exact Ups.refl)) : d.N e W base ok v xs := Kd.N_below h hu.lies
theorem Kd.R_make0 {P : Program} {ops : Array Oper} {rest : List Oper} {o : Oper} {a : Act} {Q : Exit → Act → World → Prop} {α : Type} (d : Kd α) {w0 W : World} (base e : Nat) (hgd : o.guard = none) {N : Tmp} (_hd : o.dst = some N) (t : TypeId) (x y : Operand) (ho : o.op = .makeSlice t x y) (n : Int) (hx : a.eval x = .int .i64 0) (hy : a.eval y = .int .i64 n)
    (ht : P.underlying t = some (.slice e)) (z : Value) (bytes : Nat) (hinfo : (P.info? e).map (fun i => (i.zero, i.size, i.bytes)) = some (some z, d.sz, bytes)) (hz : z.cells.size = d.sz) (hs0 : 0 < d.sz) (hb0 : 0 < bytes)
    (z0 : α) {ok okp : Nat → Prop} (_hzero : d.M W base okp z0 z.cells.toList) (_hok : ∀ k, okp k → ok k) (hfresh : ok W.heap.size) (h0 : 0 ≤ n) (hl : n.toNat * bytes ≤ 281474976710656) (HB : Below base w0 W) (hbase : base ≤ W.heap.size)
    (h : ∀ v1 w1, d.R e w1 base ok v1 ([] : List α) → Below base w0 w1 → W.grownBy w1 none → (∃ b, v1.ownBlock = some b ∧ W.heap.size ≤ b) → wpList P ops Q rest (a.put o.dst v1) w1) : wpList P ops Q (o :: rest) a W := by
  obtain ⟨m, rfl⟩ := Int.eq_ofNat_of_zero_le h0
  simp only [Int.toNat_natCast] at hl
  obtain ⟨i0, hi, hzz⟩ := Option.map_eq_some_iff.1 hinfo
  simp only [Prod.mk.injEq] at hzz
  obtain ⟨hz0, hz1, hz2⟩ := hzz
  have hm : m ≤ 281474976710656 := Nat.le_trans (Nat.le_mul_of_pos_right _ hb0) hl
  have hr := run_make (P := P) W t e i0 z ht hi hz0 .i64 .i64 (0 : Int) (m : Int) (by omega) (by omega)
    (by
      have h3 : ((i0.bytes * m : Nat) : Int) ≤ 281474976710656 := by rw [hz2, Nat.mul_comm]; omega
      rwa [Int.natCast_mul] at h3) (by omega)
  simp only [Int.toNat_natCast, Int.toNat_zero] at hr
  rw [hz1] at hr
  have hrun : (execOp a.eval o).run P W = .ok (.value (.slice (some ⟨W.heap.size, 0, none⟩) 0 m)) (W.alloc (.cells (madeCells z.cells (m * d.sz)) e)) := by simp [execOp, ho, hx, hy, hr]
  have hown := own_take (m := 0) (World.ownsRow_lit (base := base) (e := e) (size := d.sz) W (madeCells z.cells (m * d.sz)) m hbase (by simp only [maxLen]; omega) (by simp [size_madeCells])) (Nat.zero_le _)
  rw [Nat.zero_mul, List.take_zero] at hown
  refine Kd.event_run hgd hrun (h _ _ ⟨fun k hk => ?_, [], hown, Reps.none _ _⟩ (HB.alloc hbase _) (World.grownBy_alloc W _ none) ⟨W.heap.size, by simp [Value.ownBlock], Nat.le_refl _⟩)
  have : W.heap.size = k := by simpa [Value.ownBlock] using hk
  subst this
  exact hfresh
theorem Kd.S_make0 {P : Program} {ops : Array Oper} {rest : List Oper} {o : Oper} {a : Act} {Q : Exit → Act → World → Prop} {α : Type} (d : Kd α) {w0 W : World} (base e : Nat) (hgd : o.guard = none) {N : Tmp} (hd : o.dst = some N) (t : TypeId) (x y : Operand) (ho : o.op = .makeSlice t x y) (n : Int) (hx : a.eval x = .int .i64 0) (hy : a.eval y = .int .i64 n)
    (ht : P.underlying t = some (.slice e)) (z : Value) (bytes : Nat) (hinfo : (P.info? e).map (fun i => (i.zero, i.size, i.bytes)) = some (some z, d.sz, bytes)) (hz : z.cells.size = d.sz) (hs0 : 0 < d.sz) (hb0 : 0 < bytes)
    (z0 : α) {ok okp : Nat → Prop} (hzero : d.M W base (fun _ => False) z0 z.cells.toList) (_hok : ∀ k, okp k → ok k) (hfresh : ok W.heap.size) (h0 : 0 ≤ n) (hl : n.toNat * bytes ≤ 281474976710656) (HB : Below base w0 W) (hbase : base ≤ W.heap.size)
    (h : ∀ v1 w1, d.S e w1 base ok v1 ([] : List α) → Below base w0 w1 → W.grownBy w1 none → (∃ b, v1.ownBlock = some b ∧ W.heap.size ≤ b) → wpList P ops Q rest (a.put o.dst v1) w1) : wpList P ops Q (o :: rest) a W :=
  Kd.R_make0 (Kd.bare d) base e hgd hd t x y ho n hx hy ht z bytes hinfo hz hs0 hb0 z0 (ok := ok) (okp := ok) hzero (fun _ hk => hk) hfresh h0 hl HB hbase (fun v1 w1 hr => h v1 w1 (Kd.S_bare hr))

theorem info5 : (Tryz.prog.info? 5).map (fun i => (i.zero, i.size, i.bytes)) = some (some (.int .u8 0), 1, 1) := by kernel_rfl
theorem info9 : (Tryz.prog.info? 9).map (fun i => (i.zero, i.size, i.bytes)) = some (some (.string ⟨#[]⟩), 1, 16) := by kernel_rfl
theorem info51 : (Tryz.prog.info? 51).map (fun i => (i.zero, i.size, i.bytes)) = some (some (.agg #[(.string ⟨#[]⟩), (.string ⟨#[]⟩)]), 2, 32) := by kernel_rfl
-- the values' own types
/-! #### struct type 51 -/
structure S51 where
  f0 : ByteArray
  f1 : ByteArray
def z51 : S51 := ⟨(⟨#[]⟩ : ByteArray), (⟨#[]⟩ : ByteArray)⟩
def k51 : Kd S51 := Kd.iso (Kd.pair Kd.string Kd.string) (fun x : S51 => (x.f0, x.f1))
theorem k51_open {w : World} {x : S51} {cs : List Value} (h : k51.K w x cs) : cs = [.string x.f0, .string x.f1] := by
  obtain ⟨_, _, rfl, rfl, rfl⟩ := h
  exact rfl
theorem k51_openM {w : World} {base : Nat} {ok : Nat → Prop} {x : S51} {cs : List Value} (h : k51.M w base ok x cs) : cs = [.string x.f0, .string x.f1] := by
  obtain ⟨_, _, rfl, rfl, rfl⟩ := h
  exact rfl
theorem k51_mk (w : World) (x : S51)  : k51.K w x [.string x.f0, .string x.f1] := ⟨[.string x.f0], [.string x.f1], rfl, rfl, rfl⟩
theorem k51_mkM (w : World) (base : Nat) (ok : Nat → Prop) (x : S51)  : k51.M w base ok x [.string x.f0, .string x.f1] := ⟨[.string x.f0], [.string x.f1], rfl, rfl, rfl⟩
def rd_T51 (xs : List S51) (i : Int) : S51 := xs.getD i.toNat z51
theorem at_T51 {w : World} {A : Option Addr} {n : Nat} {xs : List S51} (h : Kd.C k51 w A n xs) (i : Int) (h0 : 0 ≤ i) (h1 : i < n) : ∃ ad , A = some ad ∧ w.cell? (ad.add (i.toNat * 2)) = some (.string (rd_T51 xs i).f0) ∧ w.cell? ⟨(ad.add (i.toNat * 2)).block, (ad.add (i.toNat * 2)).off + 1, none⟩ = some (.string (rd_T51 xs i).f1) := by
  obtain ⟨ad, c, e, _, hK, hc0⟩ := Kd.C_get h z51 i h0 h1
  have hc : ∀ j u, c[j]? = some u → w.cell? (ad.add (i.toNat * 2 + j)) = some u := hc0
  obtain rfl := k51_open hK
  exact ⟨ad, e, hc 0 _ rfl, by rw [← add_field _ _ 1 (by omega)]; exact hc 1 _ rfl⟩

def rd_L4 (xs : List (List Int)) (i : Int) : (List Int) := xs.getD i.toNat ([] : List Int)
theorem at_L4 {w : World} {A : Option Addr} {n : Nat} {xs : List (List Int)} (h : Kd.C (Kd.slice 5 (Kd.int .u8)) w A n xs) (i : Int) (h0 : 0 ≤ i) (h1 : i < n) : ∃ ad A0 c0, A = some ad ∧ w.cell? (ad.add i.toNat) = some (.slice A0 (rd_L4 xs i).length c0) ∧ (rd_L4 xs i).length ≤ c0 ∧ (Kd.int .u8).C w A0 (rd_L4 xs i).length (rd_L4 xs i) := by
  obtain ⟨ad, c, e, _, hK, hc0⟩ := Kd.C_get h ([] : List Int) i h0 h1
  have hc : ∀ j u, c[j]? = some u → w.cell? (ad.add (i.toNat * 1 + j)) = some u := hc0
  obtain ⟨A0, c0, rfl, l0, g0⟩ := hK
  exact ⟨ad, A0, c0, e, by have hq := hc 0 _ rfl; rwa [Nat.mul_one, Nat.add_zero] at hq, l0, g0⟩

def rd_L5 (xs : List (List ByteArray)) (i : Int) : (List ByteArray) := xs.getD i.toNat ([] : List ByteArray)
theorem at_L5 {w : World} {A : Option Addr} {n : Nat} {xs : List (List ByteArray)} (h : Kd.C (Kd.slice 9 Kd.string) w A n xs) (i : Int) (h0 : 0 ≤ i) (h1 : i < n) : ∃ ad A0 c0, A = some ad ∧ w.cell? (ad.add i.toNat) = some (.slice A0 (rd_L5 xs i).length c0) ∧ (rd_L5 xs i).length ≤ c0 ∧ Kd.string.C w A0 (rd_L5 xs i).length (rd_L5 xs i) := by
  obtain ⟨ad, c, e, _, hK, hc0⟩ := Kd.C_get h ([] : List ByteArray) i h0 h1
  have hc : ∀ j u, c[j]? = some u → w.cell? (ad.add (i.toNat * 1 + j)) = some u := hc0
  obtain ⟨A0, c0, rfl, l0, g0⟩ := hK
  exact ⟨ad, A0, c0, e, by have hq := hc 0 _ rfl; rwa [Nat.mul_one, Nat.add_zero] at hq, l0, g0⟩

def rd_L9 (xs : List (List S51)) (i : Int) : (List S51) := xs.getD i.toNat ([] : List S51)
theorem at_L9 {w : World} {A : Option Addr} {n : Nat} {xs : List (List S51)} (h : Kd.C (Kd.slice 51 k51) w A n xs) (i : Int) (h0 : 0 ≤ i) (h1 : i < n) : ∃ ad A0 c0, A = some ad ∧ w.cell? (ad.add i.toNat) = some (.slice A0 (rd_L9 xs i).length c0) ∧ (rd_L9 xs i).length ≤ c0 ∧ k51.C w A0 (rd_L9 xs i).length (rd_L9 xs i) := by
  obtain ⟨ad, c, e, _, hK, hc0⟩ := Kd.C_get h ([] : List S51) i h0 h1
  have hc : ∀ j u, c[j]? = some u → w.cell? (ad.add (i.toNat * 1 + j)) = some u := hc0
  obtain ⟨A0, c0, rfl, l0, g0⟩ := hK
  exact ⟨ad, A0, c0, e, by have hq := hc 0 _ rfl; rwa [Nat.mul_one, Nat.add_zero] at hq, l0, g0⟩

/-! #### struct type 24 -/
structure S24 where
  f0 : ByteArray
  f1 : ByteArray
  f2 : ByteArray
  f3 : (List S51)
  f4 : (List S51)
def z24 : S24 := ⟨(⟨#[]⟩ : ByteArray), (⟨#[]⟩ : ByteArray), (⟨#[]⟩ : ByteArray), ([] : List S51), ([] : List S51)⟩
def k24 : Kd S24 := Kd.iso (Kd.pair Kd.string (Kd.pair Kd.string (Kd.pair Kd.string (Kd.pair (Kd.slice 51 k51) (Kd.slice 51 k51))))) (fun x : S24 => (x.f0, x.f1, x.f2, x.f3, x.f4))
theorem k24_open {w : World} {x : S24} {cs : List Value} (h : k24.K w x cs) : ∃ A3 c3 A4 c4, cs = [.string x.f0, .string x.f1, .string x.f2, .slice A3 x.f3.length c3, .slice A4 x.f4.length c4] ∧ x.f3.length ≤ c3 ∧ k51.C w A3 x.f3.length x.f3 ∧ x.f4.length ≤ c4 ∧ k51.C w A4 x.f4.length x.f4 := by
  obtain ⟨_, _, rfl, rfl, ⟨_, _, rfl, rfl, ⟨_, _, rfl, rfl, ⟨_, _, rfl, ⟨A3, c3, rfl, l3, g3⟩, ⟨A4, c4, rfl, l4, g4⟩⟩⟩⟩⟩ := h
  exact ⟨A3, c3, A4, c4, rfl, l3, g3, l4, g4⟩
theorem k24_openM {w : World} {base : Nat} {ok : Nat → Prop} {x : S24} {cs : List Value} (h : k24.M w base ok x cs) : ∃ v3 v4, cs = [.string x.f0, .string x.f1, .string x.f2, v3, v4] ∧ k51.R 51 w base ok v3 x.f3 ∧ k51.R 51 w base ok v4 x.f4 := by
  obtain ⟨_, _, rfl, rfl, ⟨_, _, rfl, rfl, ⟨_, _, rfl, rfl, ⟨_, _, rfl, ⟨v3, rfl, g3⟩, ⟨v4, rfl, g4⟩⟩⟩⟩⟩ := h
  exact ⟨v3, v4, rfl, g3, g4⟩
theorem k24_mk (w : World) (x : S24) {A3 : Option Addr} {c3 : Nat} (l3 : x.f3.length ≤ c3) (g3 : k51.C w A3 x.f3.length x.f3) {A4 : Option Addr} {c4 : Nat} (l4 : x.f4.length ≤ c4) (g4 : k51.C w A4 x.f4.length x.f4) : k24.K w x [.string x.f0, .string x.f1, .string x.f2, .slice A3 x.f3.length c3, .slice A4 x.f4.length c4] := ⟨[.string x.f0], [.string x.f1, .string x.f2, .slice A3 x.f3.length c3, .slice A4 x.f4.length c4], rfl, rfl, ⟨[.string x.f1], [.string x.f2, .slice A3 x.f3.length c3, .slice A4 x.f4.length c4], rfl, rfl, ⟨[.string x.f2], [.slice A3 x.f3.length c3, .slice A4 x.f4.length c4], rfl, rfl, ⟨[.slice A3 x.f3.length c3], [.slice A4 x.f4.length c4], rfl, ⟨A3, c3, rfl, l3, g3⟩, ⟨A4, c4, rfl, l4, g4⟩⟩⟩⟩⟩
theorem k24_mkM (w : World) (base : Nat) (ok : Nat → Prop) (x : S24) {v3 : Value} (g3 : k51.R 51 w base ok v3 x.f3) {v4 : Value} (g4 : k51.R 51 w base ok v4 x.f4) : k24.M w base ok x [.string x.f0, .string x.f1, .string x.f2, v3, v4] := ⟨[.string x.f0], [.string x.f1, .string x.f2, v3, v4], rfl, rfl, ⟨[.string x.f1], [.string x.f2, v3, v4], rfl, rfl, ⟨[.string x.f2], [v3, v4], rfl, rfl, ⟨[v3], [v4], rfl, ⟨v3, rfl, g3⟩, ⟨v4, rfl, g4⟩⟩⟩⟩⟩
def rd_T24 (xs : List S24) (i : Int) : S24 := xs.getD i.toNat z24
theorem at_T24 {w : World} {A : Option Addr} {n : Nat} {xs : List S24} (h : Kd.C k24 w A n xs) (i : Int) (h0 : 0 ≤ i) (h1 : i < n) : ∃ ad A3 c3 A4 c4, A = some ad ∧ w.cell? (ad.add (i.toNat * 5)) = some (.string (rd_T24 xs i).f0) ∧ w.cell? ⟨(ad.add (i.toNat * 5)).block, (ad.add (i.toNat * 5)).off + 1, none⟩ = some (.string (rd_T24 xs i).f1) ∧ w.cell? ⟨(ad.add (i.toNat * 5)).block, (ad.add (i.toNat * 5)).off + 2, none⟩ = some (.string (rd_T24 xs i).f2) ∧ w.cell? ⟨(ad.add (i.toNat * 5)).block, (ad.add (i.toNat * 5)).off + 3, none⟩ = some (.slice A3 (rd_T24 xs i).f3.length c3) ∧ w.cell? ⟨(ad.add (i.toNat * 5)).block, (ad.add (i.toNat * 5)).off + 4, none⟩ = some (.slice A4 (rd_T24 xs i).f4.length c4) ∧ (rd_T24 xs i).f3.length ≤ c3 ∧ k51.C w A3 (rd_T24 xs i).f3.length (rd_T24 xs i).f3 ∧ (rd_T24 xs i).f4.length ≤ c4 ∧ k51.C w A4 (rd_T24 xs i).f4.length (rd_T24 xs i).f4 := by
  obtain ⟨ad, c, e, _, hK, hc0⟩ := Kd.C_get h z24 i h0 h1
  have hc : ∀ j u, c[j]? = some u → w.cell? (ad.add (i.toNat * 5 + j)) = some u := hc0
  obtain ⟨A3, c3, A4, c4, rfl, l3, g3, l4, g4⟩ := k24_open hK
  exact ⟨ad, A3, c3, A4, c4, e, hc 0 _ rfl, by rw [← add_field _ _ 1 (by omega)]; exact hc 1 _ rfl, by rw [← add_field _ _ 2 (by omega)]; exact hc 2 _ rfl, by rw [← add_field _ _ 3 (by omega)]; exact hc 3 _ rfl, by rw [← add_field _ _ 4 (by omega)]; exact hc 4 _ rfl, l3, g3, l4, g4⟩

end Go.Proofs.YtpmllmfamjpinaaGreatDoor.P
