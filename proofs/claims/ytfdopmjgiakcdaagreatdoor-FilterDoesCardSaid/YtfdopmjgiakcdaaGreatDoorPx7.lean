-- written by wip/tool/hprint.py of this repo: the kit's print, with contracts by hand joined; Lean checks it.
import Derived.Test.YtfdopmjgiakcdaaGreatDoorPx0
import Derived.Test.YtfdopmjgiakcdaaGreatDoorPx5
import Derived.Test.YtfdopmjgiakcdaaGreatDoorPx6
namespace Go.Proofs.YtfdopmjgiakcdaaGreatDoor.P
open Go.RowKit Go.Proofs.YtfdopmjgiakcdaaGreatDoorW.PrintWords Go.Proofs.YtfdopmjgiakcdaaGreatDoorW.PrintLast Go.Proofs.YtfdopmjgiakcdaaGreatDoorW.PrintMore
attribute [local go_sem] max2_int min2_int max_two min_two max_three min_three max_four min_four   -- for this text's walks alone
set_option linter.unusedVariables false
set_option linter.unusedSimpArgs false

/-! ### api_Pair_115: function 115 -/
set_option maxHeartbeats 8000000 in
set_option maxRecDepth 100000 in
theorem api_Pair_115.calls (A0 : Option Addr) (c0 : Nat) (l0 : List (S59)) (w : World) (hr0 : Kd.C k59 w A0 l0.length l0) (p : S59 → Bool) (g : Nat) (lb : Array Value)
  (eg : ∀ args W, (callFunc g args).run Tryz.prog W = .ok (.enter g args) W) (hp : PredK Tryz.prog g lb k59 l0 p w) :
  Calls Tryz.prog 115 #[.slice A0 l0.length c0, .func (.func g) #[] lb] w fun e w' => e = .returned (.int .i64 (idxI p l0)) ∧ Below w.heap.size w w' := by
 have HR := Aside0.mk hr0;have HP := Aside0.mk hp;have hmx := hr0.2.1;clear hr0 hp;go_enter Tryz.func115, Tryz.ntmps115;go_wp2;go_loopg [5, 8] l0.length (fun gg _ s8 wr => ∃ kk : Nat, kk ≤ l0.length ∧ l0.length - kk ≤ gg ∧ s8 = .int .i64 kk ∧ Aside0 (Below w.heap.size w wr) ∧ Aside0 (∀ j : Nat, j < kk → p (rd_T59 l0 j) = false))
 case atStart => exact ⟨0, Nat.zero_le _, by omega, rfl, ⟨Below.refl _ w⟩, ⟨fun j hj => absurd hj (Nat.not_lt_zero _)⟩⟩
 case round =>
  obtain ⟨kk, hkk, hg, rfl, BW, AL⟩ := hrel;by_cases hlt : kk < l0.length
  ·have p1 : (0 : Int) ≤ (kk : Int) := by omega
   have q1 : (kk : Int) < (l0.length : Int) := by omega
   obtain ⟨ad, ea, hx_0, hx_1⟩ := at_T59 HR.out (kk : Int) p1 q1;cases ea
   replace hx_0 := (BW.out.cell (World.block_lt_of_cell? w _ hx_0)).trans hx_0;replace hx_1 := (BW.out.cell (World.block_lt_of_cell? w _ hx_1)).trans hx_1;have hmem : rd_T59 l0 (kk : Int) ∈ l0 := by
    unfold rd_T59;rw [Int.toNat_natCast, getD_at _ _ hlt];exact List.getElem_mem hlt
   have hcall := HP.out wr (rd_T59 l0 (kk : Int)) [.string (rd_T59 l0 (kk : Int)).f0, .string (rd_T59 l0 (kk : Int)).f1] hmem BW.out (k59_mk _ _);clear hmem;simp only [Int.toNat_natCast] at hx_0 hx_1;generalize hy : rd_T59 l0 (kk : Int) = y at *;have HY := Aside0.mk hy;clear hy;replace p1 := eq_true p1;replace q1 := eq_true q1;cases hq : p y with
   | true =>
    rw [hq] at hcall;have HQ := Aside0.mk hq;clear hq;have HC := Aside0.mk hcall;clear hcall;go_wp2_with (go_at_fn g; refine HC.out.mono ?_; rintro e w' ⟨rfl, hb'⟩; have HB' := Aside0.mk hb'; clear hb');go_ret;refine ⟨?_, HB'.out⟩;rw [idxI_hit p l0 kk hlt (fun j hj => by have := AL.out j hj; unfold rd_T59 at this; rwa [Int.toNat_natCast, getD_at _ _ (by omega)] at this) (by have := HY.out; unfold rd_T59 at this; rw [Int.toNat_natCast, getD_at _ _ hlt] at this; rw [this]; exact HQ.out)];rfl
   | false =>
    rw [hq] at hcall;have HQ := Aside0.mk hq;clear hq;have HC := Aside0.mk hcall;clear hcall;go_wp2_with (go_at_fn g; refine HC.out.mono ?_; rintro e w' ⟨rfl, hb'⟩; have HB' := Aside0.mk hb'; clear hb');go_roundg (l0.length - (kk + 1))
    case measure => omega
    case rel =>
     refine ⟨kk + 1, by omega, by omega, by go_num, HB', ⟨fun j hj => ?_⟩⟩;by_cases e : j = kk
     ·subst e
      rw [HY.out]; exact HQ.out
     ·exact AL.out j (by omega)
  ·have q1 : ¬ (kk : Int) < (l0.length : Int) := by omega
   obtain rfl : kk = l0.length := by omega
   go_wp2;go_ret;refine ⟨?_, BW.out⟩;rw [idxI_miss p l0 (fun j hj => by have := AL.out j hj; unfold rd_T59 at this; rwa [Int.toNat_natCast, getD_at _ _ hj] at this)];rfl

/-- Pairs in a block of cells of their own. -/
def Row2 (w : World) (g cap : Nat) (l : List S59) : Prop := ∃ cur, w.heap[g]? = some (.cells cur 59 (0, 0)) ∧ cur.size = cap * 2 ∧ l.length ≤ cap ∧ ∀ j (hj : j < l.length), cur[j * 2]? = some (.string (l[j]'hj).f0) ∧ cur[j * 2 + 1]? = some (.string (l[j]'hj).f1)
theorem Row2.cell {w : World} {g cap : Nat} {l : List S59} (h : Row2 w g cap l) (j : Nat) (hj : j < l.length) : w.cell? ⟨g, j * 2, none⟩ = some (.string (l[j]'hj).f0) ∧ w.cell? ⟨g, j * 2 + 1, none⟩ = some (.string (l[j]'hj).f1) := by
 obtain ⟨cur, hh, hs, hl, hc⟩ := h
 exact ⟨(blk_cell hh _).trans (hc j hj).1, (blk_cell hh _).trans (hc j hj).2⟩
theorem Row2.room {w : World} {g cap : Nat} {l : List S59} (h : Row2 w g cap l) (j : Nat) (hj : j < cap * 2) : (w.cell? ⟨g, j, none⟩).isSome = true := by
 obtain ⟨cur, hh, hs, hl, hc⟩ := h
 rw [blk_cell hh, Array.getElem?_eq_getElem (by omega)]; rfl
theorem Row2.frozen {w : World} {g cap : Nat} {l : List S59} (h : Row2 w g cap l) (j : Nat) : w.frozen? ⟨g, j, none⟩ = false := by
 obtain ⟨cur, hh, hs, hl, hc⟩ := h
 exact blk_frozen hh _
theorem Row2.lt {w : World} {g cap : Nat} {l : List S59} (h : Row2 w g cap l) : g < w.heap.size := by
 obtain ⟨cur, hh, hs, hl, hc⟩ := h
 exact blk_lt hh
theorem Row2.put {w : World} {g cap : Nat} {l : List S59} (h : Row2 w g cap l) (i : Nat) (hi : i < l.length) (x : S59) : Row2 ((w.setCell ⟨g, i * 2, none⟩ (.string x.f0)).setCell ⟨g, i * 2 + 1, none⟩ (.string x.f1)) g cap (l.set i x) := by
 obtain ⟨cur, hh, hs, hl, hc⟩ := h
 refine ⟨_, blk_put (blk_put hh (i * 2) _ rfl) (i * 2 + 1) _ rfl, by simpa using hs, by simpa using hl, fun j hj => ?_⟩
 have hj' : j < l.length := by simpa using hj
 have := hc j hj'
 simp only [Array.getElem?_setIfInBounds, Array.size_setIfInBounds, List.getElem_set]
 by_cases e : i = j
 ·subst e
  simp [show i * 2 < cur.size by omega, show i * 2 + 1 < cur.size by omega]
 ·have e1 : ¬ i * 2 = j * 2 := by omega
  have e2 : ¬ i * 2 + 1 = j * 2 + 1 := by omega
  have e3 : ¬ i * 2 + 1 = j * 2 := by omega
  have e4 : ¬ i * 2 = j * 2 + 1 := by omega
  simp [e, e1, e2, e3, e4, this]
theorem Row2.move {w w' : World} {g cap : Nat} {l : List S59} (h : Row2 w g cap l) (hm : w'.heap[g]? = w.heap[g]?) : Row2 w' g cap l := by
 obtain ⟨cur, hh, h⟩ := h
 exact ⟨cur, hm.trans hh, h⟩
theorem Row2.below {w w' : World} {g cap : Nat} {l : List S59} (h : Row2 w g cap l) (hb : Below w.heap.size w w') : Row2 w' g cap l := h.move (hb.block g h.lt)
theorem Row2.take {w : World} {g cap : Nat} {l : List S59} (h : Row2 w g cap l) (k : Nat) : Row2 w g cap (l.take k) := by
 obtain ⟨cur, hh, hs, hl, hc⟩ := h
 exact ⟨cur, hh, hs, by rw [List.length_take]; omega, fun j hj => by rw [List.getElem_take]; exact hc j (by rw [List.length_take] at hj; omega)⟩
theorem row2_of {w : World} {base : Nat} {ok : Nat → Prop} {A : Addr} {n c : Nat} {l : List S59} (h : Kd.R k59 59 w base ok (.slice (some A) n c) l) : ∃ g, A = ⟨g, 0, none⟩ ∧ n = l.length ∧ base ≤ g ∧ c ≤ maxLen ∧ Row2 w g c l := by
 obtain ⟨_, inner, ⟨hl, ho⟩, hr⟩ := h
 rcases ho with ⟨e, _⟩ | ⟨g, cap, cur, e, hb, hh, hn, hx, hs, ht⟩
 ·cases e
 ·injection e with e1 e2 e3
  injection e1 with e1
  subst e1 e2 e3
  refine ⟨g, rfl, rfl, hb, hx, cur, hh, hs, hn, fun j hj => ?_⟩
  have hK := k59_openM (hr.2 j (l[j]'hj) (List.getElem?_eq_getElem hj))
  have hz : k59.sz = 2 := rfl
  rw [hz] at hK ht
  have g0 : inner[j * 2]? = some (.string (l[j]'hj).f0) := by
   have := congrArg (fun z => z[0]?) hK
   simpa [List.getElem?_take, List.getElem?_drop] using this
  have g1 : inner[j * 2 + 1]? = some (.string (l[j]'hj).f1) := by
   have := congrArg (fun z => z[1]?) hK
   simpa [List.getElem?_take, List.getElem?_drop] using this
  rw [← ht, List.getElem?_take] at g0 g1
  rw [if_pos (by omega)] at g0 g1
  exact ⟨by simpa using g0, by simpa using g1⟩
theorem Row2.R {w : World} {g cap : Nat} {l : List S59} (h : Row2 w g cap l) {base : Nat} (hb : base ≤ g) (hx : cap ≤ maxLen) : Kd.R k59 59 w base (fun _ => True) (.slice (some ⟨g, 0, none⟩) l.length cap) l := by
 obtain ⟨cur, hh, hs, hn, hc⟩ := h
 have hz : k59.sz = 2 := rfl
 have hcl : (cur.toList.take (l.length * 2)).length = l.length * 2 := by simp only [List.length_take, Array.length_toList]; omega
 refine ⟨fun _ _ => trivial, cur.toList.take (l.length * 2), ⟨by rw [hz]; exact hcl, .inr ⟨g, cap, cur, rfl, hb, hh, hn, hx, hs, rfl⟩⟩, by rw [hz]; exact hcl, fun j p hj => ?_⟩
 obtain ⟨hj1, rfl⟩ := List.getElem?_eq_some_iff.1 hj
 have hc' := hc j hj1
 rw [hz, show ((cur.toList.take (l.length * 2)).drop (j * 2)).take 2 = [.string (l[j]'hj1).f0, .string (l[j]'hj1).f1] from ?_]
 ·exact k59_mkM _ _ _ _
 ·apply List.ext_getElem?
  intro k
  rw [List.getElem?_take, List.getElem?_drop, List.getElem?_take]
  rcases k with _ | _ | k
  ·rw [if_pos (by omega), if_pos (by omega)]; simpa using hc'.1
  ·rw [if_pos (by omega), if_pos (by omega)]; simpa using hc'.2
  ·rw [if_neg (by omega)]; simp
theorem gb_below {w W : World} {row : Option Nat} (h : Below w.heap.size w W) : w.grownBy W row := ⟨h.os, h.tape, h.output, h.size, fun k hk _ => h.block k hk⟩
theorem gb_trans {w W W' : World} {row : Option Nat} (h : w.grownBy W row) (hb : W.grownBy W' row) : w.grownBy W' row := ⟨hb.os.trans h.os, hb.tape.trans h.tape, hb.output.trans h.output, Nat.le_trans h.size hb.size, fun k hk hr => (hb.block k (Nat.lt_of_lt_of_le hk h.size) hr).trans (h.block k hk hr)⟩
theorem gb_step {w W W' : World} {row : Option Nat} (h : w.grownBy W row) (hb : Below W.heap.size W W') : w.grownBy W' row := gb_trans h (gb_below hb)
theorem gb_set {w W : World} {g : Nat} (h : w.grownBy W (some g)) (j : Nat) (u : Value) : w.grownBy (W.setCell ⟨g, j, none⟩ u) (some g) :=
 gb_trans h ⟨rfl, rfl, rfl, by simp [World.setCell], fun k hk hr => Below.heap_setCell W ⟨g, j, none⟩ u k (fun e => hr (by rw [e]))⟩
/-- What grew but for a block made later than B is as it was below B. -/
theorem gb_out {w W : World} {B : Nat} {row : Option Nat} (h : w.grownBy W row) (hB : B ≤ w.heap.size) (hr : ∀ k, row = some k → B ≤ k) : Below B w W := ⟨h.os, h.tape, h.output, h.size, fun k hk => h.block k (by omega) (fun e => by have := hr k e.symm; omega)⟩

/-! ### api_Pair_102: function 102 -/
theorem idxI_spec {α : Type} (p : α → Bool) (l : List α) : (idxI p l = -1 ∧ ∀ x ∈ l, p x = false) ∨ ∃ (k : Nat) (hk : k < l.length), idxI p l = (k : Int) ∧ p (l[k]'hk) = true ∧ ∀ j (hj : j < k), p (l[j]'(by omega)) = false := by
 by_cases h : l.any p = true
 ·have hlt : l.findIdx p < l.length := List.findIdx_lt_length_of_exists (by obtain ⟨x, hx, hp⟩ := List.any_eq_true.1 h; exact ⟨x, hx, hp⟩)
  have h2 := (List.findIdx_eq hlt).1 rfl
  refine .inr ⟨_, hlt, by unfold idxI; rw [if_pos h], h2.1, fun j hj => by simpa using h2.2 j hj⟩
 ·refine .inl ⟨by unfold idxI; rw [if_neg h], fun x hx => ?_⟩
  have h' : l.any p = false := by simpa using h
  simpa using List.any_eq_false.1 h' x hx
/-- What the deleting loop keeps: of the first j elements i are kept, and lie at the head; from place i on all is as it was. -/
structure KeptD {α : Type} (p : α → Bool) (l : List α) (i j : Nat) (dk : List α) : Prop where
 len : dk.length = l.length
 lt : i < j
 le : j ≤ l.length
 head : dk.take i = (l.take j).filter (fun x => !p x)
 tail : dk.drop i = l.drop i
theorem KeptD.start {α : Type} {p : α → Bool} {l : List α} {k : Nat} (hk : k < l.length) (h0 : ∀ j (hj : j < k), p (l[j]'(by omega)) = false) (h1 : p (l[k]'hk) = true) : KeptD p l k (k + 1) l := by
 refine ⟨rfl, by omega, by omega, ?_, rfl⟩
 rw [List.take_succ_eq_append_getElem hk, List.filter_append, List.filter_cons, h1]
 have : (l.take k).filter (fun x => !p x) = l.take k := List.filter_eq_self.2 fun x hx => by
  obtain ⟨j, hj, rfl⟩ := List.getElem_of_mem hx
  rw [List.length_take] at hj
  rw [List.getElem_take, h0 j (by omega)]; rfl
 rw [this]; simp
theorem KeptD.at_ {α : Type} {p : α → Bool} {l dk : List α} {i j : Nat} (h : KeptD p l i j dk) (hj : j < l.length) : dk[j]'(by rw [h.len]; exact hj) = l[j]'hj := by
 have h1 := congrArg (fun z => z[j - i]?) h.tail
 have := h.lt
 simp only [List.getElem?_drop, show i + (j - i) = j by omega] at h1
 rw [List.getElem?_eq_getElem hj, List.getElem?_eq_getElem (by rw [h.len]; exact hj)] at h1
 exact Option.some.inj h1
theorem KeptD.keep {α : Type} {p : α → Bool} {l dk : List α} {i j : Nat} (h : KeptD p l i j dk) (hj : j < l.length) (hp : p (l[j]'hj) = false) : KeptD p l (i + 1) (j + 1) (dk.set i (l[j]'hj)) := by
 have h1 := h.lt; have h2 := h.len
 refine ⟨by simpa using h2, by omega, by omega, ?_, ?_⟩
 ·rw [List.take_succ_eq_append_getElem hj, List.filter_append, List.filter_cons, hp, ← h.head, List.take_succ_eq_append_getElem (by simp; omega), List.take_set_of_le (Nat.le_refl _)]
  simp
 ·rw [List.drop_set_of_lt (by omega)]
  have := congrArg (List.drop 1) h.tail
  simpa [List.drop_drop, Nat.add_comm] using this
theorem KeptD.skip {α : Type} {p : α → Bool} {l dk : List α} {i j : Nat} (h : KeptD p l i j dk) (hj : j < l.length) (hp : p (l[j]'hj) = true) : KeptD p l i (j + 1) dk := by
 have h1 := h.lt
 refine ⟨h.len, by omega, by omega, ?_, h.tail⟩
 rw [List.take_succ_eq_append_getElem hj, List.filter_append, List.filter_cons, hp, ← h.head]
 simp
theorem KeptD.done {α : Type} {p : α → Bool} {l dk : List α} {i j : Nat} (h : KeptD p l i j dk) (hj : ¬ j < l.length) : dk.take i = l.filter (fun x => !p x) ∧ i = (l.filter (fun x => !p x)).length ∧ i < l.length := by
 have h1 := h.lt; have h2 := h.le; have h3 := h.len
 have e := h.head
 rw [show l.take j = l from List.take_of_length_le (by omega)] at e
 refine ⟨e, ?_, by omega⟩
 rw [← e, List.length_take]; omega
theorem run_clear_pair {w : World} {g cap : Nat} {l : List S59} (h : Row2 w g cap l) (k : Nat) (hk : k < l.length) (ty c : Nat) :
  ∃ w1, (Builtin.clear_ #[31] ty #[.slice (some ⟨g, k * 2, none⟩) (l.length - k) c]).run Tryz.prog w = .ok (.tuple #[]) w1 ∧ Row2 w1 g cap (l.take k) ∧ w.grownBy w1 (some g) := by
 obtain ⟨cur, hh, hs, hl, hc⟩ := h
 have hv : ∀ W, (zeroValue 59).run Tryz.prog W = .ok ((.agg #[(.string ⟨#[]⟩), (.string ⟨#[]⟩)])) W := fun W => by
  have := info59
  cases hq : Tryz.prog.info? 59 with
  | none => rw [hq] at this; cases this
  | some i =>
   rw [hq] at this
   simp only [Option.map_some, Option.some.injEq, Prod.mk.injEq] at this
   simp [zeroValue, typeInfo, hq, this.1]
 have hz : ∀ v ∈ (Builtin.zeroCells ((.agg #[(.string ⟨#[]⟩), (.string ⟨#[]⟩)]) : Value).cells (l.length - k)).toList, v.oneCell' = true := fun v hv => by
  simp only [Builtin.zeroCells, Array.toList_map, List.mem_map] at hv
  obtain ⟨i, _, rfl⟩ := hv
  have : ∀ j, j < 2 → ((((.agg #[(.string ⟨#[]⟩), (.string ⟨#[]⟩)]) : Value).cells)[j]!).oneCell' = true := by decide
  exact this _ (Nat.mod_lt _ (by decide))
 have hzl : (Builtin.zeroCells ((.agg #[(.string ⟨#[]⟩), (.string ⟨#[]⟩)]) : Value).cells (l.length - k)).toList.length = (l.length - k) * 2 := by
  simp [Builtin.zeroCells]; rfl
 have hst := run_storeCells_at Tryz.prog g (k * 2) 59 (Builtin.zeroCells ((.agg #[(.string ⟨#[]⟩), (.string ⟨#[]⟩)]) : Value).cells (l.length - k)).toList 0 cur w hh (by rw [hzl]; omega) hz
 have hlt := blk_lt hh
 generalize hV : Builtin.zeroCells ((.agg #[(.string ⟨#[]⟩), (.string ⟨#[]⟩)]) : Value).cells (l.length - k) = V at hz hzl hst
 refine ⟨w.setRow g (cur.toList.take (k * 2 + 0) ++ V.toList ++ cur.toList.drop (k * 2 + 0 + V.toList.length)).toArray, ?_, ?_, ?_⟩
 ·obtain ⟨m, hm⟩ : ∃ m, l.length - k = m + 1 := ⟨l.length - k - 1, by omega⟩
  rw [hm] at hV ⊢
  simp only [Builtin.clear_, List.getElem?_toArray, List.getElem?_cons_zero, Sem.run_bind, run_underlying Tryz.underlying31, Result.andThen_ok, hv, hV, hst, Sem.run_pure]
 ·refine ⟨_, setRow_heap w g cur _ 59 _ hh, ?_, by rw [List.length_take]; omega, fun j hj => ?_⟩
  ·simp only [List.size_toArray, List.length_append, List.length_take, List.length_drop, Array.length_toList, hzl]; omega
  ·have hj' : j < k := by rw [List.length_take] at hj; omega
   have := hc j (by omega)
   rw [List.getElem_take]
   simp only [List.getElem?_toArray]
   rw [List.append_assoc, List.getElem?_append_left (by simp; omega), List.getElem?_append_left (by simp; omega), List.getElem?_take, List.getElem?_take, if_pos (by omega), if_pos (by omega)]
   simpa using this
 ·exact ⟨rfl, rfl, rfl, by simp [World.setRow], fun i _ hi => by simp [World.setRow, Array.getElem?_modify, show ¬ g = i from fun e => hi (by rw [e])]⟩
set_option maxHeartbeats 8000000 in
set_option maxRecDepth 100000 in
theorem api_Pair_102.calls (base : Nat) (v0 : Value) (l0 : List S59) (w : World) (hr : Kd.R k59 59 w base (fun _ => True) v0 l0) (p : S59 → Bool) (g : Nat) (lb : Array Value)
  (eg : ∀ args W, (callFunc g args).run Tryz.prog W = .ok (.enter g args) W)
  (hp : ∀ (W : World) (x : S59), x ∈ l0 → w.grownBy W v0.ownBlock → Calls Tryz.prog g (#[.agg #[.string x.f0, .string x.f1]] ++ lb) W fun e w' => e = .returned (.bool (p x)) ∧ Below W.heap.size W w') :
  Calls Tryz.prog 102 #[v0, .func (.func g) #[] lb] w fun e w' => ∃ v1, e = .returned v1 ∧ Kd.R k59 59 w' base (fun _ => True) v1 (l0.filter fun x => !p x) ∧ w.grownBy w' v0.ownBlock ∧ ((∃ x ∈ l0, p x = true) → ∃ g1 c, v0 = .slice (some ⟨g1, 0, none⟩) l0.length c ∧ v1 = .slice (some ⟨g1, 0, none⟩) (l0.filter fun x => !p x).length c) := by
 obtain ⟨A0, c0, rfl, hc0, hC⟩ := Kd.R_reads hr;have hmx := hC.2.1;have hix := api_Pair_115.calls A0 c0 l0 w hC p g lb eg (fun W x cs hx hb hk => by
  obtain rfl := k59_open hk;exact (hp W x hx (gb_below hb)).mono (fun e w' h => ⟨h.1, hb.trans (h.2.mono hb.size)⟩))
 rcases idxI_spec p l0 with ⟨e0, hall⟩ | ⟨k0, hk0, e0, hpk, hbef⟩
 ·rw [e0] at hix
  have hf : (l0.filter fun x => !p x) = l0 := List.filter_eq_self.2 fun x hx => by rw [hall x hx]; rfl
  rw [hf];have HR := Aside0.mk hr;have HI := Aside0.mk hix;have HA := Aside0.mk hall;clear hr hix hp hC hall e0 hf;go_enter Tryz.func102, Tryz.ntmps102;go_wp2_with (go_at_call 115; refine HI.out.mono ?_; rintro e w' ⟨rfl, hb'⟩; have HB' := Aside0.mk hb'; clear hb');go_ret;exact ⟨_, rfl, Kd.R_below HR.out HB'.out, gb_below HB'.out, fun ⟨x, hx, hpx⟩ => absurd hpx (by rw [HA.out x hx]; decide)⟩
 ·rw [e0] at hix
  obtain ⟨ad, rfl⟩ : ∃ ad, A0 = some ad := by
   obtain ⟨ad, he, _⟩ := hC.2.2 (by omega);exact ⟨ad, he⟩
  obtain ⟨gb, rfl, -, hgb, hcm, hrow⟩ := row2_of hr;have hp' : ∀ (W : World) (x : S59), x ∈ l0 → w.grownBy W (some gb) → Calls Tryz.prog g (#[.agg #[.string x.f0, .string x.f1]] ++ lb) W fun e w' => e = .returned (.bool (p x)) ∧ Below W.heap.size W w' := hp
  have HI := Aside0.mk hix;have HP := Aside0.mk hp';have HW := Aside0.mk hrow;have HK2 := am_ (KeptD.start hk0 hbef hpk);have HGB := am_ (And.intro hgb hcm);have hne1 : ((k0 : Int) == -1) = false := beq_eq_false_iff_ne.2 (by omega);clear hr hix hp hC hrow hbef hpk e0 hp' hgb hcm;go_enter Tryz.func102, Tryz.ntmps102;go_wp2_with (go_at_call 115; refine HI.out.mono ?_; rintro e w' ⟨rfl, hb'⟩; have HB' := Aside0.mk hb'; clear hb');go_loopg [5, 6, 7] l0.length (fun gg s5 s6 _ wr => ∃ (i j : Nat) (dk : List S59), s5 = .int .i64 i ∧ s6 = .int .i64 j ∧ j ≤ l0.length ∧ l0.length - j ≤ gg ∧ Aside0 (KeptD p l0 i j dk) ∧ Aside0 (Row2 wr gb c0 dk) ∧ Aside0 (w.grownBy wr (some gb)))
  case atStart => exact ⟨k0, k0 + 1, l0, rfl, by go_num, by omega, by omega, HK2, ⟨HW.out.below HB'.out⟩, ⟨gb_below HB'.out⟩⟩
  case round =>
   clear HW HK2 HB' HI;obtain ⟨i, j, dk, rfl, rfl, hjl, hgg, KI, RW, KB⟩ := hrel;have hij := KI.out.lt;have hdl := KI.out.len;by_cases hlt : j < l0.length
   ·have p1 : (0 : Int) ≤ (j : Int) := by omega
    have q1 : (j : Int) < (l0.length : Int) := by omega
    have p2 : (0 : Int) ≤ (i : Int) := by omega
    have q2 : (i : Int) < (l0.length : Int) := by omega
    obtain ⟨hx0, hx1⟩ := RW.out.cell j (by omega);have hgl := RW.out.lt;rw [KI.out.at_ hlt] at hx0 hx1;have hmem : l0[j]'hlt ∈ l0 := List.getElem_mem hlt;have hcall := HP.out (wr.alloc (.cells #[.string (l0[j]'hlt).f0, .string (l0[j]'hlt).f1] 59)) _ hmem (gb_step KB.out ((Below.refl _ wr).alloc (Nat.le_refl _) _));clear hmem;have KKeep : p (l0[j]'hlt) = false → KeptD p l0 (i + 1) (j + 1) (dk.set i (l0[j]'hlt)) := fun hq => KI.out.keep hlt hq
    have KSkip : p (l0[j]'hlt) = true → KeptD p l0 i (j + 1) dk := fun hq => KI.out.skip hlt hq
    generalize hy : l0[j]'hlt = y at *;clear hy;have hil : i < dk.length := by omega
    replace p1 := eq_true p1;replace q1 := eq_true q1;replace p2 := eq_true p2;replace q2 := eq_true q2;cases hq : p y with
    | true =>
     rw [hq] at hcall;have K2 := am_ (KSkip hq);have HC := Aside0.mk hcall;clear hcall hq KSkip KKeep;go_wp2_with (go_at_fn g; refine HC.out.mono ?_; rintro e w' ⟨rfl, hb'⟩; have HB' := am_ (((Below.refl wr.heap.size wr).alloc (Nat.le_refl _) _).trans (hb'.mono (by simp))); clear hb');go_roundg (l0.length - (j + 1))
     case measure => omega
     case rel => exact ⟨i, j + 1, dk, rfl, by go_num, by omega, by omega, K2, ⟨RW.out.below HB'.out⟩, ⟨gb_step KB.out HB'.out⟩⟩
    | false =>
     rw [hq] at hcall;have K2 := am_ (KKeep hq);have HC := Aside0.mk hcall;clear hcall hq KSkip KKeep;go_wp2_with (go_at_fn g; refine HC.out.mono ?_; rintro e w' ⟨rfl, hb'⟩; have HB' := am_ (((Below.refl wr.heap.size wr).alloc (Nat.le_refl _) _).trans (hb'.mono (by simp))); have hp0 : w'.cell? ⟨wr.heap.size, 0, none⟩ = some (.string y.f0) := (hb'.cell (p := ⟨wr.heap.size, 0, none⟩) (by simp)).trans (by simp [World.cell?_alloc_new]); have hp1 : w'.cell? ⟨wr.heap.size, 1, none⟩ = some (.string y.f1) := (hb'.cell (p := ⟨wr.heap.size, 1, none⟩) (by simp)).trans (by simp [World.cell?_alloc_new]); obtain ⟨ho0, ho1⟩ := (RW.out.below HB'.out).cell i hil; have hz0 := (RW.out.below HB'.out).frozen (i * 2); have hz1 := (RW.out.below HB'.out).frozen (i * 2 + 1); clear hb');go_roundg (l0.length - (j + 1))
     case measure => omega
     case rel => exact ⟨i + 1, j + 1, dk.set i y, by go_num, by go_num, by omega, by omega, K2, ⟨(RW.out.below HB'.out).put i hil y⟩, ⟨gb_set (gb_set (gb_step KB.out HB'.out) _ _) _ _⟩⟩
   ·obtain ⟨hd1, hd2, hd3⟩ := KI.out.done hlt
    obtain ⟨w1, hcl0, hr1, hk1⟩ := run_clear_pair RW.out i (by omega) 0 (c0 - i);have hcl : ∀ ty, (Builtin.clear_ #[31] ty #[.slice (some ⟨gb, i * 2, none⟩) (l0.length - i) (c0 - i)]).run Tryz.prog wr = .ok (.tuple #[]) w1 := fun ty => by rw [← hdl]; exact hcl0
    clear hcl0;rw [hd1] at hr1;have q1 : ¬ (j : Int) < (l0.length : Int) := by omega
    have hb1 : (0 : Int) ≤ (i : Int) := by omega
    have hb2 : (i : Int) ≤ (l0.length : Int) := by omega
    have hb3 : (i : Int) ≤ (c0 : Int) := by omega
    have R1 := Aside0.mk hr1;have K1 := Aside0.mk hk1;have D1 := Aside0.mk hd2;obtain rfl : j = l0.length := by omega
    clear hr1 hk1 hd1 hd2;go_wp2;go_ret;refine ⟨_, rfl, ?_, ?_, ?_⟩
    ·have := R1.out.R HGB.out.1 HGB.out.2
     rwa [← D1.out] at this
    ·exact gb_trans KB.out K1.out
    ·exact fun _ _ _ => ⟨gb, c0, ⟨rfl, rfl⟩, by rw [← D1.out]; rfl⟩

/-! ### pairs_finder: function 99 -/
/-- A function value that tells whether two texts are the same. -/
def SameAt (P : Program) (g : Nat) (q : ByteArray → ByteArray → Option Bool) : Prop :=
 ∀ (W : World) (a b : ByteArray) (r : Bool), q a b = some r → Calls P g #[.string a, .string b] W fun e w' => e = .returned (.bool r) ∧ Below W.heap.size W w'
def pOf (q : ByteArray → ByteArray → Option Bool) (name : ByteArray) (x : S59) : Bool := q x.f0 name == some true
def qAll (q : ByteArray → ByteArray → Option Bool) (l : List (S59)) (name : ByteArray) : Bool := l.all fun x => (q x.f0 name).isSome
def getI (q : ByteArray → ByteArray → Option Bool) (l : List (S59)) (name : ByteArray) : ByteArray × Bool := if idxI (pOf q name) l < 0 then ((⟨#[]⟩ : ByteArray), false) else ((rd_T59 l (idxI (pOf q name) l)).f1, true)
theorem idxI_lt {α : Type} (p : α → Bool) (l : List α) : idxI p l < l.length := by
 unfold idxI
 by_cases h : l.any p = true
 ·rw [if_pos h]
  have := List.findIdx_lt_length_of_exists (p := p) (xs := l) (by obtain ⟨x, hx, hp⟩ := List.any_eq_true.1 h; exact ⟨x, hx, hp⟩)
  omega
 ·rw [if_neg h]; omega
theorem same_at : SameAt Tryz.prog 36 pairs_Same.f := fun W a b r h => pairs_Same.calls a b r W h
set_option maxHeartbeats 8000000 in
set_option maxRecDepth 100000 in
theorem first1.pred (g : Nat) (q : ByteArray → ByteArray → Option Bool) (hs : SameAt Tryz.prog g q) (eg : ∀ args W, (callFunc g args).run Tryz.prog W = .ok (.enter g args) W) (fb nb : Nat) (name : ByteArray) (w : World) (l : List (S59))
  (hfb : fb < w.heap.size) (hnb : nb < w.heap.size) (hf : w.cell? ⟨fb, 0, none⟩ = some (.func (.func g) #[] #[])) (hn : w.cell? ⟨nb, 0, none⟩ = some (.string name)) (hq : qAll q l name = true) :
  PredK Tryz.prog 116 #[.pointer (some ⟨fb, 0, none⟩), .pointer (some ⟨nb, 0, none⟩)] k59 l (pOf q name) w := by
 intro W x cs hx hb hk
 obtain rfl := k59_open hk
 have hqx : q x.f0 name = some (pOf q name x) := by
  have := List.all_eq_true.1 hq x hx
  unfold pOf
  cases h : q x.f0 name with
  | none => rw [h] at this; cases this
  | some b => cases b <;> rfl
 have HQ := Aside0.mk hqx
 have HS := Aside0.mk hs
 have hf' : W.cell? ⟨fb, 0, none⟩ = some (.func (.func g) #[] #[]) := (hb.cell (p := ⟨fb, 0, none⟩) hfb).trans hf
 have hn' : W.cell? ⟨nb, 0, none⟩ = some (.string name) := (hb.cell (p := ⟨nb, 0, none⟩) hnb).trans hn
 have hf1 : fb ≠ W.heap.size := by have := hb.size; omega
 have hn1 : nb ≠ W.heap.size := by have := hb.size; omega
 have hfl : fb < W.heap.size := by have := hb.size; omega
 have hnl : nb < W.heap.size := by have := hb.size; omega
 have HB := Aside0.mk hb
 clear hqx hs hx hb hk hq hf hn hfb hnb
 show Calls Tryz.prog 116 #[.agg #[.string x.f0, .string x.f1], .pointer (some ⟨fb, 0, none⟩), .pointer (some ⟨nb, 0, none⟩)] W _
 generalize pOf q name x = b at HQ
 go_enter Tryz.func116, Tryz.ntmps116
 go_wp2_with (go_at_fn g; refine (HS.out _ x.f0 name b HQ.out).mono ?_; rintro e w' ⟨rfl, hb'⟩; have HB' := Aside0.mk hb'; clear hb')
 go_ret
 exact ⟨rfl, (HB.out.alloc HB.out.size _).trans (HB'.out.mono (by have := HB.out.size; simp; omega))⟩
set_option maxHeartbeats 8000000 in
set_option maxRecDepth 100000 in
theorem finder_first.calls (g : Nat) (q : ByteArray → ByteArray → Option Bool) (hs : SameAt Tryz.prog g q) (eg : ∀ args W, (callFunc g args).run Tryz.prog W = .ok (.enter g args) W) (A0 : Option Addr) (c0 : Nat) (l0 : List (S59)) (name : ByteArray) (w : World)
  (hr0 : Kd.C k59 w A0 l0.length l0) (hq : qAll q l0 name = true) :
  Calls Tryz.prog 99 #[.agg #[.func (.func g) #[] #[]], .slice A0 l0.length c0, .string name] w fun e w' => e = .returned (.int .i64 (idxI (pOf q name) l0)) ∧ Below w.heap.size w w' := by
 have eg1 : ∀ args W, (callFunc 116 args).run Tryz.prog W = .ok (.enter 116 args) W := enters_of Tryz.func116 kr_ rfl;have EG1 := Aside0.mk eg1;have HR := Aside0.mk hr0;have HS := Aside0.mk hs;have EG := Aside0.mk eg;have HQ := Aside0.mk hq;clear eg1 hr0 hs eg hq;go_enter Tryz.func99, Tryz.ntmps99;go_wp2_with (go_at_call 115; refine (api_Pair_115.calls A0 c0 l0 _ (by exact Kd.C_alloc (Kd.C_alloc HR.out _) _) (pOf q name) 116 _ EG1.out (by exact first1.pred g q HS.out EG.out w.heap.size (w.heap.size + 1) name _ l0 (by simp; omega) (by simp) (by simp [World.cell?_alloc_lt, World.cell?_alloc_new]) (by simp [World.cell?_alloc_new]) HQ.out)).mono ?_; rintro e w' ⟨rfl, hb'⟩; have HB' := Aside0.mk hb'; clear hb');go_ret;exact ⟨rfl, (((Below.refl _ w).alloc (Nat.le_refl _) _).alloc (by simp) _).trans (HB'.out.mono (by simp; omega))⟩

/-! ### pairs_Drop: function 86 -/
set_option maxHeartbeats 8000000 in
set_option maxRecDepth 100000 in
theorem drop1_at (nb : Nat) (name : ByteArray) (W : World) (x : S59) (b : Bool) (hn : W.cell? ⟨nb, 0, none⟩ = some (.string name)) (hnl : nb < W.heap.size) (hq : pairs_Same.f x.f0 name = some b) :
  Calls Tryz.prog 103 #[.agg #[.string x.f0, .string x.f1], .pointer (some ⟨nb, 0, none⟩)] W fun e w' => e = .returned (.bool b) ∧ Below W.heap.size W w' := by
 have HQ := Aside0.mk hq
 have hn1 : nb ≠ W.heap.size := by omega
 clear hq
 go_enter Tryz.func103, Tryz.ntmps103
 go_wp2_with (go_at_call 36; refine (pairs_Same.calls x.f0 name b _ HQ.out).mono ?_; rintro e w' ⟨rfl, hb'⟩; have HB' := Aside0.mk hb'; clear hb')
 go_ret
 exact ⟨rfl, ((Below.refl _ W).alloc (Nat.le_refl _) _).trans (HB'.out.mono (by simp))⟩
def pairs_Drop.f (l0 : List (S59)) (a1 : ByteArray) : Option (List (S59)) := if qAll pairs_Same.f l0 a1 = true ∧ l0.length * 32 ≤ 140737488355328 then some (l0.filter fun x => !pOf pairs_Same.f a1 x) else none
set_option maxHeartbeats 8000000 in
set_option maxRecDepth 100000 in
/-- Dropped in a row of its own; its room is no less than what there was. -/
theorem drop_at (A0 : Option Addr) (c0 : Nat) (l0 : List (S59)) (a1 : ByteArray) (r : List (S59)) (w : World) (hr0 : Kd.C k59 w A0 l0.length l0) (hc0 : l0.length ≤ c0) (h : pairs_Drop.f l0 a1 = some r) :
  Calls Tryz.prog 86 #[.slice A0 l0.length c0, .string a1] w fun e w' => ∃ v0_ : Value, e = .returned (v0_) ∧ (Kd.R k59 59 w' w.heap.size (fun _ => True) v0_ r ∧ ((∃ x ∈ l0, pOf pairs_Same.f a1 x = true) → ∃ g1 c, v0_ = .slice (some ⟨g1, 0, none⟩) r.length c ∧ l0.length ≤ c)) ∧ Below w.heap.size w w' := by
 obtain ⟨hq, hl⟩ : qAll pairs_Same.f l0 a1 = true ∧ l0.length * 32 ≤ 140737488355328 := by
  by_cases hx : qAll pairs_Same.f l0 a1 = true ∧ l0.length * 32 ≤ 140737488355328
  ·exact hx
  ·rw [pairs_Drop.f, if_neg hx] at h; cases h
 rw [pairs_Drop.f, if_pos ⟨hq, hl⟩] at h
 obtain rfl := Option.some.inj h
 clear h
 have eg : ∀ args W, (callFunc 103 args).run Tryz.prog W = .ok (.enter 103 args) W := enters_of Tryz.func103 kr_ rfl
 have hcl := fun (W : World) (hW : Kd.C k59 W A0 l0.length l0) => api_Pair_101.calls A0 c0 l0 l0 W hW hc0 (by rw [api_Pair_101.f, if_pos hl])
 have HCL := Aside0.mk hcl
 have HR := Aside0.mk hr0
 have HQ := Aside0.mk hq
 have EG := Aside0.mk eg
 clear hcl hr0 hq hl eg hc0
 go_enter Tryz.func86, Tryz.ntmps86
 go_wp2_with (first | (go_at_call 101; refine (HCL.out _ (by exact Kd.C_alloc HR.out _)).mono ?_; rintro e w2 ⟨v0, rfl, hR, hb⟩; have HV := Aside0.mk hR; have HB := Aside0.mk hb; clear hR hb) | (go_at_call 102; refine (api_Pair_102.calls _ v0 l0 w2 HV.out (pOf pairs_Same.f a1) 103 _ EG.out (fun W x hx hg => by (have hne : v0.ownBlock ≠ some w.heap.size := fun e => (by have := own_base (Kd.R_own HV.out).choose_spec _ e; simp at this; omega)); have hcell : W.cell? ⟨w.heap.size, 0, none⟩ = some (.string a1) := hg.cell ((HB.out.cell (p := ⟨w.heap.size, 0, none⟩) (by simp)).trans (by simp [World.cell?_alloc_new])) (fun e => hne e.symm); exact drop1_at w.heap.size a1 W x _ hcell (by have := hg.size; have := HB.out.size; simp at this; omega) (by have := List.all_eq_true.1 HQ.out x hx; unfold pOf; (cases h : pairs_Same.f x.f0 a1 with | none => (rw [h] at this; cases this) | some b => cases b <;> rfl)))).mono ?_; rintro e w3 ⟨v1, rfl, hR, hg, hcap⟩; have HG := Aside0.mk hg; have HV1 := Aside0.mk hR; have HCP := Aside0.mk hcap; clear hR hg hcap))
 go_ret
 have hB3 : Below w.heap.size w w3 := (((Below.refl _ w).alloc (Nat.le_refl _) _).trans (HB.out.mono (by simp))).trans (gb_out HG.out (by have := HB.out.size; simp at this; omega) (fun k hk => (by have := own_base (Kd.R_own HV.out).choose_spec _ hk; simp at this; omega)))
 refine ⟨_, rfl, ⟨Kd.R_lower HV1.out (by simp), fun hx => ?_⟩, hB3⟩
 obtain ⟨g1, c, e0, e1⟩ := HCP.out hx
 obtain ⟨A, c', e', hl', _⟩ := Kd.R_reads HV.out
 rw [e0] at e'
 injection e' with _ _ e'
 exact ⟨g1, c, e1, by rw [e']; exact hl'⟩
theorem pairs_Drop.calls (A0 : Option Addr) (c0 : Nat) (l0 : List (S59)) (a1 : ByteArray) (r : List (S59)) (w : World) (hr0 : Kd.C k59 w A0 l0.length l0) (hc0 : l0.length ≤ c0) (h : pairs_Drop.f l0 a1 = some r) :
  Calls Tryz.prog 86 #[.slice A0 l0.length c0, .string a1] w fun e w' => ∃ v0_ : Value, e = .returned (v0_) ∧ Kd.R k59 59 w' w.heap.size (fun _ => True) v0_ r ∧ Below w.heap.size w w' :=
 (drop_at A0 c0 l0 a1 r w hr0 hc0 h).mono fun _ _ ⟨v, e, h1, h2⟩ => ⟨v, e, h1.1, h2⟩

/-! ### api_Pair_100: function 100 -/
/-- Cells copied into a row of cells: elements of any number of cells. -/
theorem run_copy_cells2 {P : Program} (w : World) (dT sT ty elem sz : Nat) (g o dLen dCap : Nat) (a : Addr) (sLen sCap : Nat) (cur : Array Value) (t : TypeId) (cs : List Value)
  (hu : P.underlying dT = some (.slice elem)) (hs : (P.info? elem).map (·.size) = some sz)
  (hg : w.heap[g]? = some (.cells cur t (0, 0))) (hn : cs.length = Nat.min sLen dLen * sz)
  (hsrc : ∀ j v, cs[j]? = some v → w.cell? (a.add j) = some v) (hfit : o + cs.length ≤ cur.size) (h1 : ∀ v ∈ cs, v.oneCell' = true) :
  (Builtin.copy_ #[dT, sT] ty #[.slice (some ⟨g, o, none⟩) dLen dCap, .slice (some a) sLen sCap]).run P w =
   .ok (goInt (Nat.min sLen dLen)) (w.setRow g (cur.toList.take o ++ cs ++ cur.toList.drop (o + cs.length)).toArray) := by
 have hl := run_loadCells_list (P := P) w a cs hsrc
 have hst := run_storeCells_at P g o t cs 0 cur w hg (by simpa using hfit) h1
 cases hq : P.info? elem with
 | none => simp [hq] at hs
 | some i =>
  have hi : i.size = sz := by simpa [hq] using hs
  simp [Builtin.copy_, run_underlying hu, Builtin.lenOf, Builtin.firstCells, sizeOf, typeInfo, hq, hi, ← hn, hl, hst]
theorem cells2_one {l : List S59} {cur : Array Value} (hc : ∀ j (hj : j < l.length), cur[j * 2]? = some (.string (l[j]'hj).f0) ∧ cur[j * 2 + 1]? = some (.string (l[j]'hj).f1)) (k : Nat) (hk : k < l.length * 2) (v : Value) (h : cur[k]? = some v) : v.oneCell' = true := by
 rcases Nat.mod_two_eq_zero_or_one k with e | e
 ·have := (hc (k / 2) (by omega)).1
  rw [show k / 2 * 2 = k by omega, h] at this
  cases this; rfl
 ·have := (hc (k / 2) (by omega)).2
  rw [show k / 2 * 2 + 1 = k by omega, h] at this
  cases this; rfl
theorem sizeE : (Tryz.prog.info? 59).map (·.size) = some 2 := by
 have := info59
 cases hq : Tryz.prog.info? 59 with
 | none => rw [hq] at this; cases this
 | some i =>
  rw [hq] at this
  simp only [Option.map_some, Option.some.injEq, Prod.mk.injEq] at this
  simp [this.2.1]
theorem run_sizeE (W : World) : (sizeOf 59).run Tryz.prog W = .ok 2 W := by
 have := sizeE
 cases hq : Tryz.prog.info? 59 with
 | none => rw [hq] at this; cases this
 | some i0 =>
  rw [hq] at this
  simp only [Option.map_some, Option.some.injEq] at this
  simp [sizeOf, typeInfo, hq, this]
theorem Row2.shift {w : World} {g c : Nat} {l : List S59} (h : Row2 w g c l) (i : Nat) (hi : i < l.length) (hroom : l.length + 1 ≤ c) :
  ∃ w1, (∀ ty dc sc, (Builtin.copy_ #[31, 31] ty #[.slice (some ⟨g, (i + 1) * 2, none⟩) (l.length - i) dc, .slice (some ⟨g, i * 2, none⟩) (l.length + 1 - i) sc]).run Tryz.prog w = .ok (goInt ((l.length - i : Nat) : Int)) w1) ∧ Row2 w1 g c (l.take (i + 1) ++ l.drop i) ∧ w.grownBy w1 (some g) := by
 obtain ⟨cur, hh, hs, hl, hc⟩ := h
 have hm : Nat.min (l.length + 1 - i) (l.length - i) = l.length - i := by simp only [Nat.min_def]; split <;> omega
 generalize hcs : (cur.toList.drop (i * 2)).take ((l.length - i) * 2) = cs
 have hcl : cs.length = (l.length - i) * 2 := by rw [← hcs]; simp only [List.length_take, List.length_drop, Array.length_toList]; omega
 have hce : ∀ k, k < (l.length - i) * 2 → cs[k]? = cur[i * 2 + k]? := fun k hk => by
  rw [← hcs, List.getElem?_take, if_pos hk, List.getElem?_drop, Array.getElem?_toList]
 refine ⟨w.setRow g (cur.toList.take ((i + 1) * 2) ++ cs ++ cur.toList.drop ((i + 1) * 2 + cs.length)).toArray, fun ty dc sc => ?_, ⟨_, setRow_heap w g cur _ 59 _ hh, ?_, ?_, fun j hj => ?_⟩, rfl, rfl, rfl, by simp [World.setRow], fun k _ hk => by simp [World.setRow, Array.getElem?_modify, show ¬ g = k from fun e => hk (by rw [e])]⟩
 ·have := run_copy_cells2 (P := Tryz.prog) w 31 31 ty 59 2 g ((i + 1) * 2) (l.length - i) dc ⟨g, i * 2, none⟩ (l.length + 1 - i) sc cur 59 cs Tryz.underlying31 sizeE hh (by rw [hm, hcl]) (fun j v hj => by
   have hjl : j < (l.length - i) * 2 := by rw [← hcl]; exact (List.getElem?_eq_some_iff.1 hj).1
   rw [Addr.add_lit, blk_cell hh, ← hce j hjl]; exact hj) (by rw [hcl]; omega) (fun v hv => by
   obtain ⟨j, hj⟩ := List.getElem?_of_mem hv
   have hjl : j < (l.length - i) * 2 := by rw [← hcl]; exact (List.getElem?_eq_some_iff.1 hj).1
   rw [hce j hjl] at hj
   exact cells2_one hc _ (by omega) v hj)
  rw [this, hm]
 ·simp only [List.size_toArray, List.length_append, List.length_take, List.length_drop, Array.length_toList, hcl]; omega
 ·rw [List.length_append, List.length_take, List.length_drop]; omega
 ·have hjl : j < l.length + 1 := by rw [List.length_append, List.length_take, List.length_drop] at hj; omega
  simp only [List.getElem?_toArray]
  have ht : (cur.toList.take ((i + 1) * 2)).length = (i + 1) * 2 := by rw [List.length_take, Array.length_toList]; omega
  have htl : (l.take (i + 1)).length = i + 1 := by rw [List.length_take]; omega
  have hA : ∀ k, k < (i + 1) * 2 → (cur.toList.take ((i + 1) * 2) ++ cs ++ cur.toList.drop ((i + 1) * 2 + cs.length))[k]? = cur[k]? := fun k hk => by
   rw [List.append_assoc, List.getElem?_append_left (by rw [ht]; exact hk), List.getElem?_take, if_pos hk, Array.getElem?_toList]
  have hB : ∀ k, k < (l.length - i) * 2 → (cur.toList.take ((i + 1) * 2) ++ cs ++ cur.toList.drop ((i + 1) * 2 + cs.length))[(i + 1) * 2 + k]? = cur[i * 2 + k]? := fun k hk => by
   rw [List.append_assoc, List.getElem?_append_right (by rw [ht]; omega), ht, List.getElem?_append_left (by rw [hcl]; omega), show (i + 1) * 2 + k - (i + 1) * 2 = k by omega, hce k hk]
  by_cases e : j < i + 1
  ·rw [hA _ (by omega), hA _ (by omega), List.getElem_append_left (by rw [htl]; exact e), List.getElem_take]
   exact hc j (by omega)
  ·have h1 := hB ((j - (i + 1)) * 2) (by omega)
   have h2 := hB ((j - (i + 1)) * 2 + 1) (by omega)
   rw [show (i + 1) * 2 + (j - (i + 1)) * 2 = j * 2 by omega, show i * 2 + (j - (i + 1)) * 2 = (j - 1) * 2 by omega] at h1
   rw [show (i + 1) * 2 + ((j - (i + 1)) * 2 + 1) = j * 2 + 1 by omega, show i * 2 + ((j - (i + 1)) * 2 + 1) = (j - 1) * 2 + 1 by omega] at h2
   have hg : (l.take (i + 1) ++ l.drop i)[j]'hj = l[j - 1]'(by omega) := by
    rw [List.getElem_append_right (by rw [htl]; omega), List.getElem_drop]
    congr 1
    rw [htl]; omega
   rw [h1, h2, hg]
   exact hc (j - 1) (by omega)
theorem Row2.copy1 {w : World} {g c : Nat} {l : List S59} (h : Row2 w g c l) (i : Nat) (hi : i < l.length) (vb : Nat) (x : S59) (hv : w.heap[vb]? = some (.cells #[.string x.f0, .string x.f1] 59 (0, 0))) :
  (∀ ty dl dc vc, 0 < dl → (Builtin.copy_ #[31, 31] ty #[.slice (some ⟨g, i * 2, none⟩) dl dc, .slice (some ⟨vb, 0, none⟩) 1 vc]).run Tryz.prog w = .ok (goInt 1) ((w.setCell ⟨g, i * 2, none⟩ (.string x.f0)).setCell ⟨g, i * 2 + 1, none⟩ (.string x.f1))) := by
 have h' := h
 obtain ⟨cur, hh, hs, hl, hc⟩ := h
 intro ty dl dc vc hdl
 have hm : Nat.min 1 dl = 1 := by simp only [Nat.min_def]; split <;> omega
 have hl0 : (loadCells ⟨vb, 0, none⟩ 2).run Tryz.prog w = .ok #[.string x.f0, .string x.f1] w :=
  run_loadCells_list (P := Tryz.prog) w ⟨vb, 0, none⟩ [.string x.f0, .string x.f1] (fun j v hj => by rw [Addr.add_lit, Nat.zero_add, blk_cell hv]; simpa using hj)
 have hq : ∃ i0, Tryz.prog.info? 59 = some i0 ∧ i0.size = 2 := by
  have := sizeE
  cases hq : Tryz.prog.info? 59 with
  | none => rw [hq] at this; cases this
  | some i0 => rw [hq] at this; exact ⟨i0, rfl, by simpa using this⟩
 obtain ⟨i0, hq, hi0⟩ := hq
 have h1 : ∀ v ∈ [Value.string x.f0, Value.string x.f1], v.oneCell' = true := fun v hv => by
  simp only [List.mem_cons, List.not_mem_nil, or_false] at hv
  cases hv with
  | inl e => rw [e]; rfl
  | inr e => rw [e]; rfl
 have hst := run_storeCells_cells (P := Tryz.prog) g (i * 2) [.string x.f0, .string x.f1] 0 w (fun j hj => h'.room _ (by simp at hj; omega)) (fun j hj => h'.frozen _) h1
 simp only [Nat.add_zero, World.setCells] at hst
 simp [Builtin.copy_, run_underlying Tryz.underlying31, Builtin.lenOf, Builtin.firstCells, sizeOf, typeInfo, hq, hi0, hm, hl0, hst]
/-- THE OPERATION 'copy(d, s)' where its run is known by an equation. -/
theorem wp_copy_run2 {P : Program} (w : World) {ops : Array Oper} {rest : List Oper} {o : Oper} {a : Act} {Q : Exit → Act → World → Prop} (hgd : o.guard = none) (d s : Operand) (t t' : TypeId)
  (ho : o.op = .call { callee := .builtin .copy, args := #[d, s], argTypes := #[t, t'] }) (v u : Value) (hd : a.eval d = v) (hs : a.eval s = u) {v' : Value} {w' : World}
  (hr : (Builtin.copy_ #[t, t'] o.type #[v, u]).run P w = .ok v' w') (h : wpList P ops Q rest (a.put o.dst v') w') : wpList P ops Q (o :: rest) a w :=
 wpList_plain hgd fun K hK => by
  have := hK _ _ h
  unfold Oper.wp execOp
  simp only [ho, resolve, invoke, builtin, Sem.run_bind, Sem.run_pure, Result.andThen_ok, List.map_toArray, List.map_cons, List.map_nil, hd, hs, hr]
  exact this
theorem step_copy_run2 {P : Program} {ops : Array Oper} {o : Oper} {a : Act} {w : World} {K : Act → World → Prop} {Q : Exit → Act → World → Prop} {E : Prop}
  (hg : o.guard = none) (d x : Operand) (dT sT : TypeId) (hop : o.op = Op.call { callee := Callee.builtin Builtin.copy, args := #[d, x], argTypes := #[dT, sT] })
  (v u : Value) (hd : a.eval d = v) (hx : a.eval x = u) {v' : Value} {w' : World} (hr : (Builtin.copy_ #[dT, sT] o.type #[v, u]).run P w = .ok v' w') (hK : K (a.put o.dst v') w') :
  if Region.wanted o (yielded ops a.tmps) = true then Oper.wp P o a w K Q else E := by
 have hw : Region.wanted o (yielded ops a.tmps) = true := by simp [Region.wanted, hg]
 rw [if_pos hw]
 unfold Oper.wp
 simp [execOp, hop, resolve, invoke, builtin, hd, hx, hr, Result.andThen]
 exact hK
set_option maxHeartbeats 8000000 in
set_option maxRecDepth 100000 in
theorem insert_end (base g1 c : Nat) (l : List S59) (w : World) (hR : Kd.R k59 59 w base (fun _ => True) (.slice (some ⟨g1, 0, none⟩) l.length c) l) (hb : base ≤ w.heap.size) (hroom : l.length + 1 ≤ c) (hlim : (l.length + 1) * 32 ≤ 140737488355328) (vb vc : Nat) (x : S59) (hv : w.heap[vb]? = some (.cells #[.string x.f0, .string x.f1] 59 (0, 0))) :
  Calls Tryz.prog 100 #[.slice (some ⟨g1, 0, none⟩) l.length c, .int .i64 (l.length : Int), .slice (some ⟨vb, 0, none⟩) 1 vc] w fun e w' => ∃ v1, e = .returned v1 ∧ Kd.R k59 59 w' base (fun _ => True) v1 (l ++ [x]) ∧ Below base w w' := by
 have hlc : l.length ≤ c := by
  obtain ⟨A, c', e, h, _⟩ := Kd.R_reads hR
  injection e with _ _ e
  omega
 have hn0 : ¬ ((1 : Int) = 0) := by omega
 have hlc2 : (l.length : Int) ≤ (c : Int) := by omega
 have hb4 : ¬ (c = l.length) := by omega
 have hl0 : (0 : Int) ≤ (l.length : Int) := by omega
 have HR := Aside0.mk hR
 have HB := Aside0.mk hb
 have HL := Aside0.mk hlim
 have HV := Aside0.mk hv
 clear hR hb hlim hv hlc hroom
 go_enter Tryz.func100, Tryz.ntmps100
 go_wp2_with (at_builtin; refine Kd.R_append_rows k59 (Rr := k59.K w) (w0 := w) base rfl (.tmp 23) (.tmp 24) 31 59 (.agg #[(.string ⟨#[]⟩), (.string ⟨#[]⟩)]) 32 rfl Tryz.underlying31 info59 rfl (by decide) (by decide) _ l [x] (some ⟨vb, 0, none⟩) 1 vc (fun _ => True) (fun _ => False) rfl rfl HR.out ?aR (fun y cs h => (by obtain rfl := k59_open h; exact k59_mkM _ _ _ _)) (fun _ h => h.elim) (fun _ _ => trivial) (Below.refl _ w) HB.out HL.out ?_; (case aR => exact ⟨rfl, by decide, fun _ => ⟨_, rfl, fun j p hj => by (cases j with | zero => (cases hj; exact ⟨[.string x.f0, .string x.f1], rfl, k59_mk _ _, fun i u hi => by rw [Addr.add_lit, blk_cell HV.out]; simpa using hi⟩) | succ j => simp at hj)⟩⟩); intro v1 w1 ho hb hg hat; have n0_ := Aside0.mk ho; have n1_ := Aside0.mk hb; clear ho hb hg hat)
 go_ret
 exact ⟨_, rfl, n0_.out, n1_.out⟩
set_option maxHeartbeats 8000000 in
set_option maxRecDepth 100000 in
theorem insert_shift (base g1 c : Nat) (l : List S59) (w : World) (hR : Kd.R k59 59 w base (fun _ => True) (.slice (some ⟨g1, 0, none⟩) l.length c) l) (hb : base ≤ w.heap.size) (hroom : l.length + 1 ≤ c) (i : Nat) (hi : i < l.length) (vb vc : Nat) (hvb : vb ≠ g1) (x : S59) (hv : w.heap[vb]? = some (.cells #[.string x.f0, .string x.f1] 59 (0, 0))) :
  Calls Tryz.prog 100 #[.slice (some ⟨g1, 0, none⟩) l.length c, .int .i64 (i : Int), .slice (some ⟨vb, 0, none⟩) 1 vc] w fun e w' => ∃ v1, e = .returned v1 ∧ Kd.R k59 59 w' base (fun _ => True) v1 (l.take i ++ x :: l.drop i) ∧ Below base w w' := by
 obtain ⟨g, e, -, hgb, hcm, hrow⟩ := row2_of hR
 obtain rfl : g1 = g := by cases e; rfl
 clear e
 have hov : ∀ lb cb, (callFunc 117 #[.slice (some ⟨vb, 0, none⟩) 1 vc, .slice (some ⟨g1, (i + 1) * 2, none⟩) lb cb]).run Tryz.prog w = .ok (.value (.bool false)) w := fun lb cb => by
  obtain ⟨cur, hh, hs, hl, hc⟩ := hrow
  rw [run_callFunc_extern Tryz.func117 kr_ kr_ kr_ (e := Extern.SlicesOverlaps.overlaps #[31, 31] #[4]) kr_,
   Lib.run_overlaps_apart w 31 4 59 Tryz.underlying31 2 run_sizeE ⟨vb, 0, none⟩ ⟨g1, (i + 1) * 2, none⟩ 1 vc lb cb hvb 59 59 2 cur.size (by simp [World.shape?, hv]) (by simp [World.shape?, hh]) (by omega) (blk_frozen hv _) (blk_frozen hv _)]
  rfl
 have hrd : Row2 w.drew g1 c l := hrow.move rfl
 obtain ⟨w1, hcp1, hr1, hg1⟩ := hrd.shift i hi hroom
 have hv1 : w1.heap[vb]? = some (.cells #[.string x.f0, .string x.f1] 59 (0, 0)) := (hg1.block vb (blk_lt (show w.drew.heap[vb]? = _ from hv)) (fun e => hvb (Option.some.inj e))).trans hv
 have hcp2 := hr1.copy1 i (by rw [List.length_append, List.length_take, List.length_drop]; omega) vb x hv1
 have hr2 := hr1.put i (by rw [List.length_append, List.length_take, List.length_drop]; omega) x
 rw [show (l.take (i + 1) ++ l.drop i).set i x = l.take i ++ x :: l.drop i from by
  rw [List.take_succ_eq_append_getElem hi, List.append_assoc, List.set_append_right _ _ (by rw [List.length_take]; omega)]
  rw [show i - (l.take i).length = 0 by rw [List.length_take]; omega]
  rfl] at hr2
 have hg2 : w.grownBy ((w1.setCell ⟨g1, i * 2, none⟩ (.string x.f0)).setCell ⟨g1, i * 2 + 1, none⟩ (.string x.f1)) (some g1) := gb_set (gb_set (gb_trans (show w.grownBy w.drew (some g1) from ⟨rfl, rfl, rfl, Nat.le_refl _, fun _ _ _ => rfl⟩) hg1) _ _) _ _
 have hfin := hr2.R hgb hcm
 have hlen : (l.take i ++ x :: l.drop i).length = l.length + 1 := by rw [List.length_append, List.length_cons, List.length_take, List.length_drop]; omega
 rw [hlen] at hfin
 have hbel : Below base w _ := gb_out hg2 hb (fun k hk => by cases hk; exact hgb)
 have FIN := Aside0.mk hfin
 have BEL := Aside0.mk hbel
 have hm63 : c ≤ 9223372036854775807 := hcm
 have hz1 : ¬ ((1 : Int) = 0) := by omega
 have hz2 : ¬ ((i : Int) = (l.length : Int)) := by omega
 have hw0 : IntKind.i64.wrap ((l.length : Int) + 1) = (l.length : Int) + 1 := by rw [IntKind.wrap_i64]; omega
 have hw1 : IntKind.i64.wrap ((i : Int) + 1) = (i : Int) + 1 := by rw [IntKind.wrap_i64]; omega
 have hc1 : ¬ ((c : Int) < (l.length : Int) + 1) := by omega
 have hb1 : (0 : Int) ≤ (i : Int) + 1 := by omega
 have hb0 : (0 : Int) ≤ (i : Int) := by omega
 have hin : (i : Int) ≤ (l.length : Int) := by omega
 have htn : ((i : Int) + 1).toNat = i + 1 := by omega
 have htl : ((l.length : Int) + 1).toNat = l.length + 1 := by omega
 have hb2 : ¬ (c = i + 1) := by omega
 have hb3 : (i : Int) ≤ (l.length : Int) + 1 := by omega
 have hb5 : (i : Int) + 1 ≤ (l.length : Int) + 1 := by omega
 have hb6 : (l.length : Int) + 1 ≤ (c : Int) := by omega
 have hb7 : (0 : Int) ≤ (l.length : Int) + 1 := by omega
 have hb4 : ¬ (c = i) := by omega
 have hdl : 0 < l.length + 1 - i := by omega
 have HH := am_ (And.intro hcp1 hcp2)
 clear hR hrow hrd hr1 hg1 hr2 hg2 hfin hbel hv hv1 hcp1 hcp2 hlen
 go_enter Tryz.func100, Tryz.ntmps100
 go_wp2_with (simp only [hov])
 have mixed : Tryz.prog.follows Departure.mixedOrders = true := by kernel_rfl
 have hcp1 := HH.out.1
 go_region_law_o (refine step_copy_run2 rfl _ _ 31 31 rfl _ _ (by simp [Act.eval, Act.put]) (by simp [Act.eval, Act.put]) (hcp1 _ _ _) ?_)
 have hcp2 := fun ty dc => HH.out.2 ty (l.length + 1 - i) dc vc hdl
 go_wp2_with (simp only [hcp2])
 go_ret
 exact ⟨_, rfl, FIN.out, BEL.out⟩
theorem insert_at (base g1 c : Nat) (l : List S59) (w : World) (hR : Kd.R k59 59 w base (fun _ => True) (.slice (some ⟨g1, 0, none⟩) l.length c) l) (hb : base ≤ w.heap.size) (hroom : l.length + 1 ≤ c) (hlim : (l.length + 1) * 32 ≤ 140737488355328) (i : Nat) (hi : i ≤ l.length) (vb vc : Nat) (hvb : vb ≠ g1) (x : S59) (hv : w.heap[vb]? = some (.cells #[.string x.f0, .string x.f1] 59 (0, 0))) :
  Calls Tryz.prog 100 #[.slice (some ⟨g1, 0, none⟩) l.length c, .int .i64 (i : Int), .slice (some ⟨vb, 0, none⟩) 1 vc] w fun e w' => ∃ v1, e = .returned v1 ∧ Kd.R k59 59 w' base (fun _ => True) v1 (l.take i ++ x :: l.drop i) ∧ Below base w w' := by
 rcases Nat.lt_or_ge i l.length with h | h
 ·exact insert_shift base g1 c l w hR hb hroom i h vb vc hvb x hv
 ·obtain rfl : i = l.length := by omega
  rw [List.take_length, List.drop_length]
  exact insert_end base g1 c l w hR hb hroom hlim vb vc x hv

/-! ### pairs_Set: function 84 -/
def pairs_Set.f (l0 : List (S59)) (a1 : ByteArray) (a2 : ByteArray) : Option (List (S59)) :=
 if qAll pairs_Same.f l0 a1 = true then (if idxI (pOf pairs_Same.f a1) l0 < 0 then pairs_Add.f l0 a1 a2 else (pairs_Drop.f l0 a1).map fun d => d.take (idxI (pOf pairs_Same.f a1) l0).toNat ++ (⟨a1, a2⟩ : S59) :: d.drop (idxI (pOf pairs_Same.f a1) l0).toNat) else none
theorem set_room {α : Type} (p : α → Bool) (l : List α) (k : Nat) (hk : k < l.length) (h1 : p (l[k]'hk) = true) (h0 : ∀ j (hj : j < k), p (l[j]'(by omega)) = false) : (l.filter fun x => !p x).length + 1 ≤ l.length ∧ k ≤ (l.filter fun x => !p x).length := by
 have e : l = l.take k ++ l[k]'hk :: l.drop (k + 1) := by rw [List.getElem_cons_drop, List.take_append_drop]
 have hf : (l.take k).filter (fun x => !p x) = l.take k := List.filter_eq_self.2 fun x hx => by
  obtain ⟨j, hj, rfl⟩ := List.getElem_of_mem hx
  rw [List.length_take] at hj
  rw [List.getElem_take, h0 j (by omega)]; rfl
 have h2 : (l.filter fun x => !p x) = l.take k ++ (l.drop (k + 1)).filter (fun x => !p x) := by
  conv => lhs; rw [e]
  rw [List.filter_append, List.filter_cons, h1, hf]; simp
 have h3 := List.length_filter_le (fun x => !p x) (l.drop (k + 1))
 rw [h2, List.length_append, List.length_take]
 rw [List.length_drop] at h3
 omega
set_option maxHeartbeats 8000000 in
set_option maxRecDepth 100000 in
theorem pairs_Set.calls (A0 : Option Addr) (c0 : Nat) (l0 : List (S59)) (a1 : ByteArray) (a2 : ByteArray) (r : List (S59)) (w : World) (hr0 : Kd.C k59 w A0 l0.length l0) (hc0 : l0.length ≤ c0) (h : pairs_Set.f l0 a1 a2 = some r) :
  Calls Tryz.prog 84 #[.slice A0 l0.length c0, .string a1, .string a2] w fun e w' => ∃ v0_ : Value, e = .returned (v0_) ∧ Kd.R k59 59 w' w.heap.size (fun _ => True) v0_ r ∧ Below w.heap.size w w' := by
 have hq : qAll pairs_Same.f l0 a1 = true := by
  by_cases hx : qAll pairs_Same.f l0 a1 = true
  ·exact hx
  ·rw [pairs_Set.f, if_neg hx] at h; cases h
 rw [pairs_Set.f, if_pos hq] at h;have eg : ∀ args W, (callFunc 36 args).run Tryz.prog W = .ok (.enter 36 args) W := enters_of Tryz.func36 kr_ rfl;have hfs := fun W (hW : Kd.C k59 W A0 l0.length l0) => finder_first.calls 36 pairs_Same.f same_at eg A0 c0 l0 a1 W hW hq
 rcases idxI_spec (pOf pairs_Same.f a1) l0 with ⟨e0, hall⟩ | ⟨k0, hk0, e0, hpk, hbef⟩
 ·rw [if_pos (by rw [e0]; decide)] at h
  rw [e0] at hfs;have HFS := Aside0.mk hfs;have HA := am_ (fun W (hW : Kd.C k59 W A0 l0.length l0) => pairs_Add.calls A0 c0 l0 a1 a2 r W hW hc0 h);have HR := Aside0.mk hr0;clear hfs h hr0 hq eg hall e0 hc0;go_enter Tryz.func84, Tryz.ntmps84;go_wp2_with (first | (go_at_call 99; refine (HFS.out _ HR.out).mono ?_; rintro e w2 ⟨rfl, hb⟩; have HB := Aside0.mk hb; clear hb) | (go_at_call 85; refine (HA.out _ (by exact Kd.C_below HR.out HB.out)).mono ?_; rintro e w3 ⟨v0, rfl, hR, hb⟩; have HV := Aside0.mk hR; have HB3 := Aside0.mk hb; clear hR hb));go_ret;exact ⟨_, rfl, Kd.R_lower HV.out HB.out.size, HB.out.trans (HB3.out.mono HB.out.size)⟩
 ·rw [if_neg (by rw [e0]; omega)] at h
  rw [e0] at hfs h;simp only [Int.toNat_natCast] at h;obtain ⟨d, hd, rfl⟩ := Option.map_eq_some_iff.1 h;clear h;have hdl : d = l0.filter (fun x => !pOf pairs_Same.f a1 x) ∧ l0.length * 32 ≤ 140737488355328 := by
   by_cases hx : qAll pairs_Same.f l0 a1 = true ∧ l0.length * 32 ≤ 140737488355328
   ·rw [pairs_Drop.f, if_pos hx] at hd
    exact ⟨(Option.some.inj hd).symm, hx.2⟩
   ·rw [pairs_Drop.f, if_neg hx] at hd; cases hd
  obtain ⟨hr1, hr2⟩ := set_room (pOf pairs_Same.f a1) l0 k0 hk0 hpk hbef;rw [← hdl.1] at hr1 hr2;have hlim : (d.length + 1) * 32 ≤ 140737488355328 := Nat.le_trans (Nat.mul_le_mul_right _ hr1) hdl.2;have HFS := Aside0.mk hfs;have HD := am_ (fun W (hW : Kd.C k59 W A0 l0.length l0) => drop_at A0 c0 l0 a1 d W hW hc0 hd);have HR := Aside0.mk hr0;have HM := am_ (show ∃ x ∈ l0, pOf pairs_Same.f a1 x = true from ⟨_, List.getElem_mem hk0, hpk⟩);have HN := am_ (And.intro hr1 (And.intro hr2 hlim));have hk1 : ¬ ((k0 : Int) < 0) := by omega
  clear hfs hr0 hq eg hbef hpk e0 hc0 hd hdl hr1 hr2 hlim hk0;go_enter Tryz.func84, Tryz.ntmps84;go_wp2_with (first | (go_at_call 99; refine (HFS.out _ HR.out).mono ?_; rintro e w2 ⟨rfl, hb⟩; have HB := Aside0.mk hb; clear hb) | (go_at_call 86; refine (HD.out _ (by exact Kd.C_below HR.out HB.out)).mono ?_; rintro e w3 ⟨v0, rfl, ⟨hR, hcap⟩, hb⟩; obtain ⟨g1, c, rfl, hcc⟩ := hcap HM.out; have HV := Aside0.mk hR; have HB3 := Aside0.mk hb; have HC := Aside0.mk hcc; clear hR hb hcap hcc));have hg1 : g1 < w3.heap.size := by
   obtain ⟨g, e, -, -, -, hrow⟩ := row2_of HV.out;cases e
   exact hrow.lt
  refine (insert_at w.heap.size g1 c d _ (by exact Kd.R_lower (Kd.R_below HV.out ((Below.refl _ w3).alloc (Nat.le_refl _) _)) HB.out.size) (by have := HB.out.size; have := HB3.out.size; simp; omega) (Nat.le_trans HN.out.1 HC.out) HN.out.2.2 k0 HN.out.2.1 _ _ (by omega) (⟨a1, a2⟩ : S59) (by unfold World.alloc; exact Array.getElem?_push_size)).mono ?_;rintro e w4 ⟨v1, rfl, hR, hb⟩;have HV4 := Aside0.mk hR;have HB4 := am_ (Below.trans (((HB.out.trans (HB3.out.mono HB.out.size)).alloc (by have := HB.out.size; have := HB3.out.size; omega) _)) hb);clear hR hb;go_wp2;go_ret;exact ⟨_, rfl, HV4.out, HB4.out⟩

/-! ### path_tail: function 88 -/
def path_tail.f (a0_0 : Int) (a0_1 : ByteArray) (a1 : ByteArray) : Option (ByteArray) := if a0_1.toList = ([47] : List UInt8) then (if a1.toList = ([47] : List UInt8) then (some (⟨#[]⟩ : ByteArray)) else (some a1)) else (if 0 ≤ (a0_1.size : Int) then (if (a0_1.size : Int) ≤ (a1.size : Int) then (some (a1.extract a0_1.size a1.size)) else (none)) else (none))
set_option maxHeartbeats 8000000 in
set_option maxRecDepth 100000 in
theorem path_tail.calls (pb : Int) (pa : ByteArray) (a1 : ByteArray) (r : ByteArray) (w : World) (h : path_tail.f pb pa a1 = some r) :
  Calls Tryz.prog 88 #[.agg #[.int .i64 pb, .string pa], .string a1] w fun e w' => e = .returned (.string r) ∧ Below w.heap.size w w' := by
 have hu30 := Tryz.underlying30;have HB := am_ (Below.refl w.heap.size w);have H : (if pa.toList = ([47] : List UInt8) then (if a1.toList = ([47] : List UInt8) then (some (⟨#[]⟩ : ByteArray)) else (some a1)) else (if 0 ≤ (pa.size : Int) then (if (pa.size : Int) ≤ (a1.size : Int) then (some (a1.extract pa.size a1.size)) else (none)) else (none))) = some r := h;clear h;by_cases c3 : pa.toList = ([47] : List UInt8)
 ·rw [if_pos c3] at H
  have pg := eqb_ c3;have ph := neb_ c3;clear c3;by_cases c4 : a1.toList = ([47] : List UInt8)
  ·rw [if_pos c4] at H
   have pi := eqb_ c4;have pj := neb_ c4;clear c4;obtain rfl := Option.some.inj H;go_enter Tryz.func88, Tryz.ntmps88;go_wp2_with (first | ((with_reducible refine gate_dst (N := 2) rfl ?_); refine box_event ?hg (N := 2) ?hd (cs := #[.int .i64 pb, .string pa]) (t := 30) ?hr ?_; (case hd => rfl); (case hg => rfl); (case hr => first | (go_simp; done) | (go_simp; rfl)); intro pd hg w5 hbox hb; have pc := am_ (hbox); have pe := sz_ HB hg; have pf := sz_ HB hg; replace HB := bs_ HB hb; clear hb hbox hg; obtain ⟨pk, pl, pm, pn⟩ := blk2 pc.out));go_ret;exact ⟨fi_, bel_ HB.out⟩
  ·rw [if_neg c4] at H
   have pi := eqf_ c4;have pj := nef_ c4;obtain rfl := Option.some.inj H;go_enter Tryz.func88, Tryz.ntmps88;go_wp2_with (first | ((with_reducible refine gate_dst (N := 2) rfl ?_); refine box_event ?hg (N := 2) ?hd (cs := #[.int .i64 pb, .string pa]) (t := 30) ?hr ?_; (case hd => rfl); (case hg => rfl); (case hr => first | (go_simp; done) | (go_simp; rfl)); intro pd hg w7 hbox hb; have pc := am_ (hbox); have pe := sz_ HB hg; have pf := sz_ HB hg; replace HB := bs_ HB hb; clear hb hbox hg; obtain ⟨po, pp, pq, pr⟩ := blk2 pc.out));go_ret;exact ⟨fi_, bel_ HB.out⟩
 ·rw [if_neg c3] at H
  have pg := eqf_ c3;have ph := nef_ c3;by_cases c9 : 0 ≤ (pa.size : Int)
  ·rw [if_pos c9] at H
   have ps := eq_true c9;have pt := decide_eq_true c9;clear c9;by_cases c10 : (pa.size : Int) ≤ (a1.size : Int)
   ·rw [if_pos c10] at H
    have pu := eq_true c10;have pv := decide_eq_true c10;clear c10;obtain rfl := Option.some.inj H;go_enter Tryz.func88, Tryz.ntmps88;go_wp2_with (first | ((with_reducible refine gate_dst (N := 2) rfl ?_); refine box_event ?hg (N := 2) ?hd (cs := #[.int .i64 pb, .string pa]) (t := 30) ?hr ?_; (case hd => rfl); (case hg => rfl); (case hr => first | (go_simp; done) | (go_simp; rfl)); intro pd hg w11 hbox hb; have pc := am_ (hbox); have pe := sz_ HB hg; have pf := sz_ HB hg; replace HB := bs_ HB hb; clear hb hbox hg; obtain ⟨pw, px, pz, pA⟩ := blk2 pc.out));go_ret;exact ⟨fi_, bel_ HB.out⟩
   ·rw [if_neg c10] at H
    cases H
  ·rw [if_neg c9] at H
   cases H

/-! ### path_Swap: function 69 -/
mutual
def path_Swap.j0 : Nat → ByteArray → ByteArray → Bool → Int → ByteArray → Option (ByteArray × Int)
 | 0, _, _, _, _, _ => none
 | k + 1, x1, x2, x22, x198000, x198001 => if x22 = true then (some ((⟨#[]⟩ : ByteArray), 1)) else ((path_tail.f x198000 x198001 x2).bind fun t200 => (if x1.toList = ([47] : List UInt8) then (path_Swap.j1 k x1 t200 (t200.toList == ([] : List UInt8))) else (path_Swap.j1 k x1 t200 false)))
def path_Swap.j1 : Nat → ByteArray → ByteArray → Bool → Option (ByteArray × Int)
 | 0, _, _, _ => none
 | k + 1, x1, x8, x26 => if x26 = true then (some ((⟨#[47]⟩ : ByteArray), 0)) else (if x1.toList = ([47] : List UInt8) then (some (x8, 0)) else (if (wrap64 ((x1.size : Int) + (x8.size : Int))) > 60 then (some ((⟨#[]⟩ : ByteArray), 5)) else (if x1.size + x8.size ≤ 9223372036854775807 then (some (x1 ++ x8, 0)) else (none))))
end
def path_Swap.f (k : Nat) (a0_0 : Int) (a0_1 : ByteArray) (a1 : ByteArray) (a2 : ByteArray) : Option (ByteArray × Int) := if a0_0 = 2 then ((path_Holds.f k a0_0 a0_1 a2).bind fun t198 => (if t198 = true then ((path_above.f a1).bind fun t199 => (path_Swap.j0 k a1 a2 (!t199) a0_0 a0_1)) else (path_Swap.j0 k a1 a2 true a0_0 a0_1))) else (path_Swap.j0 k a1 a2 true a0_0 a0_1)
theorem path_Swap.mono_l : ∀ k, (∀ y0 y1 y2 y3 y4, LeO (path_Swap.j0 k y0 y1 y2 y3 y4) (path_Swap.j0 (k + 1) y0 y1 y2 y3 y4)) ∧ (∀ y0 y1 y2, LeO (path_Swap.j1 k y0 y1 y2) (path_Swap.j1 (k + 1) y0 y1 y2))
 | 0 => ⟨fun _ _ _ _ _ r h => by simp [path_Swap.j0] at h, fun _ _ _ r h => by simp [path_Swap.j1] at h⟩
 | k + 1 => by
  obtain ⟨ih0, ih1⟩ := path_Swap.mono_l k
  refine ⟨?_, ?_⟩
  ·intro y0 y1 y2 y3 y4
   unfold path_Swap.j0
   repeat' with_reducible first | apply ih0 | apply ih1 | apply path_Holds.mono | apply LeO.refl | apply LeO.none | apply LeO.ite | refine LeO.bind ?_ fun _ => ?_
  ·intro y0 y1 y2
   unfold path_Swap.j1
   repeat' with_reducible first | apply ih0 | apply ih1 | apply path_Holds.mono | apply LeO.refl | apply LeO.none | apply LeO.ite | refine LeO.bind ?_ fun _ => ?_
theorem path_Swap.mono : ∀ a0 a1 a2 a3 k, LeO (path_Swap.f k a0 a1 a2 a3) (path_Swap.f (k + 1) a0 a1 a2 a3) := by
 intro a0 a1 a2 a3 k
 obtain ⟨ih0, ih1⟩ := path_Swap.mono_l k
 unfold path_Swap.f
 repeat' with_reducible first | apply ih0 | apply ih1 | apply path_Holds.mono | apply LeO.refl | apply LeO.none | apply LeO.ite | refine LeO.bind ?_ fun _ => ?_
set_option maxHeartbeats 8000000 in
set_option maxRecDepth 100000 in
theorem path_Swap.calls (k : Nat) (pb : Int) (pc : ByteArray) (a1 : ByteArray) (a2 : ByteArray) (r1 : ByteArray) (r2 : Int) (w : World) (h : path_Swap.f k pb pc a1 a2 = some (r1, r2)) :
  Calls Tryz.prog 69 #[.agg #[.int .i64 pb, .string pc], .string a1, .string a2] w fun e w' => e = .returned (.tuple #[.string r1, .int .i64 r2]) ∧ Below w.heap.size w w' := by
 have hu30 := Tryz.underlying30;have HB := am_ (Below.refl w.heap.size w);have H : (if pb = 2 then ((path_Holds.f k pb pc a2).bind fun pj => (if pj = true then ((path_above.f a1).bind fun pg => (path_Swap.j0 k a1 a2 (!pg) pb pc)) else (path_Swap.j0 k a1 a2 true pb pc))) else (path_Swap.j0 k a1 a2 true pb pc)) = some (r1, r2) := h;clear h;have HC4 := Aside0.mk H;clear H;go_enter Tryz.func69, Tryz.ntmps69;go_upto_region 1 with (first | ((with_reducible refine gate_dst (N := 3) rfl ?_); refine box_event ?hg (N := 3) ?hd (cs := #[.int .i64 pb, .string pc]) (t := 30) ?hr ?_; (case hd => rfl); (case hg => rfl); (case hr => first | (go_simp; done) | (go_simp; rfl)); intro pm hg w5 hbox hb; have pa := am_ (hbox); have pz := sz_ HB hg; have pA := sz_ HB hg; replace HB := bs_ HB hb; clear hb hbox hg))
 (try simp only [Act.put, List.setIfInBounds_toArray, List.set_cons_zero, List.set_cons_succ]);go_cut [22] (fun po wc => ∃ (kq : Nat) (ph : Bool), po = .bool ph ∧ Aside0 (path_Swap.j0 kq a1 a2 ph pb pc = some (r1, r2)) ∧ Aside0 (kq ≤ k) ∧ Aside0 (wc.heap[pm]? = some (.cells #[.int .i64 pb, .string pc] 30 (0, 0))) ∧ Aside0 (Below w.heap.size w wc))
 case first =>
  have H := HC4.out;clear HC4;by_cases c6 : pb = 2
  ·rw [if_pos c6] at H
   have pe := eqb_ c6;have pk := neb_ c6;clear c6;(first | rw [pe] | rw [pk] | rw [pp] | (simp only [i64_w, i32_w]; rw [pe]) | skip);obtain ⟨pj, A7, H⟩ := bnd_ H;by_cases c8 : pj = true
   ·subst c8
    replace H := ift_ H;obtain ⟨pg, A9, H⟩ := bnd_ H;have H' := Aside0.mk H;clear H;obtain ⟨pB, pC, pD, pE⟩ := blk2 pa.out;go_wp2_with (first | (go_at_call 39; (with_reducible refine (path_Holds.calls k pb pc a2 true _ A7.out).mono ?_); rintro e w11 ⟨rfl, hb⟩; replace pa := bb_ pa hb; replace HB := bs_ HB hb; (try clear hb)) | (go_at_call 80; (with_reducible refine (path_above.calls a1 pg _ A9.out).mono ?_); rintro e w12 ⟨rfl, hb⟩; replace pa := bb_ pa hb; replace HB := bs_ HB hb; (try clear hb)));go_meet
    case rel => exact ⟨_, (!pg), sd_, H', ⟨le_⟩, ⟨blk_ pa.out⟩, ⟨bel_ HB.out⟩⟩
   ·replace c8 := Bool.eq_false_iff.mpr c8
    subst c8;replace H := iff_ H;have H' := Aside0.mk H;clear H;obtain ⟨pF, pG, pH, pI⟩ := blk2 pa.out;go_wp2_with (first | (go_at_call 39; (with_reducible refine (path_Holds.calls k pb pc a2 false _ A7.out).mono ?_); rintro e w14 ⟨rfl, hb⟩; replace pa := bb_ pa hb; replace HB := bs_ HB hb; (try clear hb)));go_meet
    case rel => exact ⟨_, (true), sd_, H', ⟨le_⟩, ⟨blk_ pa.out⟩, ⟨bel_ HB.out⟩⟩
  ·rw [if_neg c6] at H
   have pe := eqf_ c6;have pk := nef_ c6;(first | rw [pe] | rw [pk] | rw [pp] | (simp only [i64_w, i32_w]; rw [pe]) | skip);have H' := Aside0.mk H;clear H;obtain ⟨pJ, pK, pL, pM⟩ := blk2 pa.out;go_wp2;go_meet
   case rel => exact ⟨_, (true), sd_, H', ⟨le_⟩, ⟨blk_ pa.out⟩, ⟨bel_ HB.out⟩⟩
 case rest =>
  clear HC4;obtain ⟨kq, ph, rfl, HA, HJ3, pa, HB⟩ := hcut;cases kq with
  | zero => exact absurd HA.out (by simp [path_Swap.j0])
  | succ kj3 =>
   have H := HA.out;clear HA;simp only [path_Swap.j0] at H;by_cases c16 : ph = true
   ·subst c16
    replace H := ift_ H;simp only [Option.some.injEq, Prod.mk.injEq] at H;obtain ⟨rfl, rfl⟩ := H;go_wp2;go_ret2;exact ⟨fi_, bel_ HB.out⟩
   ·replace c16 := Bool.eq_false_iff.mpr c16
    subst c16;replace H := iff_ H;obtain ⟨pd, A17, H⟩ := bnd_ H;have HC18 := Aside0.mk H;clear H;obtain ⟨pq, pr, ps, pt⟩ := blk2 pa.out;go_upto_region 4 with (first | ((with_reducible refine gate_callee (f := 88) rfl ?_); refine goesL_ (some 25) rfl rfl Tryz.func88 kr_ rfl #[.agg #[.int .i64 pb, .string pc], .string a2] rfl rl_ ?_; (with_reducible refine (path_tail.calls pb pc a2 pd _ A17.out).mono ?_); rintro e w20 ⟨rfl, hb⟩; refine ⟨_, rfl, ?_⟩; replace pa := bb_ pa hb; replace HB := bs_ HB hb; (try clear hb)))
    (try simp only [Act.put, List.setIfInBounds_toArray, List.set_cons_zero, List.set_cons_succ]);go_cut [26] (fun pu wc => ∃ (kq : Nat) (pi : Bool), pu = .bool pi ∧ Aside0 (path_Swap.j1 kq a1 pd pi = some (r1, r2)) ∧ Aside0 (kq ≤ kj3) ∧ Aside0 (wc.heap[pm]? = some (.cells #[.int .i64 pb, .string pc] 30 (0, 0))) ∧ Aside0 (Below w.heap.size w wc))
    case first =>
     have H := HC18.out;clear HC18;by_cases c21 : a1.toList = ([47] : List UInt8)
     ·rw [if_pos c21] at H
      have pf := eqb_ c21;have pl := neb_ c21;clear c21;(first | rw [pf] | rw [pl] | rw [pv] | (simp only [i64_w, i32_w]; rw [pf]) | skip);have H' := Aside0.mk H;clear H;go_wp2;go_meet
      case rel => exact ⟨_, ((pd.toList == ([] : List UInt8))), sd_, H', ⟨le1_ HJ3.out⟩, ⟨blk_ pa.out⟩, ⟨bel_ HB.out⟩⟩
     ·rw [if_neg c21] at H
      have pf := eqf_ c21;have pl := nef_ c21;(first | rw [pf] | rw [pl] | rw [pv] | (simp only [i64_w, i32_w]; rw [pf]) | skip);have H' := Aside0.mk H;clear H;go_wp2;go_meet
      case rel => exact ⟨_, (false), sd_, H', ⟨le1_ HJ3.out⟩, ⟨blk_ pa.out⟩, ⟨bel_ HB.out⟩⟩
    case rest =>
     clear HC18;try clear c16 pq pr ps pt
     obtain ⟨kq, pi, rfl, HA, HJ17, pa, HB⟩ := hcut;cases kq with
     | zero => exact absurd HA.out (by simp [path_Swap.j1])
     | succ kj17 =>
      have H := HA.out;clear HA;simp only [path_Swap.j1] at H;by_cases c22 : pi = true
      ·subst c22
       replace H := ift_ H;simp only [Option.some.injEq, Prod.mk.injEq] at H;obtain ⟨rfl, rfl⟩ := H;go_wp2;go_ret2;exact ⟨fi_, bel_ HB.out⟩
      ·replace c22 := Bool.eq_false_iff.mpr c22
       subst c22;replace H := iff_ H;by_cases c23 : a1.toList = ([47] : List UInt8)
       ·rw [if_pos c23] at H
        have pw := eqb_ c23;have px := neb_ c23;clear c23;simp only [Option.some.injEq, Prod.mk.injEq] at H;obtain ⟨rfl, rfl⟩ := H;go_wp2;go_ret2;exact ⟨fi_, bel_ HB.out⟩
       ·rw [if_neg c23] at H
        have pw := eqf_ c23;have px := nef_ c23;by_cases c24 : (wrap64 ((a1.size : Int) + (pd.size : Int))) > 60
        ·rw [if_pos c24] at H
         have pn := decide_eq_true c24;clear c24;simp only [Option.some.injEq, Prod.mk.injEq] at H;obtain ⟨rfl, rfl⟩ := H;go_wp2;go_ret2;exact ⟨fi_, bel_ HB.out⟩
        ·rw [if_neg c24] at H
         have pn := decide_eq_false c24;clear c24;by_cases c25 : a1.size + pd.size ≤ 9223372036854775807
         ·rw [if_pos c25] at H
          have pN := eq_true c25;have pO := decide_eq_true c25;try have pP : (9223372036854775807 < a1.size + pd.size) = False := eq_false (Nat.not_lt.2 c25)
          have c24b0u := pn;(try rw [wrap_sum c25] at c24b0u);simp only [Option.some.injEq, Prod.mk.injEq] at H;obtain ⟨rfl, rfl⟩ := H;go_wp2;go_ret2;exact ⟨fi_, bel_ HB.out⟩
         ·rw [if_neg c25] at H
          cases H

/-! ### filter_becomes: function 48 -/
def filter_becomes.f (k : Nat) (a0_0 : Int) (a0_1 : ByteArray) (a0_2 : ByteArray) (a0_3 : ByteArray) (a0_4 : Int) (a0_5 : ByteArray) (a0_6 : Bool) (a0_7 : Int) (a1_0 : Int) (a1_1 : ByteArray) (a2 : ByteArray) : Option (ByteArray × Int) := if a0_5.toList = ([] : List UInt8) then (some (a2, 0)) else (if a0_6 = true then (some (a0_5, 0)) else (if a1_0 = 1 then (some (a0_5, 0)) else ((path_Swap.f k a1_0 a1_1 a0_5 a2).bind fun bt203 => (some (bt203.1, bt203.2)))))
theorem filter_becomes.mono : ∀ a0 a1 a2 a3 a4 a5 a6 a7 a8 a9 a10 k, LeO (filter_becomes.f k a0 a1 a2 a3 a4 a5 a6 a7 a8 a9 a10) (filter_becomes.f (k + 1) a0 a1 a2 a3 a4 a5 a6 a7 a8 a9 a10) := by
 intro a0 a1 a2 a3 a4 a5 a6 a7 a8 a9 a10 k
 unfold filter_becomes.f
 repeat' with_reducible first | apply path_Swap.mono | apply LeO.refl | apply LeO.none | apply LeO.ite | refine LeO.bind ?_ fun _ => ?_
set_option maxHeartbeats 8000000 in
set_option maxRecDepth 100000 in
theorem filter_becomes.calls (k : Nat) (ph : Int) (pi : ByteArray) (pj : ByteArray) (pk : ByteArray) (pl : Int) (pb : ByteArray) (pn : Bool) (pm : Int) (pc : Int) (pd : ByteArray) (a2 : ByteArray) (r1 : ByteArray) (r2 : Int) (w : World) (h : filter_becomes.f k ph pi pj pk pl pb pn pm pc pd a2 = some (r1, r2)) :
  Calls Tryz.prog 48 #[.agg #[.int .i64 ph, .string pi, .string pj, .string pk, .int .i64 pl, .string pb, .bool pn, .int .i64 pm], .agg #[.int .i64 pc, .string pd], .string a2] w fun e w' => e = .returned (.tuple #[.string r1, .int .i64 r2]) ∧ Below w.heap.size w w' := by
 have hu26 := Tryz.underlying26;have hu30 := Tryz.underlying30;have HB := am_ (Below.refl w.heap.size w);have H : (if pb.toList = ([] : List UInt8) then (some (a2, 0)) else (if pn = true then (some (pb, 0)) else (if pc = 1 then (some (pb, 0)) else ((path_Swap.f k pc pd pb a2).bind fun bt203 => (some (bt203.1, bt203.2)))))) = some (r1, r2) := h;clear h;by_cases c4 : pb.toList = ([] : List UInt8)
 ·rw [if_pos c4] at H
  have pw := eqb_ c4;have px := neb_ c4;clear c4;simp only [Option.some.injEq, Prod.mk.injEq] at H;obtain ⟨rfl, rfl⟩ := H;go_enter Tryz.func48, Tryz.ntmps48;go_wp2_with (first | ((with_reducible refine gate_dst (N := 3) rfl ?_); refine box_event ?hg (N := 3) ?hd (cs := #[.int .i64 ph, .string pi, .string pj, .string pk, .int .i64 pl, .string pb, .bool pn, .int .i64 pm]) (t := 26) ?hr ?_; (case hd => rfl); (case hg => rfl); (case hr => first | (go_simp; done) | (go_simp; rfl)); intro po hg w5 hbox hb; have pa := am_ (hbox); have pp := sz_ HB hg; have pq := sz_ HB hg; replace HB := bs_ HB hb; clear hb hbox hg) | ((with_reducible refine gate_dst (N := 4) rfl ?_); refine box_event ?hg (N := 4) ?hd (cs := #[.int .i64 pc, .string pd]) (t := 30) ?hr ?_; (case hd => rfl); (case hg => rfl); (case hr => first | (go_simp; done) | (go_simp; rfl)); intro pr hg w6 hbox hb; have pe := am_ (hbox); have ps := sz_ HB hg; have pt := sz_ HB hg; replace HB := bs_ HB hb; have pf := nl_ pa hg; have pg := nr_ pa hg; replace pa := bb_ pa hb; clear hb hbox hg; have pB := pf.out; have pC := pg.out; obtain ⟨pD, pE, pF, pG, pH, pI, pJ, pK, pL, pM, pN, pO, pP, pQ, pR, pS⟩ := blk8 pa.out));go_ret2;exact ⟨fi_, bel_ HB.out⟩
 ·rw [if_neg c4] at H
  have pw := eqf_ c4;have px := nef_ c4;by_cases c9 : pn = true
  ·subst c9
   replace H := ift_ H;simp only [Option.some.injEq, Prod.mk.injEq] at H;obtain ⟨rfl, rfl⟩ := H;go_enter Tryz.func48, Tryz.ntmps48;go_wp2_with (first | ((with_reducible refine gate_dst (N := 3) rfl ?_); refine box_event ?hg (N := 3) ?hd (cs := #[.int .i64 ph, .string pi, .string pj, .string pk, .int .i64 pl, .string pb, .bool true, .int .i64 pm]) (t := 26) ?hr ?_; (case hd => rfl); (case hg => rfl); (case hr => first | (go_simp; done) | (go_simp; rfl)); intro po hg w10 hbox hb; have pa := am_ (hbox); have pp := sz_ HB hg; have pq := sz_ HB hg; replace HB := bs_ HB hb; clear hb hbox hg) | ((with_reducible refine gate_dst (N := 4) rfl ?_); refine box_event ?hg (N := 4) ?hd (cs := #[.int .i64 pc, .string pd]) (t := 30) ?hr ?_; (case hd => rfl); (case hg => rfl); (case hr => first | (go_simp; done) | (go_simp; rfl)); intro pr hg w11 hbox hb; have pe := am_ (hbox); have ps := sz_ HB hg; have pt := sz_ HB hg; replace HB := bs_ HB hb; have pf := nl_ pa hg; have pg := nr_ pa hg; replace pa := bb_ pa hb; clear hb hbox hg; have pT := pf.out; have pU := pg.out; obtain ⟨pV, pW, pX, pY, pZ, p0, p3, p4, p5, p6, p7, p8, p9, qa, qb, qc⟩ := blk8 pa.out));go_ret2;exact ⟨fi_, bel_ HB.out⟩
  ·replace c9 := Bool.eq_false_iff.mpr c9
   subst c9;replace H := iff_ H;by_cases c14 : pc = 1
   ·rw [if_pos c14] at H
    have pz := eqb_ c14;have pA := neb_ c14;clear c14;simp only [Option.some.injEq, Prod.mk.injEq] at H;obtain ⟨rfl, rfl⟩ := H;go_enter Tryz.func48, Tryz.ntmps48;go_wp2_with (first | ((with_reducible refine gate_dst (N := 3) rfl ?_); refine box_event ?hg (N := 3) ?hd (cs := #[.int .i64 ph, .string pi, .string pj, .string pk, .int .i64 pl, .string pb, .bool false, .int .i64 pm]) (t := 26) ?hr ?_; (case hd => rfl); (case hg => rfl); (case hr => first | (go_simp; done) | (go_simp; rfl)); intro po hg w15 hbox hb; have pa := am_ (hbox); have pp := sz_ HB hg; have pq := sz_ HB hg; replace HB := bs_ HB hb; clear hb hbox hg) | ((with_reducible refine gate_dst (N := 4) rfl ?_); refine box_event ?hg (N := 4) ?hd (cs := #[.int .i64 pc, .string pd]) (t := 30) ?hr ?_; (case hd => rfl); (case hg => rfl); (case hr => first | (go_simp; done) | (go_simp; rfl)); intro pr hg w16 hbox hb; have pe := am_ (hbox); have ps := sz_ HB hg; have pt := sz_ HB hg; replace HB := bs_ HB hb; have pf := nl_ pa hg; have pg := nr_ pa hg; replace pa := bb_ pa hb; clear hb hbox hg; have qd := pf.out; have qe := pg.out; obtain ⟨qf, qg, qh, qi, qj, qk, ql, qm, qn, qo, qp, qq, qr, qs, qt, qu⟩ := blk8 pa.out; obtain ⟨qv, qw, qx, qy⟩ := blk2 pe.out));go_ret2;exact ⟨fi_, bel_ HB.out⟩
   ·rw [if_neg c14] at H
    have pz := eqf_ c14;have pA := nef_ c14;obtain ⟨⟨pu, pv⟩, A20, H⟩ := bnd_ H;replace H : (some (pu, pv)) = some (r1, r2) := H;simp only [Option.some.injEq, Prod.mk.injEq] at H;obtain ⟨rfl, rfl⟩ := H;go_enter Tryz.func48, Tryz.ntmps48;go_wp2_with (first | ((with_reducible refine gate_dst (N := 3) rfl ?_); refine box_event ?hg (N := 3) ?hd (cs := #[.int .i64 ph, .string pi, .string pj, .string pk, .int .i64 pl, .string pb, .bool false, .int .i64 pm]) (t := 26) ?hr ?_; (case hd => rfl); (case hg => rfl); (case hr => first | (go_simp; done) | (go_simp; rfl)); intro po hg w21 hbox hb; have pa := am_ (hbox); have pp := sz_ HB hg; have pq := sz_ HB hg; replace HB := bs_ HB hb; clear hb hbox hg) | ((with_reducible refine gate_dst (N := 4) rfl ?_); refine box_event ?hg (N := 4) ?hd (cs := #[.int .i64 pc, .string pd]) (t := 30) ?hr ?_; (case hd => rfl); (case hg => rfl); (case hr => first | (go_simp; done) | (go_simp; rfl)); intro pr hg w22 hbox hb; have pe := am_ (hbox); have ps := sz_ HB hg; have pt := sz_ HB hg; replace HB := bs_ HB hb; have pf := nl_ pa hg; have pg := nr_ pa hg; replace pa := bb_ pa hb; clear hb hbox hg; have qz := pf.out; have qA := pg.out; obtain ⟨qB, qC, qD, qE, qF, qG, qH, qI, qJ, qK, qL, qM, qN, qO, qP, qQ⟩ := blk8 pa.out; obtain ⟨qR, qS, qT, qU⟩ := blk2 pe.out) | ((with_reducible refine gate_callee (f := 69) rfl ?_); refine goesL_ (some 27) rfl rfl Tryz.func69 kr_ rfl #[.agg #[.int .i64 pc, .string pd], .string pb, .string a2] rfl rl_ ?_; (with_reducible refine (path_Swap.calls k pc pd pb a2 pu pv _ A20.out).mono ?_); rintro e w26 ⟨rfl, hb⟩; refine ⟨_, rfl, ?_⟩; replace pa := bb_ pa hb; replace pe := bb_ pe hb; replace HB := bs_ HB hb; (try clear hb)));go_ret2;exact ⟨fi_, bel_ HB.out⟩

end Go.Proofs.YtfdopmjgiakcdaaGreatDoor.P
