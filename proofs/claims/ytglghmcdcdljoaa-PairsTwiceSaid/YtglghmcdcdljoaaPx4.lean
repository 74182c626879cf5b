-- written by wip/tool/hprint.py of this repo: the kit's print, with contracts by hand joined; Lean checks it.
import Derived.Test.YtglghmcdcdljoaaPx0
import Derived.Test.YtglghmcdcdljoaaPx2
import Derived.Test.YtglghmcdcdljoaaPx3
namespace Go.Proofs.Ytglghmcdcdljoaa.P
open Go.RowKit Go.Proofs.YtglghmcdcdljoaaW.PrintWords Go.Proofs.YtglghmcdcdljoaaW.PrintLast Go.Proofs.YtglghmcdcdljoaaW.PrintMore
attribute [local go_sem] max2_int min2_int max_two min_two max_three min_three max_four min_four   -- for this text's walks alone
set_option linter.unusedVariables false
set_option linter.unusedSimpArgs false

/-! ### PairsTwice's third region: two rows, each made, handed to Few, and its first pair read, beside two boxes that are made and written; the order is open -/
/-- The blocks that the region's events make. -/
def twB (v1 v2 v6 v7 : Value) (gx gy : Nat) (i : Nat) : Option Nat :=
  if i = 1 then v1.ownBlock else if i = 2 then v2.ownBlock else if i = 6 then v6.ownBlock else if i = 7 then v7.ownBlock else if i = 10 then some gx else if i = 11 then some gy else none
def twL (xa xb x1 x2 : S24) (v1 v2 v6 v7 : Value) (A1 A2 : Addr) (gx gy : Nat) : List (Nat × Tmp × Value) :=
  [(0, 18, .agg #[.string xa.f0, .string xa.f1]), (1, 19, v1), (2, 20, v2), (3, 21, .pointer (some A1)), (4, 22, .agg #[.string x1.f0, .string x1.f1]), (5, 23, .agg #[.string xb.f0, .string xb.f1]),
   (6, 24, v6), (7, 25, v7), (8, 26, .pointer (some A2)), (9, 27, .agg #[.string x2.f0, .string x2.f1]), (10, 7, .pointer (some ⟨gx, 0, none⟩)), (11, 8, .pointer (some ⟨gy, 0, none⟩))]
structure TwI (w0 : World) (a0 : Act) (xa xb : S24) (t1 t2 : List S24) (b : Nat → Bool) (a : Act) (w : World) (v1 v2 v6 v7 : Value) (A1 A2 : Addr) (c1 c2 gx gy : Nat) : Prop where
  act : a = putSel a0 b (twL xa xb (rd_T24 t1 0) (rd_T24 t2 0) v1 v2 v6 v7 A1 A2 gx gy)
  below : Below w0.heap.size w0 w
  r1 : b 1 = true → Kd.R k24 24 w w0.heap.size (fun _ => True) v1 [xa]
  r2 : b 2 = true → Kd.R k24 24 w w0.heap.size (fun _ => True) v2 t1 ∧ v2 = .slice (some A1) t1.length c1
  r6 : b 6 = true → Kd.R k24 24 w w0.heap.size (fun _ => True) v6 [xb]
  r7 : b 7 = true → Kd.R k24 24 w w0.heap.size (fun _ => True) v7 t2 ∧ v7 = .slice (some A2) t2.length c2
  bx : b 10 = true → w.heap[gx]? = some (.cells (if b 12 = true then #[.string (rd_T24 t1 0).f0, .string (rd_T24 t1 0).f1] else #[.string (⟨#[]⟩ : ByteArray), .string (⟨#[]⟩ : ByteArray)]) 24 (0, 0)) ∧ w0.heap.size ≤ gx
  by' : b 11 = true → w.heap[gy]? = some (.cells (if b 13 = true then #[.string (rd_T24 t2 0).f0, .string (rd_T24 t2 0).f1] else #[.string (⟨#[]⟩ : ByteArray), .string (⟨#[]⟩ : ByteArray)]) 24 (0, 0)) ∧ w0.heap.size ≤ gy
  ap : ∀ i j, i ≠ j → b i = true → b j = true → twB v1 v2 v6 v7 gx gy i = none ∨ twB v1 v2 v6 v7 gx gy i ≠ twB v1 v2 v6 v7 gx gy j
theorem TwI.lt {w0 : World} {a0 : Act} {xa xb : S24} {t1 t2 : List S24} {b : Nat → Bool} {a : Act} {w : World} {v1 v2 v6 v7 : Value} {A1 A2 : Addr} {c1 c2 gx gy : Nat} (h : TwI w0 a0 xa xb t1 t2 b a w v1 v2 v6 v7 A1 A2 c1 c2 gx gy) (j : Nat) (hj : b j = true) (k : Nat) (hk : twB v1 v2 v6 v7 gx gy j = some k) : k < w.heap.size := by
  unfold twB at hk
  split at hk
  · next e => subst e; exact Kd.R_lt (h.r1 hj) k hk
  split at hk
  · next e => subst e; exact Kd.R_lt (h.r2 hj).1 k hk
  split at hk
  · next e => subst e; exact Kd.R_lt (h.r6 hj) k hk
  split at hk
  · next e => subst e; exact Kd.R_lt (h.r7 hj).1 k hk
  split at hk
  · next e => subst e; obtain rfl := Option.some.inj hk; exact blk_lt (h.bx hj).1
  split at hk
  · next e => subst e; obtain rfl := Option.some.inj hk; exact blk_lt (h.by' hj).1
  · cases hk
/-- A new block beside those that are there. -/
theorem tw_ap {B B' : Nat → Option Nat} {b : Nat → Bool} {n i : Nat} (h : ∀ i j, i ≠ j → b i = true → b j = true → B i = none ∨ B i ≠ B j) (hlt : ∀ j, b j = true → ∀ k, B j = some k → k < n) (hB : ∀ j, j ≠ i → B' j = B j) (hnew : ∀ k, B' i = some k → n ≤ k) :
    ∀ p q, p ≠ q → up b i p = true → up b i q = true → B' p = none ∨ B' p ≠ B' q := by
  intro p q hpq hp hq
  by_cases e1 : p = i
  · subst e1
    have hq' : q ≠ p := fun e => hpq e.symm
    rw [up_ne hq'] at hq
    rw [hB q hq']
    cases hk : B' p with
    | none => exact .inl rfl
    | some k => exact .inr (fun e => by have := hnew k hk; have := hlt q hq k e.symm; omega)
  · rw [up_ne e1] at hp
    rw [hB p e1]
    by_cases e2 : q = i
    · subst e2
      cases hk : B p with
      | none => exact .inl rfl
      | some k => exact .inr (fun e => by have := hnew k e.symm; have := hlt p hp k hk; omega)
    · rw [up_ne e2] at hq
      rw [hB q e2]
      exact h p q hpq hp hq
/-- Nothing new. -/
theorem tw_ap0 {B : Nat → Option Nat} {b : Nat → Bool} {i : Nat} (h : ∀ i j, i ≠ j → b i = true → b j = true → B i = none ∨ B i ≠ B j) (hi : B i = none) :
    ∀ p q, p ≠ q → up b i p = true → up b i q = true → B p = none ∨ B p ≠ B q := by
  intro p q hpq hp hq
  by_cases e1 : p = i
  · subst e1; exact .inl hi
  · rw [up_ne e1] at hp
    by_cases e2 : q = i
    · subst e2
      cases hk : B p with
      | none => exact .inl rfl
      | some k => exact .inr (by rw [hi]; simp)
    · rw [up_ne e2] at hq
      exact h p q hpq hp hq
theorem twR_set {w w' : World} {base g : Nat} {v : Value} {xs : List S24} (h : Kd.R k24 24 w base (fun _ => True) v xs) (hne : v.ownBlock = none ∨ v.ownBlock ≠ some g) (hm : ∀ k, k ≠ g → w'.heap[k]? = w.heap[k]?) : Kd.R k24 24 w' base (fun _ => True) v xs :=
  Kd.R_mono (Kd.R_step (Kd.R_flat (ok' := fun k => k ≠ g) (fun h => h) h (fun k hk _ e => by rcases hne with hn | hn; (rw [hn] at hk; cases hk); exact hn (by rw [hk, e]))) (fun k ok _ => hm k ok)) (fun _ _ => trivial)
theorem two_put {w : World} {g : Nat} {c0 c1 : Value} (h : w.heap[g]? = some (.cells #[c0, c1] 24 (0, 0))) (v0 v1 : Value) :
    ((w.setCell ⟨g, 0, none⟩ v0).setCell ⟨g, 1, none⟩ v1).heap[g]? = some (.cells #[v0, v1] 24 (0, 0)) ∧ ∀ k, k ≠ g → ((w.setCell ⟨g, 0, none⟩ v0).setCell ⟨g, 1, none⟩ v1).heap[k]? = w.heap[k]? :=
  ⟨blk_put (cs := #[v0, c1]) (blk_put (cs := #[c0, c1]) h 0 _ rfl) 1 _ rfl, fun k hk => by rw [Below.heap_setCell _ _ _ k hk, Below.heap_setCell _ _ _ k hk]⟩
/-- The relation, its letters hidden. -/
def TwJ (w0 : World) (xa xb : S24) (t1 t2 : List S24) (a0 : Act) (b : Nat → Bool) (a : Act) (w : World) : Prop := ∃ v1 v2 v6 v7 A1 A2 c1 c2 gx gy, TwI w0 a0 xa xb t1 t2 b a w v1 v2 v6 v7 A1 A2 c1 c2 gx gy
abbrev twO : List Nat := [0, 1, 2, 3, 4, 5, 6, 7, 8, 9, 10, 11, 12, 13]
section
variable {Q : Exit → Act → World → Prop} {w0 : World} {a0 : Act} {xa xb : S24} {t1 t2 : List S24} {gA gB : Nat}
/-- A step that makes no block and leaves the world as it is: what it yields is what the table tells. -/
theorem tw_pure {b : Nat → Bool} {a a' : Act} {w : World} {i : Nat} {v1 v2 v6 v7 : Value} {A1 A2 : Addr} {c1 c2 gx gy : Nat} (h : TwI w0 a0 xa xb t1 t2 b a w v1 v2 v6 v7 A1 A2 c1 c2 gx gy) (h1 : i ≠ 1) (h2 : i ≠ 2) (h6 : i ≠ 6) (h7 : i ≠ 7) (h10 : i ≠ 10) (h11 : i ≠ 11) (h12 : i ≠ 12) (h13 : i ≠ 13)
    (ha : a' = putSel a0 (up b i) (twL xa xb (rd_T24 t1 0) (rd_T24 t2 0) v1 v2 v6 v7 A1 A2 gx gy)) : TwJ w0 xa xb t1 t2 a0 (up b i) a' w :=
  ⟨v1, v2, v6, v7, A1, A2, c1, c2, gx, gy, ha, h.below, fun hb => h.r1 (by rwa [up_ne (Ne.symm h1)] at hb), fun hb => h.r2 (by rwa [up_ne (Ne.symm h2)] at hb), fun hb => h.r6 (by rwa [up_ne (Ne.symm h6)] at hb), fun hb => h.r7 (by rwa [up_ne (Ne.symm h7)] at hb),
    fun hb => by rw [up_ne (Ne.symm h12)]; exact h.bx (by rwa [up_ne (Ne.symm h10)] at hb), fun hb => by rw [up_ne (Ne.symm h13)]; exact h.by' (by rwa [up_ne (Ne.symm h11)] at hb), tw_ap0 h.ap (by simp [twB, h1, h2, h6, h7, h10, h11])⟩
end
/-! ### tolllaw05_PairsTwice: function 3 -/
def tolllaw05_PairsTwice.j0 : Nat → List (S24) → Bool → ByteArray → ByteArray → ByteArray → ByteArray → Option (Bool)
 | 0, _, _, _, _, _, _ => none
 | k + 1, x0, x62, x161000, x161001, x162000, x162001 => if x62 = true then (none) else ((pairs_Set.f x0 x161000 x161001).bind fun t182 => ((pairs_Set.f t182 x162000 x162001).bind fun t185 => ((pairs_Set.f x0 x162000 x162001).bind fun t188 => ((pairs_Set.f t188 x161000 x161001).bind fun t191 => ((pairs_Same.f x161000 x162000).bind fun t194 => (if t194 = true then ((tolllaw05_awake.f k).bind fun t195 => (some t195)) else ((pairs_Get.f t185 x161000).bind fun bt196 => ((pairs_Get.f t191 x161000).bind fun bt198 => (if (t185.length : Int) = (t191.length : Int) then (if bt196.1.toList = x161001.toList then (if bt198.1.toList = x161001.toList then ((tolllaw05_awake.f k).bind fun t200 => (some t200)) else (none)) else (none)) else (none))))))))))
def tolllaw05_PairsTwice.f (k : Nat) (l0 : List (S24)) (a1_0 : ByteArray) (a1_1 : ByteArray) (a2_0 : ByteArray) (a2_1 : ByteArray) : Option (Bool) := (tolllaw05_Few.f k l0).bind fun t143 => ((tolllaw05_Few.f k (([(⟨a1_0, a1_1⟩ : S24)] : List (S24)))).bind fun t149 => (if 0 < (t149.length : Int) then ((tolllaw05_Few.f k (([(⟨a2_0, a2_1⟩ : S24)] : List (S24)))).bind fun t156 => (if 0 < (t156.length : Int) then ((pairs_Set.f t143 ((rd_T24 t149 0).f0) ((rd_T24 t156 0).f1)).bind fun t162 => ((pairs_Set.f t143 ((rd_T24 t149 0).f0) ((rd_T24 t149 0).f1)).bind fun t165 => ((pairs_Set.f t165 ((rd_T24 t149 0).f0) ((rd_T24 t156 0).f1)).bind fun t168 => ((tollref04_Same.f k t168 t162).bind fun t171 => (if t171 = true then ((pairs_Drop.f t143 ((rd_T24 t149 0).f0)).bind fun t172 => ((pairs_Drop.f t172 ((rd_T24 t149 0).f0)).bind fun t175 => ((pairs_Drop.f t143 ((rd_T24 t149 0).f0)).bind fun t178 => ((tollref04_Same.f k t175 t178).bind fun t181 => (tolllaw05_PairsTwice.j0 k t143 (!t181) ((rd_T24 t149 0).f0) ((rd_T24 t149 0).f1) ((rd_T24 t156 0).f0) ((rd_T24 t156 0).f1)))))) else (none)))))) else (none))) else (none)))
theorem tolllaw05_PairsTwice.mono_l : ∀ k, (∀ y0 y1 y2 y3 y4 y5, LeO (tolllaw05_PairsTwice.j0 k y0 y1 y2 y3 y4 y5) (tolllaw05_PairsTwice.j0 (k + 1) y0 y1 y2 y3 y4 y5))
 | 0 => fun _ _ _ _ _ _ r h => by simp [tolllaw05_PairsTwice.j0] at h
 | k + 1 => by
  have ih0 := tolllaw05_PairsTwice.mono_l k
  ·intro y0 y1 y2 y3 y4 y5
   unfold tolllaw05_PairsTwice.j0
   repeat' with_reducible first | apply ih0 | apply tolllaw05_Few.mono | apply tolllaw05_awake.mono | apply tollref04_Same.mono | apply LeO.refl | apply LeO.none | apply LeO.ite | refine LeO.bind ?_ fun _ => ?_
theorem tolllaw05_PairsTwice.mono : ∀ a0 a1 a2 a3 a4 k, LeO (tolllaw05_PairsTwice.f k a0 a1 a2 a3 a4) (tolllaw05_PairsTwice.f (k + 1) a0 a1 a2 a3 a4) := by
 intro a0 a1 a2 a3 a4 k
 have ih0 := tolllaw05_PairsTwice.mono_l k
 unfold tolllaw05_PairsTwice.f
 repeat' with_reducible first | apply ih0 | apply tolllaw05_Few.mono | apply tolllaw05_awake.mono | apply tollref04_Same.mono | apply LeO.refl | apply LeO.none | apply LeO.ite | refine LeO.bind ?_ fun _ => ?_
def tolllaw05_PairsTwice.T2 : Bool × List (List Nat × List Nat) := (true, [([], []), ([0], [0]), ([1], [1]), ([2], [2]), ([3], [3]), ([], []), ([5], [5]), ([6, 2], [6]), ([7], [7]), ([8], [8]), ([], []), ([], []), ([10, 4, 7, 0, 1, 2, 3, 4, 10, 11], [4, 10]), ([11, 9, 12, 0, 1, 2, 3, 4, 5, 6, 7, 8, 9, 10, 11, 12], [9, 11])])
def tolllaw05_PairsTwice.B2 : List Nat := [0, 1, 3, 7, 15, 0, 32, 103, 231, 487, 0, 0, 3327, 8191]
theorem tolllaw05_PairsTwice.tab2 : rtab .any (opsOf Try.f3 2) = tolllaw05_PairsTwice.T2 := by kernel_rfl
theorem tolllaw05_PairsTwice.bits2 : waitsOk tolllaw05_PairsTwice.T2.2 tolllaw05_PairsTwice.B2 = true := by kernel_rfl
theorem tw_o0 : (opsOf Try.f3 2)[0]? = some { dst := some 18, op := Go.Op.load 24 (Go.Operand.tmp 4), type := 24, pos := "law.go:98", after := #[], guard := none } := by kernel_rfl
theorem tw_o1 : (opsOf Try.f3 2)[1]? = some { dst := some 19, op := Go.Op.buildSlice 22 1 #[(0, Go.Operand.tmp 18)], type := 22, pos := "law.go:98", after := #[{ on := 0, ground := Go.Ground.data }], guard := none } := by kernel_rfl
theorem tw_o2 : (opsOf Try.f3 2)[2]? = some { dst := some 20, op := Go.Op.call { callee := Go.Callee.value (Go.Operand.func 4), args := #[Go.Operand.tmp 19], argTypes := #[22] }, type := 22, pos := "law.go:98", after := #[{ on := 1, ground := Go.Ground.data }], guard := none } := by kernel_rfl
theorem tw_o3 : (opsOf Try.f3 2)[3]? = some { dst := some 21, op := Go.Op.indexAddr 22 (Go.Operand.tmp 20) (Go.Operand.const (Go.Value.int Go.IntKind.i64 0)), type := 0, pos := "law.go:98", after := #[{ on := 2, ground := Go.Ground.data }], guard := none } := by kernel_rfl
theorem tw_o4 : (opsOf Try.f3 2)[4]? = some { dst := some 22, op := Go.Op.load 24 (Go.Operand.tmp 21), type := 24, pos := "law.go:98", after := #[{ on := 3, ground := Go.Ground.data }], guard := none } := by kernel_rfl
theorem tw_o5 : (opsOf Try.f3 2)[5]? = some { dst := some 23, op := Go.Op.load 24 (Go.Operand.tmp 5), type := 24, pos := "law.go:98", after := #[], guard := none } := by kernel_rfl
theorem tw_o6 : (opsOf Try.f3 2)[6]? = some { dst := some 24, op := Go.Op.buildSlice 22 1 #[(0, Go.Operand.tmp 23)], type := 22, pos := "law.go:98", after := #[{ on := 5, ground := Go.Ground.data }], guard := none } := by kernel_rfl
theorem tw_o7 : (opsOf Try.f3 2)[7]? = some { dst := some 25, op := Go.Op.call { callee := Go.Callee.value (Go.Operand.func 4), args := #[Go.Operand.tmp 24], argTypes := #[22] }, type := 22, pos := "law.go:98", after := #[{ on := 6, ground := Go.Ground.data }, { on := 2, ground := Go.Ground.chain }], guard := none } := by kernel_rfl
theorem tw_o8 : (opsOf Try.f3 2)[8]? = some { dst := some 26, op := Go.Op.indexAddr 22 (Go.Operand.tmp 25) (Go.Operand.const (Go.Value.int Go.IntKind.i64 0)), type := 0, pos := "law.go:98", after := #[{ on := 7, ground := Go.Ground.data }, { on := 12, ground := Go.Ground.gcOnly Go.Departure.lateStores }], guard := none } := by kernel_rfl
theorem tw_o9 : (opsOf Try.f3 2)[9]? = some { dst := some 27, op := Go.Op.load 24 (Go.Operand.tmp 26), type := 24, pos := "law.go:98", after := #[{ on := 8, ground := Go.Ground.data }, { on := 12, ground := Go.Ground.gcOnly Go.Departure.lateStores }], guard := none } := by kernel_rfl
theorem tw_o10 : (opsOf Try.f3 2)[10]? = some { dst := some 7, op := Go.Op.alloc 24, type := 0, pos := "law.go:98", after := #[], guard := none } := by kernel_rfl
theorem tw_o11 : (opsOf Try.f3 2)[11]? = some { dst := some 8, op := Go.Op.alloc 24, type := 0, pos := "law.go:98", after := #[], guard := none } := by kernel_rfl
theorem tw_o12 : (opsOf Try.f3 2)[12]? = some { dst := none, op := Go.Op.store 24 (Go.Operand.tmp 7) (Go.Operand.tmp 22), type := 0, pos := "law.go:98", after := #[{ on := 10, ground := Go.Ground.data }, { on := 4, ground := Go.Ground.data }, { on := 7, ground := Go.Ground.chain }, { on := 0, ground := Go.Ground.phase }, { on := 1, ground := Go.Ground.phase }, { on := 2, ground := Go.Ground.phase }, { on := 3, ground := Go.Ground.phase }, { on := 4, ground := Go.Ground.phase }, { on := 5, ground := Go.Ground.textOnly Go.Departure.lateStores }, { on := 6, ground := Go.Ground.textOnly Go.Departure.lateStores }, { on := 7, ground := Go.Ground.textOnly Go.Departure.lateStoresUnsure }, { on := 8, ground := Go.Ground.textOnly Go.Departure.lateStores }, { on := 9, ground := Go.Ground.textOnly Go.Departure.lateStores }, { on := 10, ground := Go.Ground.phase }, { on := 11, ground := Go.Ground.phase }], guard := none } := by kernel_rfl
theorem tw_o13 : (opsOf Try.f3 2)[13]? = some { dst := none, op := Go.Op.store 24 (Go.Operand.tmp 8) (Go.Operand.tmp 27), type := 0, pos := "law.go:98", after := #[{ on := 11, ground := Go.Ground.data }, { on := 9, ground := Go.Ground.data }, { on := 12, ground := Go.Ground.chain }, { on := 0, ground := Go.Ground.phase }, { on := 1, ground := Go.Ground.phase }, { on := 2, ground := Go.Ground.phase }, { on := 3, ground := Go.Ground.phase }, { on := 4, ground := Go.Ground.phase }, { on := 5, ground := Go.Ground.phase }, { on := 6, ground := Go.Ground.phase }, { on := 7, ground := Go.Ground.phase }, { on := 8, ground := Go.Ground.phase }, { on := 9, ground := Go.Ground.phase }, { on := 10, ground := Go.Ground.phase }, { on := 11, ground := Go.Ground.phase }, { on := 12, ground := Go.Ground.phase }], guard := none } := by kernel_rfl
theorem tw_cells {w : World} {base : Nat} {ok : Nat → Prop} {A : Addr} {c : Nat} {t : List S24} (h : Kd.R k24 24 w base ok (.slice (some A) t.length c) t) (hn : 0 < t.length) : w.cell? A = some (.string (rd_T24 t 0).f0) ∧ w.cell? ⟨A.block, A.off + 1, none⟩ = some (.string (rd_T24 t 0).f1) := by
  obtain ⟨ad, e, h0, h1⟩ := at_T24 (Kd.R_reads' h).2.2 0 (Int.le_refl _) (by omega)
  cases e
  rw [show ((0 : Int)).toNat * 2 = 0 from rfl, Addr.add_zero'] at h0 h1
  exact ⟨h0, h1⟩
/-- A step that makes one thing: the rest stays as it was. -/
theorem tw_event {w0 : World} {a0 : Act} {xa xb : S24} {t1 t2 : List S24} {b : Nat → Bool} {a a' : Act} {w w' : World} {i : Nat} {v1 v2 v6 v7 : Value} {A1 A2 : Addr} {c1 c2 gx gy : Nat} (h : TwI w0 a0 xa xb t1 t2 b a w v1 v2 v6 v7 A1 A2 c1 c2 gx gy) (hB : Below w.heap.size w w') (v1' v2' v6' v7' : Value) (A1' A2' : Addr) (c1' c2' gx' gy' : Nat)
    (k1 : i ≠ 1 → v1' = v1) (k2 : i ≠ 2 → v2' = v2 ∧ A1' = A1 ∧ c1' = c1) (k6 : i ≠ 6 → v6' = v6) (k7 : i ≠ 7 → v7' = v7 ∧ A2' = A2 ∧ c2' = c2) (k10 : i ≠ 10 → gx' = gx) (k11 : i ≠ 11 → gy' = gy)
    (n1 : i = 1 → Kd.R k24 24 w' w.heap.size (fun _ => True) v1' [xa]) (n2 : i = 2 → Kd.R k24 24 w' w.heap.size (fun _ => True) v2' t1 ∧ v2' = .slice (some A1') t1.length c1')
    (n6 : i = 6 → Kd.R k24 24 w' w.heap.size (fun _ => True) v6' [xb]) (n7 : i = 7 → Kd.R k24 24 w' w.heap.size (fun _ => True) v7' t2 ∧ v7' = .slice (some A2') t2.length c2')
    (n10 : i = 10 → w'.heap[gx']? = some (.cells #[.string (⟨#[]⟩ : ByteArray), .string (⟨#[]⟩ : ByteArray)] 24 (0, 0)) ∧ w.heap.size ≤ gx') (n11 : i = 11 → w'.heap[gy']? = some (.cells #[.string (⟨#[]⟩ : ByteArray), .string (⟨#[]⟩ : ByteArray)] 24 (0, 0)) ∧ w.heap.size ≤ gy')
    (h12 : b 12 = false) (h13 : b 13 = false) (i12 : i ≠ 12) (i13 : i ≠ 13) (ha : a' = putSel a0 (up b i) (twL xa xb (rd_T24 t1 0) (rd_T24 t2 0) v1' v2' v6' v7' A1' A2' gx' gy')) : TwJ w0 xa xb t1 t2 a0 (up b i) a' w' := by
  have hs := h.below.size
  have u12 : up b i 12 = false := by rw [up_ne (Ne.symm i12)]; exact h12
  have u13 : up b i 13 = false := by rw [up_ne (Ne.symm i13)]; exact h13
  refine ⟨v1', v2', v6', v7', A1', A2', c1', c2', gx', gy', ha, below_step h.below hB, fun hb => ?_, fun hb => ?_, fun hb => ?_, fun hb => ?_, fun hb => ?_, fun hb => ?_, ?_⟩
  · by_cases e : i = 1
    · exact Kd.R_lower (n1 e) hs
    · rw [k1 e]; rw [up_ne (Ne.symm e)] at hb; exact Kd.R_below (h.r1 hb) hB
  · by_cases e : i = 2
    · exact ⟨Kd.R_lower (n2 e).1 hs, (n2 e).2⟩
    · obtain ⟨e1, e2, e3⟩ := k2 e; rw [e1, e2, e3]; rw [up_ne (Ne.symm e)] at hb; exact ⟨Kd.R_below (h.r2 hb).1 hB, (h.r2 hb).2⟩
  · by_cases e : i = 6
    · exact Kd.R_lower (n6 e) hs
    · rw [k6 e]; rw [up_ne (Ne.symm e)] at hb; exact Kd.R_below (h.r6 hb) hB
  · by_cases e : i = 7
    · exact ⟨Kd.R_lower (n7 e).1 hs, (n7 e).2⟩
    · obtain ⟨e1, e2, e3⟩ := k7 e; rw [e1, e2, e3]; rw [up_ne (Ne.symm e)] at hb; exact ⟨Kd.R_below (h.r7 hb).1 hB, (h.r7 hb).2⟩
  · rw [u12]
    by_cases e : i = 10
    · exact ⟨(n10 e).1, Nat.le_trans hs (n10 e).2⟩
    · rw [k10 e]; rw [up_ne (Ne.symm e)] at hb; have := h.bx hb; rw [h12] at this; exact ⟨blk_below this.1 hB, this.2⟩
  · rw [u13]
    by_cases e : i = 11
    · exact ⟨(n11 e).1, Nat.le_trans hs (n11 e).2⟩
    · rw [k11 e]; rw [up_ne (Ne.symm e)] at hb; have := h.by' hb; rw [h13] at this; exact ⟨blk_below this.1 hB, this.2⟩
  · refine tw_ap h.ap (fun j hj k hk => h.lt j hj k hk) (fun j hj => ?_) (fun k hk => ?_)
    · unfold twB
      by_cases e1 : j = 1
      · subst e1; rw [if_pos rfl, if_pos rfl, k1 (Ne.symm hj)]
      rw [if_neg e1, if_neg e1]
      by_cases e2 : j = 2
      · subst e2; rw [if_pos rfl, if_pos rfl, (k2 (Ne.symm hj)).1]
      rw [if_neg e2, if_neg e2]
      by_cases e6 : j = 6
      · subst e6; rw [if_pos rfl, if_pos rfl, k6 (Ne.symm hj)]
      rw [if_neg e6, if_neg e6]
      by_cases e7 : j = 7
      · subst e7; rw [if_pos rfl, if_pos rfl, (k7 (Ne.symm hj)).1]
      rw [if_neg e7, if_neg e7]
      by_cases e10 : j = 10
      · subst e10; rw [if_pos rfl, if_pos rfl, k10 (Ne.symm hj)]
      rw [if_neg e10, if_neg e10]
      by_cases e11 : j = 11
      · subst e11; rw [if_pos rfl, if_pos rfl, k11 (Ne.symm hj)]
      rw [if_neg e11, if_neg e11]
    · unfold twB at hk
      split at hk
      · next e => exact Kd.R_base (n1 e) k hk
      split at hk
      · next e => exact Kd.R_base (n2 e).1 k hk
      split at hk
      · next e => exact Kd.R_base (n6 e) k hk
      split at hk
      · next e => exact Kd.R_base (n7 e).1 k hk
      split at hk
      · next e => obtain rfl := Option.some.inj hk; exact (n10 e).2
      split at hk
      · next e => obtain rfl := Option.some.inj hk; exact (n11 e).2
      · cases hk
section
variable {Q : Exit → Act → World → Prop} {w0 : World} {a0 : Act} {xa xb : S24} {t1 t2 : List S24} {gA gB : Nat} {k : Nat}
set_option maxRecDepth 100000
theorem tw_s0 (hA : a0.tmps[4]? = some (.pointer (some ⟨gA, 0, none⟩))) (bA : w0.heap[gA]? = some (.cells #[.string xa.f0, .string xa.f1] 24 (0, 0))) : StepAt Try.prog (opsOf Try.f3 2) Q tolllaw05_PairsTwice.B2 twO (TwJ w0 xa xb t1 t2 a0) 0 := by
  have hu24 := Try.underlying24
  have hu22 := Try.underlying22
  rintro b a w ⟨v1, v2, v6, v7, A1, A2, c1, c2, gx, gy, hI⟩ hb hw hn
  refine ⟨_, tw_o0, fun K hK => ?_⟩
  have HI := am_ hI
  have HK := am_ hK
  have e4 : a.tmps[4]? = some (.pointer (some ⟨gA, 0, none⟩)) := by rw [hI.act, putSel_off (by rfl)]; exact hA
  have hc0 : w.cell? ⟨gA, 0, none⟩ = some (.string xa.f0) := (blk_cell (blk_below bA hI.below) 0).trans rfl
  have hc1 : w.cell? ⟨gA, 1, none⟩ = some (.string xa.f1) := (blk_cell (blk_below bA hI.below) 1).trans rfl
  clear hI hK hw hn bA hA
  refine event_step (v := .agg #[.string xa.f0, .string xa.f1]) (w1 := w) rfl ?_ ?_
  · go_simp
    first | done | rfl
  · exact HK.out.out _ _ (tw_pure HI.out (by decide) (by decide) (by decide) (by decide) (by decide) (by decide) (by decide) (by decide) (by rw [HI.out.act]; exact putSel_upk 0 hb rfl rfl (by rfl)))
theorem tw_s5 (hA : a0.tmps[5]? = some (.pointer (some ⟨gB, 0, none⟩))) (bA : w0.heap[gB]? = some (.cells #[.string xb.f0, .string xb.f1] 24 (0, 0))) : StepAt Try.prog (opsOf Try.f3 2) Q tolllaw05_PairsTwice.B2 twO (TwJ w0 xa xb t1 t2 a0) 5 := by
  have hu24 := Try.underlying24
  have hu22 := Try.underlying22
  rintro b a w ⟨v1, v2, v6, v7, A1, A2, c1, c2, gx, gy, hI⟩ hb hw hn
  refine ⟨_, tw_o5, fun K hK => ?_⟩
  have HI := am_ hI
  have HK := am_ hK
  have e5 : a.tmps[5]? = some (.pointer (some ⟨gB, 0, none⟩)) := by rw [hI.act, putSel_off (by rfl)]; exact hA
  have hc0 : w.cell? ⟨gB, 0, none⟩ = some (.string xb.f0) := (blk_cell (blk_below bA hI.below) 0).trans rfl
  have hc1 : w.cell? ⟨gB, 1, none⟩ = some (.string xb.f1) := (blk_cell (blk_below bA hI.below) 1).trans rfl
  clear hI hK hw hn bA hA
  refine event_step (v := .agg #[.string xb.f0, .string xb.f1]) (w1 := w) rfl ?_ ?_
  · go_simp
    first | done | rfl
  · exact HK.out.out _ _ (tw_pure HI.out (by decide) (by decide) (by decide) (by decide) (by decide) (by decide) (by decide) (by decide) (by rw [HI.out.act]; exact putSel_upk 5 hb rfl rfl (by rfl)))
theorem tw_s3 (hsz : a0.tmps.size = 125) (hn1 : 0 < t1.length) : StepAt Try.prog (opsOf Try.f3 2) Q tolllaw05_PairsTwice.B2 twO (TwJ w0 xa xb t1 t2 a0) 3 := by
  have hu24 := Try.underlying24
  have hu22 := Try.underlying22
  rintro b a w ⟨v1, v2, v6, v7, A1, A2, c1, c2, gx, gy, hI⟩ hb hw hn
  refine ⟨_, tw_o3, fun K hK => ?_⟩
  have HI := am_ hI
  have HK := am_ hK
  have e20 : a.tmps[20]? = some (v2) := (by rw [hI.act]; exact putSel_on (e := (2, 20, v2)) 2 rfl rfl (hw 2 (by decide)) (by rw [hsz]; rfl))
  rw [(hI.r2 (hw 2 (by decide))).2] at e20
  have q1 : (0 < t1.length) = True := eq_true hn1
  have q2 : ((0 : Int) < (t1.length : Int)) = True := eq_true (by omega)
  clear hI hK hw hn hn1
  refine event_step (v := .pointer (some A1)) (w1 := w) rfl ?_ ?_
  · go_simp
    first | done | rfl | (rw [show ((0 : Int)).toNat * 2 = 0 from rfl, Addr.add_zero'])
  · exact HK.out.out _ _ (tw_pure HI.out (by decide) (by decide) (by decide) (by decide) (by decide) (by decide) (by decide) (by decide) (by rw [HI.out.act]; exact putSel_upk 3 hb rfl rfl (by rfl)))
theorem tw_s8 (hsz : a0.tmps.size = 125) (hn1 : 0 < t2.length) : StepAt Try.prog (opsOf Try.f3 2) Q tolllaw05_PairsTwice.B2 twO (TwJ w0 xa xb t1 t2 a0) 8 := by
  have hu24 := Try.underlying24
  have hu22 := Try.underlying22
  rintro b a w ⟨v1, v2, v6, v7, A1, A2, c1, c2, gx, gy, hI⟩ hb hw hn
  refine ⟨_, tw_o8, fun K hK => ?_⟩
  have HI := am_ hI
  have HK := am_ hK
  have e25 : a.tmps[25]? = some (v7) := (by rw [hI.act]; exact putSel_on (e := (7, 25, v7)) 7 rfl rfl (hw 7 (by decide)) (by rw [hsz]; rfl))
  rw [(hI.r7 (hw 7 (by decide))).2] at e25
  have q1 : (0 < t2.length) = True := eq_true hn1
  have q2 : ((0 : Int) < (t2.length : Int)) = True := eq_true (by omega)
  clear hI hK hw hn hn1
  refine event_step (v := .pointer (some A2)) (w1 := w) rfl ?_ ?_
  · go_simp
    first | done | rfl | (rw [show ((0 : Int)).toNat * 2 = 0 from rfl, Addr.add_zero'])
  · exact HK.out.out _ _ (tw_pure HI.out (by decide) (by decide) (by decide) (by decide) (by decide) (by decide) (by decide) (by decide) (by rw [HI.out.act]; exact putSel_upk 8 hb rfl rfl (by rfl)))
theorem tw_s4 (hsz : a0.tmps.size = 125) (hn1 : 0 < t1.length) : StepAt Try.prog (opsOf Try.f3 2) Q tolllaw05_PairsTwice.B2 twO (TwJ w0 xa xb t1 t2 a0) 4 := by
  have hu24 := Try.underlying24
  have hu22 := Try.underlying22
  rintro b a w ⟨v1, v2, v6, v7, A1, A2, c1, c2, gx, gy, hI⟩ hb hw hn
  refine ⟨_, tw_o4, fun K hK => ?_⟩
  have HI := am_ hI
  have HK := am_ hK
  have e21 : a.tmps[21]? = some (.pointer (some A1)) := (by rw [hI.act]; exact putSel_on (e := (3, 21, .pointer (some A1))) 3 rfl rfl (hw 3 (by decide)) (by rw [hsz]; rfl))
  have hr := (hI.r2 (hw 2 (by decide))).1
  rw [(hI.r2 (hw 2 (by decide))).2] at hr
  obtain ⟨hc0, hc1⟩ := tw_cells hr hn1
  clear hI hK hw hn hn1 hr
  refine event_step (v := .agg #[.string (rd_T24 t1 0).f0, .string (rd_T24 t1 0).f1]) (w1 := w) rfl ?_ ?_
  · go_simp
    first | done | rfl
  · exact HK.out.out _ _ (tw_pure HI.out (by decide) (by decide) (by decide) (by decide) (by decide) (by decide) (by decide) (by decide) (by rw [HI.out.act]; exact putSel_upk 4 hb rfl rfl (by rfl)))
theorem tw_s9 (hsz : a0.tmps.size = 125) (hn1 : 0 < t2.length) : StepAt Try.prog (opsOf Try.f3 2) Q tolllaw05_PairsTwice.B2 twO (TwJ w0 xa xb t1 t2 a0) 9 := by
  have hu24 := Try.underlying24
  have hu22 := Try.underlying22
  rintro b a w ⟨v1, v2, v6, v7, A1, A2, c1, c2, gx, gy, hI⟩ hb hw hn
  refine ⟨_, tw_o9, fun K hK => ?_⟩
  have HI := am_ hI
  have HK := am_ hK
  have e26 : a.tmps[26]? = some (.pointer (some A2)) := (by rw [hI.act]; exact putSel_on (e := (8, 26, .pointer (some A2))) 8 rfl rfl (hw 8 (by decide)) (by rw [hsz]; rfl))
  have hr := (hI.r7 (hw 7 (by decide))).1
  rw [(hI.r7 (hw 7 (by decide))).2] at hr
  obtain ⟨hc0, hc1⟩ := tw_cells hr hn1
  clear hI hK hw hn hn1 hr
  refine event_step (v := .agg #[.string (rd_T24 t2 0).f0, .string (rd_T24 t2 0).f1]) (w1 := w) rfl ?_ ?_
  · go_simp
    first | done | rfl
  · exact HK.out.out _ _ (tw_pure HI.out (by decide) (by decide) (by decide) (by decide) (by decide) (by decide) (by decide) (by decide) (by rw [HI.out.act]; exact putSel_upk 9 hb rfl rfl (by rfl)))
theorem tw_s1 (hsz : a0.tmps.size = 125) : StepAt Try.prog (opsOf Try.f3 2) Q tolllaw05_PairsTwice.B2 twO (TwJ w0 xa xb t1 t2 a0) 1 := by
  have hu24 := Try.underlying24
  have hu22 := Try.underlying22
  rintro b a w ⟨v1, v2, v6, v7, A1, A2, c1, c2, gx, gy, hI⟩ hb hw hn
  refine ⟨_, tw_o1, fun K hK => ?_⟩
  have HI := am_ hI
  have HK := am_ hK
  have e18 : a.tmps[18]? = some (.agg #[.string xa.f0, .string xa.f1]) := (by rw [hI.act]; exact putSel_on (e := (0, 18, .agg #[.string xa.f0, .string xa.f1])) 0 rfl rfl (hw 0 (by decide)) (by rw [hsz]; rfl))
  have h12 := hn 12 (by decide)
  have h13 := hn 13 (by decide)
  clear hI hK hw hn
  refine Kd.R_lit_step k24 w.heap.size 24 (w0 := w) rfl (N := 19) rfl (xs := [xa]) (inner := [.string xa.f0, .string xa.f1]) (ok := fun _ => True) (okp := fun _ => True) ?hr ?hp (fun _ hk => hk) trivial (Below.refl _ _) (Nat.le_refl _) (by simp) ?_
  case hr => go_simp; first | done | rfl
  case hp => exact Reps.c2 (show Kd.M k24 _ _ _ xa [.string xa.f0, .string xa.f1] from k24_mkM _ _ _ xa) (Reps.none _ _)
  intro v_ w1 ho hB _ _
  exact HK.out.out _ _ (tw_event HI.out hB v_ v2 v6 v7 A1 A2 c1 c2 gx gy (fun e => absurd rfl e) (fun _ => ⟨rfl, rfl, rfl⟩) (fun _ => rfl) (fun _ => ⟨rfl, rfl, rfl⟩) (fun _ => rfl) (fun _ => rfl) (fun _ => ho) (fun e => absurd e (by decide)) (fun e => absurd e (by decide)) (fun e => absurd e (by decide)) (fun e => absurd e (by decide)) (fun e => absurd e (by decide)) h12 h13 (by decide) (by decide) (by rw [HI.out.act]; exact putSel_upk 1 hb rfl rfl (by rfl)))
theorem tw_s6 (hsz : a0.tmps.size = 125) : StepAt Try.prog (opsOf Try.f3 2) Q tolllaw05_PairsTwice.B2 twO (TwJ w0 xa xb t1 t2 a0) 6 := by
  have hu24 := Try.underlying24
  have hu22 := Try.underlying22
  rintro b a w ⟨v1, v2, v6, v7, A1, A2, c1, c2, gx, gy, hI⟩ hb hw hn
  refine ⟨_, tw_o6, fun K hK => ?_⟩
  have HI := am_ hI
  have HK := am_ hK
  have e23 : a.tmps[23]? = some (.agg #[.string xb.f0, .string xb.f1]) := (by rw [hI.act]; exact putSel_on (e := (5, 23, .agg #[.string xb.f0, .string xb.f1])) 5 rfl rfl (hw 5 (by decide)) (by rw [hsz]; rfl))
  have h12 := hn 12 (by decide)
  have h13 := hn 13 (by decide)
  clear hI hK hw hn
  refine Kd.R_lit_step k24 w.heap.size 24 (w0 := w) rfl (N := 24) rfl (xs := [xb]) (inner := [.string xb.f0, .string xb.f1]) (ok := fun _ => True) (okp := fun _ => True) ?hr ?hp (fun _ hk => hk) trivial (Below.refl _ _) (Nat.le_refl _) (by simp) ?_
  case hr => go_simp; first | done | rfl
  case hp => exact Reps.c2 (show Kd.M k24 _ _ _ xb [.string xb.f0, .string xb.f1] from k24_mkM _ _ _ xb) (Reps.none _ _)
  intro v_ w1 ho hB _ _
  exact HK.out.out _ _ (tw_event HI.out hB v1 v2 v_ v7 A1 A2 c1 c2 gx gy (fun _ => rfl) (fun _ => ⟨rfl, rfl, rfl⟩) (fun e => absurd rfl e) (fun _ => ⟨rfl, rfl, rfl⟩) (fun _ => rfl) (fun _ => rfl) (fun e => absurd e (by decide)) (fun e => absurd e (by decide)) (fun _ => ho) (fun e => absurd e (by decide)) (fun e => absurd e (by decide)) (fun e => absurd e (by decide)) h12 h13 (by decide) (by decide) (by rw [HI.out.act]; exact putSel_upk 6 hb rfl rfl (by rfl)))
theorem tw_s2 (hsz : a0.tmps.size = 125) (hf : tolllaw05_Few.f k [xa] = some t1) (hn1 : 0 < t1.length) : StepAt Try.prog (opsOf Try.f3 2) Q tolllaw05_PairsTwice.B2 twO (TwJ w0 xa xb t1 t2 a0) 2 := by
  have hu24 := Try.underlying24
  have hu22 := Try.underlying22
  rintro b a w ⟨v1, v2, v6, v7, A1, A2, c1, c2, gx, gy, hI⟩ hb hw hn
  refine ⟨_, tw_o2, fun K hK => ?_⟩
  have HI := am_ hI
  have HK := am_ hK
  have e19 : a.tmps[19]? = some v1 := (by rw [hI.act]; exact putSel_on (e := (1, 19, v1)) 1 rfl rfl (hw 1 (by decide)) (by rw [hsz]; rfl))
  have hr := hI.r1 (hw 1 (by decide))
  obtain ⟨A, c, ev⟩ := Kd.R_slice hr
  rw [ev] at e19 hr
  have h12 := hn 12 (by decide)
  have h13 := hn 13 (by decide)
  have hu : up b 2 3 = false := by rw [up_ne (by decide)]; exact hn 3 (by decide)
  have HR := am_ (Kd.R_reads' hr)
  clear hI hK hw hn hr ev
  refine goes_ Try.func4 (by kernel_rfl) rfl #[.slice A [xa].length c] rfl rfl rfl (by simp [Act.eval, e19]) ?_
  refine (tolllaw05_Few.calls k A c [xa] t1 _ HR.out.2.2 HR.out.2.1 hf).mono ?_
  rintro e w1 ⟨v_, rfl, ho, hB⟩
  refine ⟨v_, rfl, ?_⟩
  obtain ⟨ad, c_, ev⟩ := Kd.R_slice1 ho hn1
  subst ev
  exact HK.out.out _ _ (tw_event HI.out hB v1 (.slice (some ad) t1.length c_) v6 v7 ad A2 c_ c2 gx gy (fun _ => rfl) (fun e => absurd rfl e) (fun _ => rfl) (fun _ => ⟨rfl, rfl, rfl⟩) (fun _ => rfl) (fun _ => rfl) (fun e => absurd e (by decide)) (fun _ => ⟨ho, rfl⟩) (fun e => absurd e (by decide)) (fun e => absurd e (by decide)) (fun e => absurd e (by decide)) (fun e => absurd e (by decide)) h12 h13 (by decide) (by decide) (by rw [HI.out.act]; exact (putSel_upk 2 hb rfl rfl (by rfl)).trans (by simp only [twL, List.set_cons_succ, List.set_cons_zero, putSel, hu, Bool.false_eq_true, if_false])))
theorem tw_s7 (hsz : a0.tmps.size = 125) (hf : tolllaw05_Few.f k [xb] = some t2) (hn1 : 0 < t2.length) : StepAt Try.prog (opsOf Try.f3 2) Q tolllaw05_PairsTwice.B2 twO (TwJ w0 xa xb t1 t2 a0) 7 := by
  have hu24 := Try.underlying24
  have hu22 := Try.underlying22
  rintro b a w ⟨v1, v2, v6, v7, A1, A2, c1, c2, gx, gy, hI⟩ hb hw hn
  refine ⟨_, tw_o7, fun K hK => ?_⟩
  have HI := am_ hI
  have HK := am_ hK
  have e24 : a.tmps[24]? = some v6 := (by rw [hI.act]; exact putSel_on (e := (6, 24, v6)) 6 rfl rfl (hw 6 (by decide)) (by rw [hsz]; rfl))
  have hr := hI.r6 (hw 6 (by decide))
  obtain ⟨A, c, ev⟩ := Kd.R_slice hr
  rw [ev] at e24 hr
  have h12 := hn 12 (by decide)
  have h13 := hn 13 (by decide)
  have hu : up b 7 8 = false := by rw [up_ne (by decide)]; exact hn 8 (by decide)
  have HR := am_ (Kd.R_reads' hr)
  clear hI hK hw hn hr ev
  refine goes_ Try.func4 (by kernel_rfl) rfl #[.slice A [xb].length c] rfl rfl rfl (by simp [Act.eval, e24]) ?_
  refine (tolllaw05_Few.calls k A c [xb] t2 _ HR.out.2.2 HR.out.2.1 hf).mono ?_
  rintro e w1 ⟨v_, rfl, ho, hB⟩
  refine ⟨v_, rfl, ?_⟩
  obtain ⟨ad, c_, ev⟩ := Kd.R_slice1 ho hn1
  subst ev
  exact HK.out.out _ _ (tw_event HI.out hB v1 v2 v6 (.slice (some ad) t2.length c_) A1 ad c1 c_ gx gy (fun _ => rfl) (fun _ => ⟨rfl, rfl, rfl⟩) (fun _ => rfl) (fun e => absurd rfl e) (fun _ => rfl) (fun _ => rfl) (fun e => absurd e (by decide)) (fun e => absurd e (by decide)) (fun e => absurd e (by decide)) (fun _ => ⟨ho, rfl⟩) (fun e => absurd e (by decide)) (fun e => absurd e (by decide)) h12 h13 (by decide) (by decide) (by rw [HI.out.act]; exact (putSel_upk 7 hb rfl rfl (by rfl)).trans (by simp only [twL, List.set_cons_succ, List.set_cons_zero, putSel, hu, Bool.false_eq_true, if_false])))
theorem tw_s10 : StepAt Try.prog (opsOf Try.f3 2) Q tolllaw05_PairsTwice.B2 twO (TwJ w0 xa xb t1 t2 a0) 10 := by
  have hu24 := Try.underlying24
  have hu22 := Try.underlying22
  rintro b a w ⟨v1, v2, v6, v7, A1, A2, c1, c2, gx, gy, hI⟩ hb hw hn
  refine ⟨_, tw_o10, fun K hK => ?_⟩
  have HI := am_ hI
  have HK := am_ hK
  have h12 := hn 12 (by decide)
  have h13 := hn 13 (by decide)
  clear hI hK hw hn
  refine box_step rfl (N := 7) rfl (cs := #[.string (⟨#[]⟩ : ByteArray), .string (⟨#[]⟩ : ByteArray)]) (t := 24) ?hr ?_
  case hr => first | (go_simp; done) | (go_simp; rfl)
  intro g hg w1 hbox hB
  exact HK.out.out _ _ (tw_event HI.out hB v1 v2 v6 v7 A1 A2 c1 c2 g gy (fun _ => rfl) (fun _ => ⟨rfl, rfl, rfl⟩) (fun _ => rfl) (fun _ => ⟨rfl, rfl, rfl⟩) (fun e => absurd rfl e) (fun _ => rfl) (fun e => absurd e (by decide)) (fun e => absurd e (by decide)) (fun e => absurd e (by decide)) (fun e => absurd e (by decide)) (fun _ => ⟨hbox, Nat.le_of_eq hg.symm⟩) (fun e => absurd e (by decide)) h12 h13 (by decide) (by decide) (by rw [HI.out.act]; exact putSel_upk 10 hb rfl rfl (by rfl)))
theorem tw_s11 : StepAt Try.prog (opsOf Try.f3 2) Q tolllaw05_PairsTwice.B2 twO (TwJ w0 xa xb t1 t2 a0) 11 := by
  have hu24 := Try.underlying24
  have hu22 := Try.underlying22
  rintro b a w ⟨v1, v2, v6, v7, A1, A2, c1, c2, gx, gy, hI⟩ hb hw hn
  refine ⟨_, tw_o11, fun K hK => ?_⟩
  have HI := am_ hI
  have HK := am_ hK
  have h12 := hn 12 (by decide)
  have h13 := hn 13 (by decide)
  clear hI hK hw hn
  refine box_step rfl (N := 8) rfl (cs := #[.string (⟨#[]⟩ : ByteArray), .string (⟨#[]⟩ : ByteArray)]) (t := 24) ?hr ?_
  case hr => first | (go_simp; done) | (go_simp; rfl)
  intro g hg w1 hbox hB
  exact HK.out.out _ _ (tw_event HI.out hB v1 v2 v6 v7 A1 A2 c1 c2 gx g (fun _ => rfl) (fun _ => ⟨rfl, rfl, rfl⟩) (fun _ => rfl) (fun _ => ⟨rfl, rfl, rfl⟩) (fun _ => rfl) (fun e => absurd rfl e) (fun e => absurd e (by decide)) (fun e => absurd e (by decide)) (fun e => absurd e (by decide)) (fun e => absurd e (by decide)) (fun e => absurd e (by decide)) (fun _ => ⟨hbox, Nat.le_of_eq hg.symm⟩) h12 h13 (by decide) (by decide) (by rw [HI.out.act]; exact putSel_upk 11 hb rfl rfl (by rfl)))
theorem tw_s12 (hsz : a0.tmps.size = 125) (hg : w0.heap.size ≤ w0.heap.size) : StepAt Try.prog (opsOf Try.f3 2) Q tolllaw05_PairsTwice.B2 twO (TwJ w0 xa xb t1 t2 a0) 12 := by
  have hu24 := Try.underlying24
  have hu22 := Try.underlying22
  rintro b a w ⟨v1, v2, v6, v7, A1, A2, c1, c2, gx, gy, hI⟩ hb hw hn
  refine ⟨_, tw_o12, fun K hK => ?_⟩
  have HI := am_ hI
  have HK := am_ hK
  have e7 : a.tmps[7]? = some (.pointer (some ⟨gx, 0, none⟩)) := (by rw [hI.act]; exact putSel_on (e := (10, 7, .pointer (some ⟨gx, 0, none⟩))) 10 rfl rfl (hw 10 (by decide)) (by rw [hsz]; rfl))
  have e22 : a.tmps[22]? = some (.agg #[.string (rd_T24 t1 0).f0, .string (rd_T24 t1 0).f1]) := (by rw [hI.act]; exact putSel_on (e := (4, 22, .agg #[.string (rd_T24 t1 0).f0, .string (rd_T24 t1 0).f1])) 4 rfl rfl (hw 4 (by decide)) (by rw [hsz]; rfl))
  have hx := hI.bx (hw 10 (by decide))
  rw [hb, if_neg (by decide)] at hx
  have hc0 : w.cell? ⟨gx, 0, none⟩ = some (.string (⟨#[]⟩ : ByteArray)) := (blk_cell hx.1 0).trans rfl
  have hc1 : w.cell? ⟨gx, 1, none⟩ = some (.string (⟨#[]⟩ : ByteArray)) := (blk_cell hx.1 1).trans rfl
  have hf0 := blk_frozen hx.1 0
  have hf1 := blk_frozen hx.1 1
  have hB := am_ hb
  have HW := am_ hw
  have HX := am_ hx
  clear hI hK hw hn hx hb
  refine skip_ (w1 := ((w.setCell ⟨gx, 0, none⟩ (.string (rd_T24 t1 0).f0)).setCell ⟨gx, 1, none⟩ (.string (rd_T24 t1 0).f1))) rfl rfl ?_ ?_
  · go_simp
    first | done | rfl
  · have hI := HI.out
    have hw := HW.out
    obtain ⟨p1, p2⟩ := two_put HX.out.1 (.string (rd_T24 t1 0).f0) (.string (rd_T24 t1 0).f1)
    have far : ∀ j, j ≠ 10 → b j = true → twB v1 v2 v6 v7 gx gy j = none ∨ twB v1 v2 v6 v7 gx gy j ≠ some gx := fun j hj hbj => hI.ap j 10 hj hbj (hw 10 (by decide))
    refine HK.out.out _ _ ⟨v1, v2, v6, v7, A1, A2, c1, c2, gx, gy, ?_, (hI.below.setCell (p := ⟨gx, 0, none⟩) HX.out.2 _).setCell (p := ⟨gx, 1, none⟩) HX.out.2 _, fun h => twR_set (hI.r1 (by rwa [up_ne (by decide)] at h)) (far 1 (by decide) (by rwa [up_ne (by decide)] at h)) p2, fun h => ⟨twR_set (hI.r2 (by rwa [up_ne (by decide)] at h)).1 (far 2 (by decide) (by rwa [up_ne (by decide)] at h)) p2, (hI.r2 (by rwa [up_ne (by decide)] at h)).2⟩, fun h => twR_set (hI.r6 (by rwa [up_ne (by decide)] at h)) (far 6 (by decide) (by rwa [up_ne (by decide)] at h)) p2, fun h => ⟨twR_set (hI.r7 (by rwa [up_ne (by decide)] at h)).1 (far 7 (by decide) (by rwa [up_ne (by decide)] at h)) p2, (hI.r7 (by rwa [up_ne (by decide)] at h)).2⟩, ?_, ?_, tw_ap0 hI.ap (by rfl)⟩
    · rw [hI.act]; exact (putSel_same (by rfl)).symm
    · intro _
      rw [up_self, if_pos rfl]
      exact ⟨p1, HX.out.2⟩
    · intro h
      rw [up_ne (by decide)] at h
      rw [up_ne (show 13 ≠ 12 by decide)]
      have ho := hI.by' h
      refine ⟨(p2 _ ?_).trans ho.1, ho.2⟩
      rcases far 11 (by decide) h with e | e
      · exact absurd e (by simp [twB])
      · exact fun e2 => e (by simp [twB, e2])
theorem tw_s13 (hsz : a0.tmps.size = 125) (hg : w0.heap.size ≤ w0.heap.size) : StepAt Try.prog (opsOf Try.f3 2) Q tolllaw05_PairsTwice.B2 twO (TwJ w0 xa xb t1 t2 a0) 13 := by
  have hu24 := Try.underlying24
  have hu22 := Try.underlying22
  rintro b a w ⟨v1, v2, v6, v7, A1, A2, c1, c2, gx, gy, hI⟩ hb hw hn
  refine ⟨_, tw_o13, fun K hK => ?_⟩
  have HI := am_ hI
  have HK := am_ hK
  have e8 : a.tmps[8]? = some (.pointer (some ⟨gy, 0, none⟩)) := (by rw [hI.act]; exact putSel_on (e := (11, 8, .pointer (some ⟨gy, 0, none⟩))) 11 rfl rfl (hw 11 (by decide)) (by rw [hsz]; rfl))
  have e27 : a.tmps[27]? = some (.agg #[.string (rd_T24 t2 0).f0, .string (rd_T24 t2 0).f1]) := (by rw [hI.act]; exact putSel_on (e := (9, 27, .agg #[.string (rd_T24 t2 0).f0, .string (rd_T24 t2 0).f1])) 9 rfl rfl (hw 9 (by decide)) (by rw [hsz]; rfl))
  have hx := hI.by' (hw 11 (by decide))
  rw [hb, if_neg (by decide)] at hx
  have hc0 : w.cell? ⟨gy, 0, none⟩ = some (.string (⟨#[]⟩ : ByteArray)) := (blk_cell hx.1 0).trans rfl
  have hc1 : w.cell? ⟨gy, 1, none⟩ = some (.string (⟨#[]⟩ : ByteArray)) := (blk_cell hx.1 1).trans rfl
  have hf0 := blk_frozen hx.1 0
  have hf1 := blk_frozen hx.1 1
  have hB := am_ hb
  have HW := am_ hw
  have HX := am_ hx
  clear hI hK hw hn hx hb
  refine skip_ (w1 := ((w.setCell ⟨gy, 0, none⟩ (.string (rd_T24 t2 0).f0)).setCell ⟨gy, 1, none⟩ (.string (rd_T24 t2 0).f1))) rfl rfl ?_ ?_
  · go_simp
    first | done | rfl
  · have hI := HI.out
    have hw := HW.out
    obtain ⟨p1, p2⟩ := two_put HX.out.1 (.string (rd_T24 t2 0).f0) (.string (rd_T24 t2 0).f1)
    have far : ∀ j, j ≠ 11 → b j = true → twB v1 v2 v6 v7 gx gy j = none ∨ twB v1 v2 v6 v7 gx gy j ≠ some gy := fun j hj hbj => hI.ap j 11 hj hbj (hw 11 (by decide))
    refine HK.out.out _ _ ⟨v1, v2, v6, v7, A1, A2, c1, c2, gx, gy, ?_, (hI.below.setCell (p := ⟨gy, 0, none⟩) HX.out.2 _).setCell (p := ⟨gy, 1, none⟩) HX.out.2 _, fun h => twR_set (hI.r1 (by rwa [up_ne (by decide)] at h)) (far 1 (by decide) (by rwa [up_ne (by decide)] at h)) p2, fun h => ⟨twR_set (hI.r2 (by rwa [up_ne (by decide)] at h)).1 (far 2 (by decide) (by rwa [up_ne (by decide)] at h)) p2, (hI.r2 (by rwa [up_ne (by decide)] at h)).2⟩, fun h => twR_set (hI.r6 (by rwa [up_ne (by decide)] at h)) (far 6 (by decide) (by rwa [up_ne (by decide)] at h)) p2, fun h => ⟨twR_set (hI.r7 (by rwa [up_ne (by decide)] at h)).1 (far 7 (by decide) (by rwa [up_ne (by decide)] at h)) p2, (hI.r7 (by rwa [up_ne (by decide)] at h)).2⟩, ?_, ?_, tw_ap0 hI.ap (by rfl)⟩
    · rw [hI.act]; exact (putSel_same (by rfl)).symm
    · intro h
      rw [up_ne (by decide)] at h
      rw [up_ne (show 12 ≠ 13 by decide)]
      have ho := hI.bx h
      refine ⟨(p2 _ ?_).trans ho.1, ho.2⟩
      rcases far 10 (by decide) h with e | e
      · exact absurd e (by simp [twB])
      · exact fun e2 => e (by simp [twB, e2])
    · intro _
      rw [up_self, if_pos rfl]
      exact ⟨p1, HX.out.2⟩
end
theorem tw_ok {w : World} {base : Nat} {v : Value} {xs : List S24} {ok ok' : Nat → Prop} (h : Kd.R k24 24 w base ok v xs) (hok : ∀ k, v.ownBlock = some k → ok' k) : Kd.R k24 24 w base ok' v xs := Kd.R_flat (fun h => h) h (fun k hk _ => hok k hk)
theorem tw_ne {u v : Option Nat} {k : Nat} (h : u = none ∨ u ≠ v) (hk : u = some k) : some k ≠ v := by
  rcases h with h | h
  · rw [h] at hk; cases hk
  · rw [← hk]; exact h
set_option maxRecDepth 100000 in
theorem tw_region {Q : Exit → Act → World → Prop} {w w0 : World} {a0 : Act} {xa xb : S24} {t0 t1 t2 : List S24} {gA gB k : Nat} {v0 : Value} {ok0 : Nat → Prop} (hsz : a0.tmps.size = 125)
    (hA : a0.tmps[4]? = some (.pointer (some ⟨gA, 0, none⟩))) (hA' : a0.tmps[5]? = some (.pointer (some ⟨gB, 0, none⟩)))
    (bA : w0.heap[gA]? = some (.cells #[.string xa.f0, .string xa.f1] 24 (0, 0))) (bB : w0.heap[gB]? = some (.cells #[.string xb.f0, .string xb.f1] 24 (0, 0)))
    (h1 : tolllaw05_Few.f k [xa] = some t1) (h2 : tolllaw05_Few.f k [xb] = some t2) (n1 : 0 < t1.length) (n2 : 0 < t2.length)
    (r0 : Kd.R k24 24 w0 w.heap.size ok0 v0 t0) (hok : ∀ k, ok0 k → k ≠ gA ∧ k ≠ gB) (hB : Below w.heap.size w w0)
    (hend : ∀ (w' : World) (v1 v6 : Value) (A1 A2 : Addr) (c1 c2 gx gy : Nat),
      Kd.R k24 24 w' w.heap.size (fun k_ => some k_ ≠ (v1 : Value).ownBlock ∧ some k_ ≠ (.slice (some A1) t1.length c1 : Value).ownBlock ∧ some k_ ≠ (v6 : Value).ownBlock ∧ some k_ ≠ (.slice (some A2) t2.length c2 : Value).ownBlock ∧ k_ ≠ gA ∧ k_ ≠ gB ∧ k_ ≠ gx ∧ k_ ≠ gy) v0 t0 →
      Kd.R k24 24 w' w.heap.size (fun k_ => some k_ ≠ (v0 : Value).ownBlock ∧ some k_ ≠ (.slice (some A1) t1.length c1 : Value).ownBlock ∧ some k_ ≠ (v6 : Value).ownBlock ∧ some k_ ≠ (.slice (some A2) t2.length c2 : Value).ownBlock ∧ k_ ≠ gA ∧ k_ ≠ gB ∧ k_ ≠ gx ∧ k_ ≠ gy) v1 [xa] →
      Kd.R k24 24 w' w.heap.size (fun k_ => some k_ ≠ (v0 : Value).ownBlock ∧ some k_ ≠ (v1 : Value).ownBlock ∧ some k_ ≠ (v6 : Value).ownBlock ∧ some k_ ≠ (.slice (some A2) t2.length c2 : Value).ownBlock ∧ k_ ≠ gA ∧ k_ ≠ gB ∧ k_ ≠ gx ∧ k_ ≠ gy) (.slice (some A1) t1.length c1) t1 →
      Kd.R k24 24 w' w.heap.size (fun k_ => some k_ ≠ (v0 : Value).ownBlock ∧ some k_ ≠ (v1 : Value).ownBlock ∧ some k_ ≠ (.slice (some A1) t1.length c1 : Value).ownBlock ∧ some k_ ≠ (.slice (some A2) t2.length c2 : Value).ownBlock ∧ k_ ≠ gA ∧ k_ ≠ gB ∧ k_ ≠ gx ∧ k_ ≠ gy) v6 [xb] →
      Kd.R k24 24 w' w.heap.size (fun k_ => some k_ ≠ (v0 : Value).ownBlock ∧ some k_ ≠ (v1 : Value).ownBlock ∧ some k_ ≠ (.slice (some A1) t1.length c1 : Value).ownBlock ∧ some k_ ≠ (v6 : Value).ownBlock ∧ k_ ≠ gA ∧ k_ ≠ gB ∧ k_ ≠ gx ∧ k_ ≠ gy) (.slice (some A2) t2.length c2) t2 →
      w'.heap[gA]? = some (.cells #[.string xa.f0, .string xa.f1] 24 (0, 0)) → w'.heap[gB]? = some (.cells #[.string xb.f0, .string xb.f1] 24 (0, 0)) →
      w'.heap[gx]? = some (.cells #[.string (rd_T24 t1 0).f0, .string (rd_T24 t1 0).f1] 24 (0, 0)) → w'.heap[gy]? = some (.cells #[.string (rd_T24 t2 0).f0, .string (rd_T24 t2 0).f1] 24 (0, 0)) →
      w.heap.size ≤ gx → w.heap.size ≤ gy → gA ≠ gx → gB ≠ gx → gA ≠ gy → gB ≠ gy → gx ≠ gy → Below w.heap.size w w' →
      Q .normal ((((((((((((a0.put (some 18) (.agg #[.string xa.f0, .string xa.f1])).put (some 19) v1).put (some 20) (.slice (some A1) t1.length c1)).put (some 21) (.pointer (some A1))).put (some 22) (.agg #[.string (rd_T24 t1 0).f0, .string (rd_T24 t1 0).f1])).put (some 23) (.agg #[.string xb.f0, .string xb.f1])).put (some 24) v6).put (some 25) (.slice (some A2) t2.length c2)).put (some 26) (.pointer (some A2))).put (some 27) (.agg #[.string (rd_T24 t2 0).f0, .string (rd_T24 t2 0).f1])).put (some 7) (.pointer (some ⟨gx, 0, none⟩))).put (some 8) (.pointer (some ⟨gy, 0, none⟩))) w') :
    wpAnyLast Try.prog .any (opsOf Try.f3 2) Q (fun _ => True) [] 14 #[false, false, false, false, false, false, false, false, false, false, false, false, false, false] a0 w0 := by
  refine inv_at (T := tolllaw05_PairsTwice.T2) (B := tolllaw05_PairsTwice.B2) twO (TwJ w0 xa xb t1 t2) tolllaw05_PairsTwice.tab2 tolllaw05_PairsTwice.bits2 (by kernel_rfl) (by kernel_rfl) ?_ ?_ ?_
  · exact ⟨.bool false, .bool false, .bool false, .bool false, ⟨0, 0, none⟩, ⟨0, 0, none⟩, 0, 0, 0, 0, rfl, Below.refl _ _, fun h => absurd h Bool.false_ne_true, fun h => absurd h Bool.false_ne_true, fun h => absurd h Bool.false_ne_true, fun h => absurd h Bool.false_ne_true, fun h => absurd h Bool.false_ne_true, fun h => absurd h Bool.false_ne_true, fun _ _ _ h => absurd h Bool.false_ne_true⟩
  · exact steps_cons (tw_s0 hA bA) (steps_cons (tw_s1 hsz) (steps_cons (tw_s2 hsz h1 n1) (steps_cons (tw_s3 hsz n1) (steps_cons (tw_s4 hsz n1) (steps_cons (tw_s5 hA' bB) (steps_cons (tw_s6 hsz) (steps_cons (tw_s7 hsz h2 n2) (steps_cons (tw_s8 hsz n2) (steps_cons (tw_s9 hsz n2) (steps_cons tw_s10 (steps_cons tw_s11 (steps_cons (tw_s12 hsz (Nat.le_refl _)) (steps_cons (tw_s13 hsz (Nat.le_refl _)) steps_nil)))))))))))))
  · rintro b a w' hb ⟨v1, v2, v6, v7, A1, A2, c1, c2, gx, gy, hI⟩
    have b0 : b 0 = true := hb 0 rfl
    have b1 : b 1 = true := hb 1 rfl
    have b2 : b 2 = true := hb 2 rfl
    have b3 : b 3 = true := hb 3 rfl
    have b4 : b 4 = true := hb 4 rfl
    have b5 : b 5 = true := hb 5 rfl
    have b6 : b 6 = true := hb 6 rfl
    have b7 : b 7 = true := hb 7 rfl
    have b8 : b 8 = true := hb 8 rfl
    have b9 : b 9 = true := hb 9 rfl
    have b10 : b 10 = true := hb 10 rfl
    have b11 : b 11 = true := hb 11 rfl
    have b12 : b 12 = true := hb 12 rfl
    have b13 : b 13 = true := hb 13 rfl
    have hs := hB.size
    have R1 := hI.r1 b1
    have R6 := hI.r6 b6
    obtain ⟨R2, e2⟩ := hI.r2 b2
    obtain ⟨R7, e7⟩ := hI.r7 b7
    have X := hI.bx b10
    have Y := hI.by' b11
    rw [if_pos b12] at X
    rw [if_pos b13] at Y
    have hact := hI.act
    have hbel := hI.below
    have gAl := blk_lt bA
    have gBl := blk_lt bB
    have r0l := Kd.R_lt r0
    have P := hI.ap
    have p12 : v1.ownBlock = none ∨ v1.ownBlock ≠ v2.ownBlock := P 1 2 (by decide) b1 b2
    have p16 : v1.ownBlock = none ∨ v1.ownBlock ≠ v6.ownBlock := P 1 6 (by decide) b1 b6
    have p17 : v1.ownBlock = none ∨ v1.ownBlock ≠ v7.ownBlock := P 1 7 (by decide) b1 b7
    have p1x : v1.ownBlock = none ∨ v1.ownBlock ≠ some gx := P 1 10 (by decide) b1 b10
    have p1y : v1.ownBlock = none ∨ v1.ownBlock ≠ some gy := P 1 11 (by decide) b1 b11
    have p21 : v2.ownBlock = none ∨ v2.ownBlock ≠ v1.ownBlock := P 2 1 (by decide) b2 b1
    have p26 : v2.ownBlock = none ∨ v2.ownBlock ≠ v6.ownBlock := P 2 6 (by decide) b2 b6
    have p27 : v2.ownBlock = none ∨ v2.ownBlock ≠ v7.ownBlock := P 2 7 (by decide) b2 b7
    have p2x : v2.ownBlock = none ∨ v2.ownBlock ≠ some gx := P 2 10 (by decide) b2 b10
    have p2y : v2.ownBlock = none ∨ v2.ownBlock ≠ some gy := P 2 11 (by decide) b2 b11
    have p61 : v6.ownBlock = none ∨ v6.ownBlock ≠ v1.ownBlock := P 6 1 (by decide) b6 b1
    have p62 : v6.ownBlock = none ∨ v6.ownBlock ≠ v2.ownBlock := P 6 2 (by decide) b6 b2
    have p67 : v6.ownBlock = none ∨ v6.ownBlock ≠ v7.ownBlock := P 6 7 (by decide) b6 b7
    have p6x : v6.ownBlock = none ∨ v6.ownBlock ≠ some gx := P 6 10 (by decide) b6 b10
    have p6y : v6.ownBlock = none ∨ v6.ownBlock ≠ some gy := P 6 11 (by decide) b6 b11
    have p71 : v7.ownBlock = none ∨ v7.ownBlock ≠ v1.ownBlock := P 7 1 (by decide) b7 b1
    have p72 : v7.ownBlock = none ∨ v7.ownBlock ≠ v2.ownBlock := P 7 2 (by decide) b7 b2
    have p76 : v7.ownBlock = none ∨ v7.ownBlock ≠ v6.ownBlock := P 7 6 (by decide) b7 b6
    have p7x : v7.ownBlock = none ∨ v7.ownBlock ≠ some gx := P 7 10 (by decide) b7 b10
    have p7y : v7.ownBlock = none ∨ v7.ownBlock ≠ some gy := P 7 11 (by decide) b7 b11
    have pxy : some gx = none ∨ some gx ≠ some gy := P 10 11 (by decide) b10 b11
    have hxy : gx ≠ gy := by rcases pxy with h | h; (cases h); exact fun e => h (by rw [e])
    have old : ∀ {v : Value} {xs : List S24} {k}, Kd.R k24 24 w' w0.heap.size (fun _ => True) v xs → v.ownBlock = some k → some k ≠ v0.ownBlock ∧ k ≠ gA ∧ k ≠ gB := fun hr hk => ⟨fun e => by have := Kd.R_base hr _ hk; have := r0l _ e.symm; omega, fun e => by have := Kd.R_base hr _ hk; omega, fun e => by have := Kd.R_base hr _ hk; omega⟩
    have fresh : ∀ {v : Value} {xs : List S24} {k}, Kd.R k24 24 w' w0.heap.size (fun _ => True) v xs → v0.ownBlock = some k → some k ≠ v.ownBlock := fun hr hk e => by have := Kd.R_base hr _ e.symm; have := r0l _ hk; omega
    have nx : ∀ {v : Value} {k g : Nat}, (v.ownBlock = none ∨ v.ownBlock ≠ some g) → v.ownBlock = some k → k ≠ g := fun h hk e => tw_ne h hk (by rw [e])
    have hstep := below_step hB hbel
    have gax : gA ≠ gx := by have := X.2; omega
    have gbx : gB ≠ gx := by have := X.2; omega
    have gay : gA ≠ gy := by have := Y.2; omega
    have gby : gB ≠ gy := by have := Y.2; omega
    have hx0 : ∀ k, v0.ownBlock = some k → k ≠ gx ∧ k ≠ gy := fun k hk => by have := r0l _ hk; have := X.2; have := Y.2; omega
    subst e2 e7
    have hfin := hend w' v1 v6 A1 A2 c1 c2 gx gy
      (tw_ok (Kd.R_below r0 hbel) fun k hk => ⟨fresh R1 hk, fresh R2 hk, fresh R6 hk, fresh R7 hk, (hok k (r0.1 k hk)).1, (hok k (r0.1 k hk)).2, (hx0 k hk).1, (hx0 k hk).2⟩)
      (tw_ok (Kd.R_lower R1 hs) fun k hk => ⟨(old R1 hk).1, tw_ne p12 hk, tw_ne p16 hk, tw_ne p17 hk, (old R1 hk).2.1, (old R1 hk).2.2, nx p1x hk, nx p1y hk⟩)
      (tw_ok (Kd.R_lower R2 hs) fun k hk => ⟨(old R2 hk).1, tw_ne p21 hk, tw_ne p26 hk, tw_ne p27 hk, (old R2 hk).2.1, (old R2 hk).2.2, nx p2x hk, nx p2y hk⟩)
      (tw_ok (Kd.R_lower R6 hs) fun k hk => ⟨(old R6 hk).1, tw_ne p61 hk, tw_ne p62 hk, tw_ne p67 hk, (old R6 hk).2.1, (old R6 hk).2.2, nx p6x hk, nx p6y hk⟩)
      (tw_ok (Kd.R_lower R7 hs) fun k hk => ⟨(old R7 hk).1, tw_ne p71 hk, tw_ne p72 hk, tw_ne p76 hk, (old R7 hk).2.1, (old R7 hk).2.2, nx p7x hk, nx p7y hk⟩)
      (blk_below bA hbel) (blk_below bB hbel) X.1 Y.1 (Nat.le_trans hs X.2) (Nat.le_trans hs Y.2) gax gbx gay gby hxy hstep
    rw [hact]
    simp only [twL, putSel, b0, b1, b2, b3, b4, b5, b6, b7, b8, b9, b10, b11, if_true]
    exact hfin
def tolllaw05_PairsTwice.T4 : Bool × List (List Nat × List Nat) := (true, [([], []), ([], []), ([1], [1]), ([], []), ([3], [3]), ([0, 2, 4], [0, 2, 4]), ([], []), ([6], [6]), ([], []), ([8], [8]), ([5, 7, 9, 5], [5, 7, 9]), ([], []), ([10, 11, 10], [10, 11]), ([12], [12]), ([13, 12], [13]), ([14], [14]), ([14], [14]), ([16, 14], [14, 16]), ([15, 17, 14, 14], [14, 15, 17]), ([14], [14]), ([19, 14], [14, 19]), ([18, 20, 18, 14], [14, 18, 20]), ([14], [14]), ([14], [14]), ([23, 14], [14, 23]), ([22, 24, 21, 14], [14, 22, 24]), ([21, 25, 25, 14], [14, 21, 25]), ([26, 14], [14, 26]), ([14, 27], [14, 27])])
def tolllaw05_PairsTwice.B4 : List Nat := [0, 0, 2, 0, 8, 31, 0, 64, 0, 256, 1023, 0, 4095, 8191, 16383, 32767, 32767, 98303, 262143, 32767, 557055, 2097151, 32767, 32767, 8421375, 33554431, 67108863, 134217727, 268435455]
theorem tolllaw05_PairsTwice.tab4 : rtab .any (opsOf Try.f3 4) = tolllaw05_PairsTwice.T4 := by kernel_rfl
theorem tolllaw05_PairsTwice.bits4 : waitsOk tolllaw05_PairsTwice.T4.2 tolllaw05_PairsTwice.B4 = true := by kernel_rfl
def tolllaw05_PairsTwice.T6 : Bool × List (List Nat × List Nat) := (true, [([], []), ([], []), ([1], [1]), ([], []), ([3], [3]), ([0, 2, 4], [0, 2, 4]), ([], []), ([6], [6]), ([], []), ([8], [8]), ([5, 7, 9, 5], [5, 7, 9]), ([10, 10, 0, 1, 2, 3, 4, 5, 6, 7, 8, 9, 10], [10])])
def tolllaw05_PairsTwice.B6 : List Nat := [0, 0, 2, 0, 8, 31, 0, 64, 0, 256, 1023, 2047]
theorem tolllaw05_PairsTwice.tab6 : rtab .any (opsOf Try.f3 6) = tolllaw05_PairsTwice.T6 := by kernel_rfl
theorem tolllaw05_PairsTwice.bits6 : waitsOk tolllaw05_PairsTwice.T6.2 tolllaw05_PairsTwice.B6 = true := by kernel_rfl
def tolllaw05_PairsTwice.T7 : Bool × List (List Nat × List Nat) := (true, [([], []), ([], []), ([1], [1]), ([], []), ([3], [3]), ([0, 2, 4], [0, 2, 4]), ([], []), ([6], [6]), ([], []), ([8], [8]), ([5, 7, 9, 5], [5, 7, 9]), ([10, 10, 0, 1, 2, 3, 4, 5, 6, 7, 8, 9, 10], [10])])
def tolllaw05_PairsTwice.B7 : List Nat := [0, 0, 2, 0, 8, 31, 0, 64, 0, 256, 1023, 2047]
theorem tolllaw05_PairsTwice.tab7 : rtab .any (opsOf Try.f3 7) = tolllaw05_PairsTwice.T7 := by kernel_rfl
theorem tolllaw05_PairsTwice.bits7 : waitsOk tolllaw05_PairsTwice.T7.2 tolllaw05_PairsTwice.B7 = true := by kernel_rfl
set_option maxHeartbeats 6000000 in
set_option maxRecDepth 100000 in
theorem tolllaw05_PairsTwice.calls (k : Nat) (A0 : Option Addr) (c0 : Nat) (l0 : List (S24)) (a1_0 : ByteArray) (a1_1 : ByteArray) (a2_0 : ByteArray) (a2_1 : ByteArray) (r : Bool) (w : World) (hr0 : Kd.C k24 w A0 l0.length l0) (hc0 : l0.length ≤ c0) (h : tolllaw05_PairsTwice.f k l0 a1_0 a1_1 a2_0 a2_1 = some r) :
  Calls Try.prog 3 #[.slice A0 l0.length c0, .agg #[.string a1_0, .string a1_1], .agg #[.string a2_0, .string a2_1]] w fun e w' => e = .returned (.bool r) ∧ Below w.heap.size w w' := by
 have hu24 := Try.underlying24
 have HR0 := Aside0.mk hr0
 have HC0 := Aside0.mk hc0
 clear hr0 hc0
 have HB := am_ (Below.refl w.heap.size w)
 have H : ((tolllaw05_Few.f k l0).bind fun t143 => ((tolllaw05_Few.f k (([(⟨a1_0, a1_1⟩ : S24)] : List (S24)))).bind fun t149 => (if 0 < (t149.length : Int) then ((tolllaw05_Few.f k (([(⟨a2_0, a2_1⟩ : S24)] : List (S24)))).bind fun t156 => (if 0 < (t156.length : Int) then ((pairs_Set.f t143 ((rd_T24 t149 0).f0) ((rd_T24 t156 0).f1)).bind fun t162 => ((pairs_Set.f t143 ((rd_T24 t149 0).f0) ((rd_T24 t149 0).f1)).bind fun t165 => ((pairs_Set.f t165 ((rd_T24 t149 0).f0) ((rd_T24 t156 0).f1)).bind fun t168 => ((tollref04_Same.f k t168 t162).bind fun t171 => (if t171 = true then ((pairs_Drop.f t143 ((rd_T24 t149 0).f0)).bind fun t172 => ((pairs_Drop.f t172 ((rd_T24 t149 0).f0)).bind fun t175 => ((pairs_Drop.f t143 ((rd_T24 t149 0).f0)).bind fun t178 => ((tollref04_Same.f k t175 t178).bind fun t181 => (tolllaw05_PairsTwice.j0 k t143 (!t181) ((rd_T24 t149 0).f0) ((rd_T24 t149 0).f1) ((rd_T24 t156 0).f0) ((rd_T24 t156 0).f1)))))) else (none)))))) else (none))) else (none)))) = some r := h
 clear h
 obtain ⟨t143, A4, H⟩ := bnd_ H
 obtain ⟨y146, hy146⟩ : ∃ y_ : List (S24), y_ = (([(⟨a1_0, a1_1⟩ : S24)] : List (S24))) := ⟨_, rfl⟩
 replace H : ((tolllaw05_Few.f k y146).bind fun t149 => (if 0 < (t149.length : Int) then ((tolllaw05_Few.f k (([(⟨a2_0, a2_1⟩ : S24)] : List (S24)))).bind fun t156 => (if 0 < (t156.length : Int) then ((pairs_Set.f t143 ((rd_T24 t149 0).f0) ((rd_T24 t156 0).f1)).bind fun t162 => ((pairs_Set.f t143 ((rd_T24 t149 0).f0) ((rd_T24 t149 0).f1)).bind fun t165 => ((pairs_Set.f t165 ((rd_T24 t149 0).f0) ((rd_T24 t156 0).f1)).bind fun t168 => ((tollref04_Same.f k t168 t162).bind fun t171 => (if t171 = true then ((pairs_Drop.f t143 ((rd_T24 t149 0).f0)).bind fun t172 => ((pairs_Drop.f t172 ((rd_T24 t149 0).f0)).bind fun t175 => ((pairs_Drop.f t143 ((rd_T24 t149 0).f0)).bind fun t178 => ((tollref04_Same.f k t175 t178).bind fun t181 => (tolllaw05_PairsTwice.j0 k t143 (!t181) ((rd_T24 t149 0).f0) ((rd_T24 t149 0).f1) ((rd_T24 t156 0).f0) ((rd_T24 t156 0).f1)))))) else (none)))))) else (none))) else (none))) = some r := by first | (rw [hy146]; with_reducible exact H) | (have H2_ := (Option.bind_some _ _).symm.trans H; rw [hy146]; with_reducible exact H2_) | (have H2_ := (Option.bind_some _ _).symm.trans H; with_reducible exact H2_) | with_reducible exact H | (rw [hy146]; exact H) | exact H
 have Ny146 := Aside0.mk hy146
 clear hy146
 obtain ⟨t149, A5, H⟩ := bnd_ H
 by_cases c6 : 0 < (t149.length : Int)
 ·rw [if_pos c6] at H
  have c6b0 := decide_eq_true c6
  have c6b1 : decide (0 < t149.length) = true := decide_eq_true (by omega)
  clear c6
  obtain ⟨y153, hy153⟩ : ∃ y_ : List (S24), y_ = (([(⟨a2_0, a2_1⟩ : S24)] : List (S24))) := ⟨_, rfl⟩
  replace H : ((tolllaw05_Few.f k y153).bind fun t156 => (if 0 < (t156.length : Int) then ((pairs_Set.f t143 ((rd_T24 t149 0).f0) ((rd_T24 t156 0).f1)).bind fun t162 => ((pairs_Set.f t143 ((rd_T24 t149 0).f0) ((rd_T24 t149 0).f1)).bind fun t165 => ((pairs_Set.f t165 ((rd_T24 t149 0).f0) ((rd_T24 t156 0).f1)).bind fun t168 => ((tollref04_Same.f k t168 t162).bind fun t171 => (if t171 = true then ((pairs_Drop.f t143 ((rd_T24 t149 0).f0)).bind fun t172 => ((pairs_Drop.f t172 ((rd_T24 t149 0).f0)).bind fun t175 => ((pairs_Drop.f t143 ((rd_T24 t149 0).f0)).bind fun t178 => ((tollref04_Same.f k t175 t178).bind fun t181 => (tolllaw05_PairsTwice.j0 k t143 (!t181) ((rd_T24 t149 0).f0) ((rd_T24 t149 0).f1) ((rd_T24 t156 0).f0) ((rd_T24 t156 0).f1)))))) else (none)))))) else (none))) = some r := by first | (rw [hy153]; with_reducible exact H) | (have H2_ := (Option.bind_some _ _).symm.trans H; rw [hy153]; with_reducible exact H2_) | (have H2_ := (Option.bind_some _ _).symm.trans H; with_reducible exact H2_) | with_reducible exact H | (rw [hy153]; exact H) | exact H
  have Ny153 := Aside0.mk hy153
  clear hy153
  obtain ⟨t156, A7, H⟩ := bnd_ H
  by_cases c8 : 0 < (t156.length : Int)
  ·rw [if_pos c8] at H
   have c8b0 := decide_eq_true c8
   have c8b1 : decide (0 < t156.length) = true := decide_eq_true (by omega)
   clear c8
   obtain ⟨t162, A9, H⟩ := bnd_ H
   have HC10 := Aside0.mk H
   clear H
   go_enter Try.func3, Try.ntmps3
   try go_wp2_with (first | ((with_reducible refine gate_dst (N := 4) rfl ?_); refine box_event ?hg (N := 4) ?hd (cs := #[.string a1_0, .string a1_1]) (t := 24) ?hr ?_; (case hd => rfl); (case hg => rfl); (case hr => first | (go_simp; done) | (go_simp; rfl)); intro gb141 hg w11 hbox hb; have BK141 := am_ (hbox); have GW141 := sz_ HB hg; have GE141 := sz_ HB hg; replace HB := bs_ HB hb; clear hb hbox hg) | ((with_reducible refine gate_dst (N := 5) rfl ?_); refine box_event ?hg (N := 5) ?hd (cs := #[.string a2_0, .string a2_1]) (t := 24) ?hr ?_; (case hd => rfl); (case hg => rfl); (case hr => first | (go_simp; done) | (go_simp; rfl)); intro gb142 hg w12 hbox hb; have BK142 := am_ (hbox); have GW142 := sz_ HB hg; have GE142 := sz_ HB hg; replace HB := bs_ HB hb; have NB141_142 := nl_ BK141 hg; have NB142_141 := nr_ BK141 hg; replace BK141 := bb_ BK141 hb; clear hb hbox hg) | ((with_reducible refine gate_callee (f := 4) rfl ?_); refine goesL_ (some 17) rfl rfl Try.func4 kr_ rfl #[.slice A0 l0.length c0] rfl rl_ ?_; (with_reducible refine (tolllaw05_Few.calls k _ _ l0 t143 _ ?side1 ?side2 A4.out).mono ?_); (case side1 => exact C_ (Kd.C_below HR0.out HB.out)); (case side2 => exact HC0.out); rintro e w13 ⟨v144, rfl, ho0, hb⟩; refine ⟨_, rfl, ?_⟩; have HO145 := am_ (Kd.R_lower (Kd.R_newB (Kd.R_newB ho0 (g := gb141) (o := .cells #[.string a1_0, .string a1_1] 24 (0, 0)) (blk_ BK141.out)) (g := gb142) (o := .cells #[.string a2_0, .string a2_1] 24 (0, 0)) (blk_ BK142.out)) (below_size (bel_ HB.out))); replace BK141 := bb_ BK141 hb; replace BK142 := bb_ BK142 hb; replace HB := bs_ HB hb; (try clear hb ho0)))
   replace HO145 := am_ (Kd.R_drew HO145.out)
   replace BK141 := am_ (blk_drew BK141.out)
   replace BK142 := am_ (blk_drew BK142.out)
   replace HB := am_ (below_drew1 HB.out)
   refine start_ (n := 14) (S := fun _ => True) (ds := []) #[false, false, false, false, false, false, false, false, false, false, false, false, false, false] kr_ rfl rfl trivial (fun _ => ?_)
   generalize w13.drew = w14 at HO145 BK141 BK142 HB ⊢
   refine tw_region (k := k) (xa := ⟨a1_0, a1_1⟩) (xb := ⟨a2_0, a2_1⟩) rfl rfl rfl BK141.out BK142.out (by rw [← Ny146.out]; exact A5.out) (by rw [← Ny153.out]; exact A7.out) (of_decide_eq_true c6b1) (of_decide_eq_true c8b1) HO145.out (fun k_ hk => by first | exact ⟨hk.1, hk.2⟩ | exact ⟨hk.1.2, hk.2⟩ | exact ⟨hk.2.1, hk.2.2⟩) HB.out ?_
   intro w25 v147 v154 ad152 ad159 co26 co27 gb160 gb161 h0_ h1_ h2_ h3_ h4_ h5_ h6_ h7_ h8_ h9_ h10_ h11_ h12_ h13_ h14_ h15_ h16_
   clear HO145 BK141 BK142 HB
   have HO145 := am_ h0_
   have HO148 := am_ h1_
   have HO151 := am_ h2_
   have HO155 := am_ h3_
   have HO158 := am_ h4_
   have BK141 := am_ h5_
   have BK142 := am_ h6_
   have BK160 := am_ h7_
   have BK161 := am_ h8_
   have GW160 := am_ h9_
   have GE160 := am_ h9_
   have GW161 := am_ h10_
   have GE161 := am_ h10_
   have NB141_160 := am_ h11_
   have NB160_141 := am_ (Ne.symm h11_)
   have NB142_160 := am_ h12_
   have NB160_142 := am_ (Ne.symm h12_)
   have NB141_161 := am_ h13_
   have NB161_141 := am_ (Ne.symm h13_)
   have NB142_161 := am_ h14_
   have NB161_142 := am_ (Ne.symm h14_)
   have NB160_161 := am_ h15_
   have NB161_160 := am_ (Ne.symm h15_)
   have HB := am_ h16_
   clear h0_ h1_ h2_ h3_ h4_ h5_ h6_ h7_ h8_ h9_ h10_ h11_ h12_ h13_ h14_ h15_ h16_
   simp only [Act.put, List.setIfInBounds_toArray, List.set_cons_zero, List.set_cons_succ]
   have hnb32 := NB160_141.out
   have hnc32 := NB141_160.out
   have hnb33 := NB160_142.out
   have hnc33 := NB142_160.out
   have hnb34 := NB160_161.out
   have hnc34 := NB161_160.out
   have hcz35_0 : w25.cell? ⟨gb160, 0, none⟩ = some (.string ((rd_T24 t149 0).f0)) := (blk_cell BK160.out 0).trans rfl
   have hcz35_1 : w25.cell? ⟨gb160, 1, none⟩ = some (.string ((rd_T24 t149 0).f1)) := (blk_cell BK160.out 1).trans rfl
   have hfz35_0 := blk_frozen BK160.out 0
   have hfz35_1 := blk_frozen BK160.out 1
   have hnb36 := NB161_141.out
   have hnc36 := NB141_161.out
   have hnb37 := NB161_142.out
   have hnc37 := NB142_161.out
   have hcz38_0 : w25.cell? ⟨gb161, 0, none⟩ = some (.string ((rd_T24 t156 0).f0)) := (blk_cell BK161.out 0).trans rfl
   have hcz38_1 : w25.cell? ⟨gb161, 1, none⟩ = some (.string ((rd_T24 t156 0).f1)) := (blk_cell BK161.out 1).trans rfl
   have hfz38_0 := blk_frozen BK161.out 0
   have hfz38_1 := blk_frozen BK161.out 1
   obtain ⟨Ao39, co39, eo39⟩ := Kd.R_slice HO145.out
   subst eo39
   go_upto_region 4 with (first | ((with_reducible refine gate_callee (f := 5) rfl ?_); refine goesL_ (some 33) rfl rfl Try.func5 kr_ rfl #[.slice Ao39 t143.length co39, .string ((rd_T24 t149 0).f0), .string ((rd_T24 t156 0).f1)] rfl rl_ ?_; (with_reducible refine (pairs_Set.calls _ _ t143 ((rd_T24 t149 0).f0) ((rd_T24 t156 0).f1) t162 _ ?side1 ?side2 A9.out).mono ?_); (case side1 => refine (Kd.R_reads' (e := 24) (base := w.heap.size) (ok := fun k_ => (some k_ ≠ (v147 : Value).ownBlock ∧ (some k_ ≠ (.slice (some ad152) t149.length co26 : Value).ownBlock ∧ (some k_ ≠ (v154 : Value).ownBlock ∧ (some k_ ≠ (.slice (some ad159) t156.length co27 : Value).ownBlock ∧ (k_ ≠ gb141 ∧ (k_ ≠ gb142 ∧ (k_ ≠ gb160 ∧ k_ ≠ gb161)))))))) (n := t143.length) (c := co39) ?_).2.2; exact (by (with_reducible repeat (first | apply Kd.R_alloc | apply Kd.R_drewN | apply Kd.R_drew)); exact (Kd.R_mono (Kd.R_mono (Rf2_ (Kd.R_mono (Kd.R_mono HO145.out (fun k_ hk => (⟨hk, hk.2.2.2.2.2.2.1⟩ : _ ∧ k_ ≠ gb160))) (fun k_ hk => (⟨hk, hk.1.2.2.2.2.2.2.2⟩ : _ ∧ k_ ≠ gb161))) (fun _ hk => hk.1.2) (fun _ hk => hk.2)) (fun _ h_ => h_.1)) (fun _ h_ => h_.1)))); (case side2 => exact (Kd.R_reads' HO145.out).2.1); rintro e w40 ⟨v163, rfl, ho0, hb⟩; refine ⟨_, rfl, ?_⟩; have HO164 := am_ (Kd.R_lower (Kd.R_newB (Kd.R_newB (Kd.R_newB (Kd.R_newB (Kd.R_new' (Kd.R_new' (Kd.R_new' (Kd.R_new' (Kd.R_new' ho0 (Kd.R_lt (by (with_reducible repeat (first | apply Kd.R_alloc | apply Kd.R_drewN | apply Kd.R_drew)); exact (Kd.R_mono (Kd.R_mono (Rf2_ (Kd.R_mono (Kd.R_mono HO145.out (fun k_ hk => (⟨hk, hk.2.2.2.2.2.2.1⟩ : _ ∧ k_ ≠ gb160))) (fun k_ hk => (⟨hk, hk.1.2.2.2.2.2.2.2⟩ : _ ∧ k_ ≠ gb161))) (fun _ hk => hk.1.2) (fun _ hk => hk.2)) (fun _ h_ => h_.1)) (fun _ h_ => h_.1))))) (Kd.R_lt (by (with_reducible repeat (first | apply Kd.R_alloc | apply Kd.R_drewN | apply Kd.R_drew)); exact (Kd.R_mono (Kd.R_mono (Rf2_ (Kd.R_mono (Kd.R_mono HO148.out (fun k_ hk => (⟨hk, hk.2.2.2.2.2.2.1⟩ : _ ∧ k_ ≠ gb160))) (fun k_ hk => (⟨hk, hk.1.2.2.2.2.2.2.2⟩ : _ ∧ k_ ≠ gb161))) (fun _ hk => hk.1.2) (fun _ hk => hk.2)) (fun _ h_ => h_.1)) (fun _ h_ => h_.1))))) (Kd.R_lt (by (with_reducible repeat (first | apply Kd.R_alloc | apply Kd.R_drewN | apply Kd.R_drew)); exact (Kd.R_mono (Kd.R_mono (Rf2_ (Kd.R_mono (Kd.R_mono HO151.out (fun k_ hk => (⟨hk, hk.2.2.2.2.2.2.1⟩ : _ ∧ k_ ≠ gb160))) (fun k_ hk => (⟨hk, hk.1.2.2.2.2.2.2.2⟩ : _ ∧ k_ ≠ gb161))) (fun _ hk => hk.1.2) (fun _ hk => hk.2)) (fun _ h_ => h_.1)) (fun _ h_ => h_.1))))) (Kd.R_lt (by (with_reducible repeat (first | apply Kd.R_alloc | apply Kd.R_drewN | apply Kd.R_drew)); exact (Kd.R_mono (Kd.R_mono (Rf2_ (Kd.R_mono (Kd.R_mono HO155.out (fun k_ hk => (⟨hk, hk.2.2.2.2.2.2.1⟩ : _ ∧ k_ ≠ gb160))) (fun k_ hk => (⟨hk, hk.1.2.2.2.2.2.2.2⟩ : _ ∧ k_ ≠ gb161))) (fun _ hk => hk.1.2) (fun _ hk => hk.2)) (fun _ h_ => h_.1)) (fun _ h_ => h_.1))))) (Kd.R_lt (by (with_reducible repeat (first | apply Kd.R_alloc | apply Kd.R_drewN | apply Kd.R_drew)); exact (Kd.R_mono (Kd.R_mono (Rf2_ (Kd.R_mono (Kd.R_mono HO158.out (fun k_ hk => (⟨hk, hk.2.2.2.2.2.2.1⟩ : _ ∧ k_ ≠ gb160))) (fun k_ hk => (⟨hk, hk.1.2.2.2.2.2.2.2⟩ : _ ∧ k_ ≠ gb161))) (fun _ hk => hk.1.2) (fun _ hk => hk.2)) (fun _ h_ => h_.1)) (fun _ h_ => h_.1))))) (g := gb141) (o := .cells #[.string a1_0, .string a1_1] 24 (0, 0)) BK141.out) (g := gb142) (o := .cells #[.string a2_0, .string a2_1] 24 (0, 0)) BK142.out) (g := gb160) (o := .cells #[.string ((rd_T24 t149 0).f0), .string ((rd_T24 t149 0).f1)] 24 (0, 0)) BK160.out) (g := gb161) (o := .cells #[.string ((rd_T24 t156 0).f0), .string ((rd_T24 t156 0).f1)] 24 (0, 0)) BK161.out) (below_size (bel_ HB.out))); replace HO145 := am_ (Kd.R_elder' (by (with_reducible repeat (first | apply Kd.R_alloc | apply Kd.R_drewN | apply Kd.R_drew)); exact (Kd.R_mono (Kd.R_mono (Rf2_ (Kd.R_mono (Kd.R_mono HO145.out (fun k_ hk => (⟨hk, hk.2.2.2.2.2.2.1⟩ : _ ∧ k_ ≠ gb160))) (fun k_ hk => (⟨hk, hk.1.2.2.2.2.2.2.2⟩ : _ ∧ k_ ≠ gb161))) (fun _ hk => hk.1.2) (fun _ hk => hk.2)) (fun _ h_ => h_.1)) (fun _ h_ => h_.1))) (Kd.R_base ho0) hb); replace HO148 := am_ (Kd.R_elder' (by (with_reducible repeat (first | apply Kd.R_alloc | apply Kd.R_drewN | apply Kd.R_drew)); exact (Kd.R_mono (Kd.R_mono (Rf2_ (Kd.R_mono (Kd.R_mono HO148.out (fun k_ hk => (⟨hk, hk.2.2.2.2.2.2.1⟩ : _ ∧ k_ ≠ gb160))) (fun k_ hk => (⟨hk, hk.1.2.2.2.2.2.2.2⟩ : _ ∧ k_ ≠ gb161))) (fun _ hk => hk.1.2) (fun _ hk => hk.2)) (fun _ h_ => h_.1)) (fun _ h_ => h_.1))) (Kd.R_base ho0) hb); replace HO151 := am_ (Kd.R_elder' (by (with_reducible repeat (first | apply Kd.R_alloc | apply Kd.R_drewN | apply Kd.R_drew)); exact (Kd.R_mono (Kd.R_mono (Rf2_ (Kd.R_mono (Kd.R_mono HO151.out (fun k_ hk => (⟨hk, hk.2.2.2.2.2.2.1⟩ : _ ∧ k_ ≠ gb160))) (fun k_ hk => (⟨hk, hk.1.2.2.2.2.2.2.2⟩ : _ ∧ k_ ≠ gb161))) (fun _ hk => hk.1.2) (fun _ hk => hk.2)) (fun _ h_ => h_.1)) (fun _ h_ => h_.1))) (Kd.R_base ho0) hb); replace HO155 := am_ (Kd.R_elder' (by (with_reducible repeat (first | apply Kd.R_alloc | apply Kd.R_drewN | apply Kd.R_drew)); exact (Kd.R_mono (Kd.R_mono (Rf2_ (Kd.R_mono (Kd.R_mono HO155.out (fun k_ hk => (⟨hk, hk.2.2.2.2.2.2.1⟩ : _ ∧ k_ ≠ gb160))) (fun k_ hk => (⟨hk, hk.1.2.2.2.2.2.2.2⟩ : _ ∧ k_ ≠ gb161))) (fun _ hk => hk.1.2) (fun _ hk => hk.2)) (fun _ h_ => h_.1)) (fun _ h_ => h_.1))) (Kd.R_base ho0) hb); replace HO158 := am_ (Kd.R_elder' (by (with_reducible repeat (first | apply Kd.R_alloc | apply Kd.R_drewN | apply Kd.R_drew)); exact (Kd.R_mono (Kd.R_mono (Rf2_ (Kd.R_mono (Kd.R_mono HO158.out (fun k_ hk => (⟨hk, hk.2.2.2.2.2.2.1⟩ : _ ∧ k_ ≠ gb160))) (fun k_ hk => (⟨hk, hk.1.2.2.2.2.2.2.2⟩ : _ ∧ k_ ≠ gb161))) (fun _ hk => hk.1.2) (fun _ hk => hk.2)) (fun _ h_ => h_.1)) (fun _ h_ => h_.1))) (Kd.R_base ho0) hb); replace BK141 := am_ (blk_below (g := gb141) (o := .cells #[.string a1_0, .string a1_1] 24 (0, 0)) BK141.out hb); replace BK142 := am_ (blk_below (g := gb142) (o := .cells #[.string a2_0, .string a2_1] 24 (0, 0)) BK142.out hb); replace BK160 := am_ (blk_below (g := gb160) (o := .cells #[.string ((rd_T24 t149 0).f0), .string ((rd_T24 t149 0).f1)] 24 (0, 0)) BK160.out hb); replace BK161 := am_ (blk_below (g := gb161) (o := .cells #[.string ((rd_T24 t156 0).f0), .string ((rd_T24 t156 0).f1)] 24 (0, 0)) BK161.out hb); replace HB := bs_ HB hb; (try clear hb hk ho0)))
   (try simp only [Act.put, List.setIfInBounds_toArray, List.set_cons_zero, List.set_cons_succ])
   go_cut [62] (fun v62 wc => ∃ (kq : Nat) (x62_9 : Bool), v62 = .bool x62_9 ∧ Aside0 (tolllaw05_PairsTwice.j0 kq t143 x62_9 ((rd_T24 t149 0).f0) ((rd_T24 t149 0).f1) ((rd_T24 t156 0).f0) ((rd_T24 t156 0).f1) = some r) ∧ Aside0 (kq ≤ k) ∧ Aside0 (Kd.R k24 24 wc w.heap.size (fun k_ => k_ ≠ gb141 ∧ k_ ≠ gb142 ∧ k_ ≠ gb160 ∧ k_ ≠ gb161) (.slice Ao39 t143.length co39) t143) ∧ Aside0 (wc.heap[gb141]? = some (.cells #[.string a1_0, .string a1_1] 24 (0, 0))) ∧ Aside0 (wc.heap[gb142]? = some (.cells #[.string a2_0, .string a2_1] 24 (0, 0))) ∧ Aside0 (wc.heap[gb160]? = some (.cells #[.string ((rd_T24 t149 0).f0), .string ((rd_T24 t149 0).f1)] 24 (0, 0))) ∧ Aside0 (wc.heap[gb161]? = some (.cells #[.string ((rd_T24 t156 0).f0), .string ((rd_T24 t156 0).f1)] 24 (0, 0))) ∧ Aside0 (Below w.heap.size w wc))
   case first =>
    have H := HC10.out
    clear HC10
    obtain ⟨t165, A41, H⟩ := bnd_ H
    obtain ⟨t168, A42, H⟩ := bnd_ H
    obtain ⟨t171, A43, H⟩ := bnd_ H
    by_cases c44 : t171 = true
    ·subst c44
     replace H := ift_ H
     obtain ⟨t172, A45, H⟩ := bnd_ H
     obtain ⟨t175, A46, H⟩ := bnd_ H
     obtain ⟨t178, A47, H⟩ := bnd_ H
     obtain ⟨t181, A48, H⟩ := bnd_ H
     have H' := Aside0.mk H
     clear H
     try go_wp2
     replace HO145 := am_ (Kd.R_drew HO145.out)
     replace HO148 := am_ (Kd.R_drew HO148.out)
     replace HO151 := am_ (Kd.R_drew HO151.out)
     replace HO155 := am_ (Kd.R_drew HO155.out)
     replace HO158 := am_ (Kd.R_drew HO158.out)
     replace HO164 := am_ (Kd.R_drew HO164.out)
     replace BK141 := am_ (blk_drew BK141.out)
     replace BK142 := am_ (blk_drew BK142.out)
     replace BK160 := am_ (blk_drew BK160.out)
     replace BK161 := am_ (blk_drew BK161.out)
     replace HB := am_ (below_drew1 HB.out)
     refine start_ (n := 29) (S := fun w' => w'.cell? ⟨gb160, 0, none⟩ = some (.string ((rd_T24 t149 0).f0)) ∧ w'.cell? ⟨gb160, 1, none⟩ = some (.string ((rd_T24 t149 0).f1)) ∧ w'.cell? ⟨gb161, 0, none⟩ = some (.string ((rd_T24 t156 0).f0)) ∧ w'.cell? ⟨gb161, 1, none⟩ = some (.string ((rd_T24 t156 0).f1))) (ds := []) #[false, false, false, false, false, false, false, false, false, false, false, false, false, false, false, false, false, false, false, false, false, false, false, false, false, false, false, false, false] kr_ rfl rfl ⟨(blk_cell BK160.out 0).trans rfl, (blk_cell BK160.out 1).trans rfl, (blk_cell BK161.out 0).trans rfl, (blk_cell BK161.out 1).trans rfl⟩ (fun hHeld => ?_); refine with_tabW tolllaw05_PairsTwice.tab4 tolllaw05_PairsTwice.bits4 (fun HT_ HW_ => ?_)
     generalize w40.drew = w49 at HO145 HO148 HO151 HO155 HO158 HO164 BK141 BK142 BK160 BK161 HB hHeld ⊢
     refine pur_ (i := 0) (N := some 34) (v := ?_) (a' := ?_) rfl rfl HT_ (fun _ _ _ h => h) (Or.inl ⟨by rfl, ?_⟩) ?_ ?_
     rotate_left
     ·intro w'
      go_simp
      with_reducible rfl
     rotate_left
     ·simp only [Act.put, sx_, s0_, s1_, i64_w, i32_w]
      rfl
     refine pur_ (i := 1) (N := some 35) (v := ?_) (a' := ?_) rfl rfl HT_ (fun _ _ _ h => h) (Or.inl ⟨by rfl, ?_⟩) ?_ ?_
     rotate_left
     ·intro w'
      go_simp
      with_reducible rfl
     rotate_left
     ·simp only [Act.put, sx_, s0_, s1_, i64_w, i32_w]
      rfl
     refine pur_ (i := 3) (N := some 37) (v := ?_) (a' := ?_) rfl rfl HT_ (fun _ _ _ h => h) (Or.inl ⟨by rfl, ?_⟩) ?_ ?_
     rotate_left
     ·intro w'
      go_simp
      with_reducible rfl
     rotate_left
     ·simp only [Act.put, sx_, s0_, s1_, i64_w, i32_w]
      rfl
     refine pur_ (i := 6) (N := some 40) (v := ?_) (a' := ?_) rfl rfl HT_ (fun _ _ _ h => h) (Or.inl ⟨by rfl, ?_⟩) ?_ ?_
     rotate_left
     ·intro w'
      go_simp
      with_reducible rfl
     rotate_left
     ·simp only [Act.put, sx_, s0_, s1_, i64_w, i32_w]
      rfl
     refine pur_ (i := 8) (N := some 42) (v := ?_) (a' := ?_) rfl rfl HT_ (fun _ _ _ h => h) (Or.inl ⟨by rfl, ?_⟩) ?_ ?_
     rotate_left
     ·intro w'
      go_simp
      with_reducible rfl
     rotate_left
     ·simp only [Act.put, sx_, s0_, s1_, i64_w, i32_w]
      rfl
     refine pur_ (i := 11) (N := some 45) (v := ?_) (a' := ?_) rfl rfl HT_ (fun _ _ _ h => h) (Or.inl ⟨by rfl, ?_⟩) ?_ ?_
     rotate_left
     ·intro w'
      go_simp
      with_reducible rfl
     rotate_left
     ·simp only [Act.put, sx_, s0_, s1_, i64_w, i32_w]
      rfl
     refine tak_ (i := 2) (N := some 36) (v := ?_) (a' := ?_) rfl rfl HT_ HW_ (fun _ _ _ h => h) (Or.inl ⟨by rfl, ?_⟩) hHeld ?_ ?_
     rotate_left
     ·rintro w' ⟨s0, s1, s2, s3⟩
      go_simp
      with_reducible rfl
     rotate_left
     ·simp only [Act.put, sx_, s0_, s1_, i64_w, i32_w]
      rfl
     refine tak_ (i := 4) (N := some 38) (v := ?_) (a' := ?_) rfl rfl HT_ HW_ (fun _ _ _ h => h) (Or.inl ⟨by rfl, ?_⟩) hHeld ?_ ?_
     rotate_left
     ·rintro w' ⟨s0, s1, s2, s3⟩
      go_simp
      with_reducible rfl
     rotate_left
     ·simp only [Act.put, sx_, s0_, s1_, i64_w, i32_w]
      rfl
     refine tak_ (i := 7) (N := some 41) (v := ?_) (a' := ?_) rfl rfl HT_ HW_ (fun _ _ _ h => h) (Or.inl ⟨by rfl, ?_⟩) hHeld ?_ ?_
     rotate_left
     ·rintro w' ⟨s0, s1, s2, s3⟩
      go_simp
      with_reducible rfl
     rotate_left
     ·simp only [Act.put, sx_, s0_, s1_, i64_w, i32_w]
      rfl
     refine tak_ (i := 9) (N := some 43) (v := ?_) (a' := ?_) rfl rfl HT_ HW_ (fun _ _ _ h => h) (Or.inl ⟨by rfl, ?_⟩) hHeld ?_ ?_
     rotate_left
     ·rintro w' ⟨s0, s1, s2, s3⟩
      go_simp
      with_reducible rfl
     rotate_left
     ·simp only [Act.put, sx_, s0_, s1_, i64_w, i32_w]
      rfl
     refine ono_ (i := 5) (N := some 39) rfl rfl HT_ (by decide) (fun K hK => ?_)
     refine goes_ Try.func5 kr_ rfl #[.slice Ao39 t143.length co39, .string ((rd_T24 t149 0).f0), .string ((rd_T24 t149 0).f1)] (by rfl) rfl rfl rl_ ?_
     with_reducible refine (pairs_Set.calls _ _ t143 ((rd_T24 t149 0).f0) ((rd_T24 t149 0).f1) t165 _ ?side1 ?side2 A41.out).mono ?_
     (case side1 => exact C_ (Kd.R_reads' HO145.out).2.2)
     (case side2 => exact (Kd.R_reads' HO145.out).2.1)
     rintro e w50 ⟨v166, rfl, ho0, hb⟩
     refine ⟨_, rfl, ?_⟩
     have HO167 := am_ (Kd.R_lower (Kd.R_newB (Kd.R_newB (Kd.R_newB (Kd.R_newB (Kd.R_new' (Kd.R_new' (Kd.R_new' (Kd.R_new' (Kd.R_new' (Kd.R_new' ho0 (Kd.R_lt (R_ HO145.out))) (Kd.R_lt (R_ HO148.out))) (Kd.R_lt (R_ HO151.out))) (Kd.R_lt (R_ HO155.out))) (Kd.R_lt (R_ HO158.out))) (Kd.R_lt (R_ HO164.out))) (g := gb141) (o := .cells #[.string a1_0, .string a1_1] 24 (0, 0)) (blk_ BK141.out)) (g := gb142) (o := .cells #[.string a2_0, .string a2_1] 24 (0, 0)) (blk_ BK142.out)) (g := gb160) (o := .cells #[.string ((rd_T24 t149 0).f0), .string ((rd_T24 t149 0).f1)] 24 (0, 0)) (blk_ BK160.out)) (g := gb161) (o := .cells #[.string ((rd_T24 t156 0).f0), .string ((rd_T24 t156 0).f1)] 24 (0, 0)) (blk_ BK161.out)) (below_size (bel_ HB.out)))
     replace HO145 := am_ (Kd.R_elder' (R_ HO145.out) (Kd.R_base ho0) hb)
     replace HO148 := am_ (Kd.R_elder' (R_ HO148.out) (Kd.R_base ho0) hb)
     replace HO151 := am_ (Kd.R_elder' (R_ HO151.out) (Kd.R_base ho0) hb)
     replace HO155 := am_ (Kd.R_elder' (R_ HO155.out) (Kd.R_base ho0) hb)
     replace HO158 := am_ (Kd.R_elder' (R_ HO158.out) (Kd.R_base ho0) hb)
     replace HO164 := am_ (Kd.R_elder' (R_ HO164.out) (Kd.R_base ho0) hb)
     replace BK141 := bb_ BK141 hb
     replace BK142 := bb_ BK142 hb
     replace BK160 := bb_ BK160 hb
     replace BK161 := bb_ BK161 hb
     replace HB := bs_ HB hb
     (try clear hb)
     (try clear hb2)
     (try clear hk)
     (try clear hi)
     (try clear ho0)
     obtain ⟨Ao51, co51, eo51⟩ := Kd.R_slice HO167.out
     (first | subst eo51 | (injection eo51 with f1_ f2_ f3_; have f4_ := f1_.symm; have f5_ := f3_.symm; clear f1_ f2_ f3_; subst f4_; subst f5_))
     refine hK.out _ _ ⟨(blk_cell BK160.out 0).trans rfl, (blk_cell BK160.out 1).trans rfl, (blk_cell BK161.out 0).trans rfl, (blk_cell BK161.out 1).trans rfl⟩ (fun hHeld => ?_)
     clear hK K
     refine norm_ (a' := ?_) ?_ ?_
     rotate_left
     ·show Act.put _ (some 39) _ = _
      simp only [Act.put, sx_, s0_, s1_, i64_w, i32_w]
      rfl
     refine ono_ (i := 10) (N := some 44) rfl rfl HT_ (by decide) (fun K hK => ?_)
     refine goes_ Try.func5 kr_ rfl #[.slice Ao51 t165.length co51, .string ((rd_T24 t149 0).f0), .string ((rd_T24 t156 0).f1)] (by rfl) rfl rfl rl_ ?_
     with_reducible refine (pairs_Set.calls _ _ t165 ((rd_T24 t149 0).f0) ((rd_T24 t156 0).f1) t168 _ ?side1 ?side2 A42.out).mono ?_
     (case side1 => exact C_ (Kd.R_reads' HO167.out).2.2)
     (case side2 => exact (Kd.R_reads' HO167.out).2.1)
     rintro e w52 ⟨v169, rfl, ho0, hb⟩
     refine ⟨_, rfl, ?_⟩
     have HO170 := am_ (Kd.R_lower (Kd.R_newB (Kd.R_newB (Kd.R_newB (Kd.R_newB (Kd.R_new' (Kd.R_new' (Kd.R_new' (Kd.R_new' (Kd.R_new' (Kd.R_new' (Kd.R_new' ho0 (Kd.R_lt (R_ HO145.out))) (Kd.R_lt (R_ HO148.out))) (Kd.R_lt (R_ HO151.out))) (Kd.R_lt (R_ HO155.out))) (Kd.R_lt (R_ HO158.out))) (Kd.R_lt (R_ HO164.out))) (Kd.R_lt (R_ HO167.out))) (g := gb141) (o := .cells #[.string a1_0, .string a1_1] 24 (0, 0)) (blk_ BK141.out)) (g := gb142) (o := .cells #[.string a2_0, .string a2_1] 24 (0, 0)) (blk_ BK142.out)) (g := gb160) (o := .cells #[.string ((rd_T24 t149 0).f0), .string ((rd_T24 t149 0).f1)] 24 (0, 0)) (blk_ BK160.out)) (g := gb161) (o := .cells #[.string ((rd_T24 t156 0).f0), .string ((rd_T24 t156 0).f1)] 24 (0, 0)) (blk_ BK161.out)) (below_size (bel_ HB.out)))
     replace HO145 := am_ (Kd.R_elder' (R_ HO145.out) (Kd.R_base ho0) hb)
     replace HO148 := am_ (Kd.R_elder' (R_ HO148.out) (Kd.R_base ho0) hb)
     replace HO151 := am_ (Kd.R_elder' (R_ HO151.out) (Kd.R_base ho0) hb)
     replace HO155 := am_ (Kd.R_elder' (R_ HO155.out) (Kd.R_base ho0) hb)
     replace HO158 := am_ (Kd.R_elder' (R_ HO158.out) (Kd.R_base ho0) hb)
     replace HO164 := am_ (Kd.R_elder' (R_ HO164.out) (Kd.R_base ho0) hb)
     replace HO167 := am_ (Kd.R_elder' (R_ HO167.out) (Kd.R_base ho0) hb)
     replace BK141 := bb_ BK141 hb
     replace BK142 := bb_ BK142 hb
     replace BK160 := bb_ BK160 hb
     replace BK161 := bb_ BK161 hb
     replace HB := bs_ HB hb
     (try clear hb)
     (try clear hb2)
     (try clear hk)
     (try clear hi)
     (try clear ho0)
     obtain ⟨Ao53, co53, eo53⟩ := Kd.R_slice HO170.out
     (first | subst eo53 | (injection eo53 with f1_ f2_ f3_; have f4_ := f1_.symm; have f5_ := f3_.symm; clear f1_ f2_ f3_; subst f4_; subst f5_))
     obtain ⟨Ao54, co54, eo54⟩ := Kd.R_slice HO164.out
     (first | subst eo54 | (injection eo54 with f1_ f2_ f3_; have f4_ := f1_.symm; have f5_ := f3_.symm; clear f1_ f2_ f3_; subst f4_; subst f5_))
     refine hK.out _ _ ⟨(blk_cell BK160.out 0).trans rfl, (blk_cell BK160.out 1).trans rfl, (blk_cell BK161.out 0).trans rfl, (blk_cell BK161.out 1).trans rfl⟩ (fun hHeld => ?_)
     clear hK K
     refine norm_ (a' := ?_) ?_ ?_
     rotate_left
     ·show Act.put _ (some 44) _ = _
      simp only [Act.put, sx_, s0_, s1_, i64_w, i32_w]
      rfl
     refine ono_ (i := 12) (N := some 46) rfl rfl HT_ (by decide) (fun K hK => ?_)
     refine goes_ Try.func6 kr_ rfl #[.slice Ao53 t168.length co53, .slice Ao54 t162.length co54] (by rfl) rfl rfl rl_ ?_
     with_reducible refine (tollref04_Same.calls k _ _ t168 _ _ t162 true _ ?side1 ?side2 ?side3 ?side4 A43.out).mono ?_
     (case side1 => exact C_ (Kd.R_reads' HO170.out).2.2)
     (case side2 => exact (Kd.R_reads' HO170.out).2.1)
     (case side3 => exact C_ (Kd.R_reads' HO164.out).2.2)
     (case side4 => exact (Kd.R_reads' HO164.out).2.1)
     rintro e w' ⟨rfl, ⟨nd, rfl⟩⟩
     refine ⟨_, rfl, ?_⟩
     refine hK.out _ _ ⟨(blk_cell BK160.out 0).trans rfl, (blk_cell BK160.out 1).trans rfl, (blk_cell BK161.out 0).trans rfl, (blk_cell BK161.out 1).trans rfl⟩ (fun hHeld => ?_)
     clear hK K
     refine norm_ (a' := ?_) ?_ ?_
     rotate_left
     ·show Act.put _ (some 46) _ = _
      simp only [Act.put, sx_, s0_, s1_, i64_w, i32_w]
      rfl
     refine pur_ (i := 13) (N := some 47) (v := ?_) (a' := ?_) rfl rfl HT_ (fun _ _ _ h => h) (Or.inl ⟨by rfl, ?_⟩) ?_ ?_
     rotate_left
     ·intro w'
      go_simp
      with_reducible rfl
     rotate_left
     ·simp only [Act.put, sx_, s0_, s1_, i64_w, i32_w]
      rfl
     refine pur_ (i := 14) (N := some 48) (v := ?_) (a' := ?_) rfl rfl HT_ (fun _ _ _ h => h) (Or.inl ⟨by rfl, ?_⟩) ?_ ?_
     rotate_left
     ·intro w'
      go_simp
      with_reducible rfl
     rotate_left
     ·simp only [Act.put, sx_, s0_, s1_, i64_w, i32_w]
      rfl
     refine pur_ (i := 15) (N := some 49) (v := ?_) (a' := ?_) rfl rfl HT_ (fun _ _ _ h => h) (Or.inl ⟨by rfl, ?_⟩) ?_ ?_
     rotate_left
     ·intro w'
      go_simp
      with_reducible rfl
     rotate_left
     ·simp only [Act.put, sx_, s0_, s1_, i64_w, i32_w]
      rfl
     refine pur_ (i := 16) (N := some 50) (v := ?_) (a' := ?_) rfl rfl HT_ (fun _ _ _ h => h) (Or.inl ⟨by rfl, ?_⟩) ?_ ?_
     rotate_left
     ·intro w'
      go_simp
      with_reducible rfl
     rotate_left
     ·simp only [Act.put, sx_, s0_, s1_, i64_w, i32_w]
      rfl
     refine pur_ (i := 19) (N := some 53) (v := ?_) (a' := ?_) rfl rfl HT_ (fun _ _ _ h => h) (Or.inl ⟨by rfl, ?_⟩) ?_ ?_
     rotate_left
     ·intro w'
      go_simp
      with_reducible rfl
     rotate_left
     ·simp only [Act.put, sx_, s0_, s1_, i64_w, i32_w]
      rfl
     refine pur_ (i := 22) (N := some 56) (v := ?_) (a' := ?_) rfl rfl HT_ (fun _ _ _ h => h) (Or.inl ⟨by rfl, ?_⟩) ?_ ?_
     rotate_left
     ·intro w'
      go_simp
      with_reducible rfl
     rotate_left
     ·simp only [Act.put, sx_, s0_, s1_, i64_w, i32_w]
      rfl
     refine pur_ (i := 23) (N := some 57) (v := ?_) (a' := ?_) rfl rfl HT_ (fun _ _ _ h => h) (Or.inl ⟨by rfl, ?_⟩) ?_ ?_
     rotate_left
     ·intro w'
      go_simp
      with_reducible rfl
     rotate_left
     ·simp only [Act.put, sx_, s0_, s1_, i64_w, i32_w]
      rfl
     refine tak_ (i := 17) (N := some 51) (v := ?_) (a' := ?_) rfl rfl HT_ HW_ (fun _ _ _ h => h) (Or.inl ⟨by rfl, ?_⟩) hHeld ?_ ?_
     rotate_left
     ·rintro w' ⟨s0, s1, s2, s3⟩
      go_simp
      with_reducible rfl
     rotate_left
     ·simp only [Act.put, sx_, s0_, s1_, i64_w, i32_w]
      rfl
     refine tak_ (i := 20) (N := some 54) (v := ?_) (a' := ?_) rfl rfl HT_ HW_ (fun _ _ _ h => h) (Or.inl ⟨by rfl, ?_⟩) hHeld ?_ ?_
     rotate_left
     ·rintro w' ⟨s0, s1, s2, s3⟩
      go_simp
      with_reducible rfl
     rotate_left
     ·simp only [Act.put, sx_, s0_, s1_, i64_w, i32_w]
      rfl
     refine tak_ (i := 24) (N := some 58) (v := ?_) (a' := ?_) rfl rfl HT_ HW_ (fun _ _ _ h => h) (Or.inl ⟨by rfl, ?_⟩) hHeld ?_ ?_
     rotate_left
     ·rintro w' ⟨s0, s1, s2, s3⟩
      go_simp
      with_reducible rfl
     rotate_left
     ·simp only [Act.put, sx_, s0_, s1_, i64_w, i32_w]
      rfl
     refine ono_ (i := 18) (N := some 52) rfl rfl HT_ (by decide) (fun K hK => ?_)
     refine goes_ Try.func7 kr_ rfl #[.slice Ao39 t143.length co39, .string ((rd_T24 t149 0).f0)] (by rfl) rfl rfl rl_ ?_
     with_reducible refine (pairs_Drop.calls _ _ t143 ((rd_T24 t149 0).f0) t172 _ ?side1 ?side2 A45.out).mono ?_
     (case side1 => exact C_ (Kd.R_reads' HO145.out).2.2)
     (case side2 => exact (Kd.R_reads' HO145.out).2.1)
     rintro e w55 ⟨v173, rfl, ho0, hb⟩
     refine ⟨_, rfl, ?_⟩
     have HO174 := am_ (Kd.R_lower (Kd.R_newB (Kd.R_newB (Kd.R_newB (Kd.R_newB (Kd.R_new' (Kd.R_new' (Kd.R_new' (Kd.R_new' (Kd.R_new' (Kd.R_new' (Kd.R_new' (Kd.R_new' ho0 (Kd.R_lt (R_ HO145.out))) (Kd.R_lt (R_ HO148.out))) (Kd.R_lt (R_ HO151.out))) (Kd.R_lt (R_ HO155.out))) (Kd.R_lt (R_ HO158.out))) (Kd.R_lt (R_ HO164.out))) (Kd.R_lt (R_ HO167.out))) (Kd.R_lt (R_ HO170.out))) (g := gb141) (o := .cells #[.string a1_0, .string a1_1] 24 (0, 0)) (blk_ BK141.out)) (g := gb142) (o := .cells #[.string a2_0, .string a2_1] 24 (0, 0)) (blk_ BK142.out)) (g := gb160) (o := .cells #[.string ((rd_T24 t149 0).f0), .string ((rd_T24 t149 0).f1)] 24 (0, 0)) (blk_ BK160.out)) (g := gb161) (o := .cells #[.string ((rd_T24 t156 0).f0), .string ((rd_T24 t156 0).f1)] 24 (0, 0)) (blk_ BK161.out)) (below_size (bel_ HB.out)))
     replace HO145 := am_ (Kd.R_elder' (R_ HO145.out) (Kd.R_base ho0) hb)
     replace HO148 := am_ (Kd.R_elder' (R_ HO148.out) (Kd.R_base ho0) hb)
     replace HO151 := am_ (Kd.R_elder' (R_ HO151.out) (Kd.R_base ho0) hb)
     replace HO155 := am_ (Kd.R_elder' (R_ HO155.out) (Kd.R_base ho0) hb)
     replace HO158 := am_ (Kd.R_elder' (R_ HO158.out) (Kd.R_base ho0) hb)
     replace HO164 := am_ (Kd.R_elder' (R_ HO164.out) (Kd.R_base ho0) hb)
     replace HO167 := am_ (Kd.R_elder' (R_ HO167.out) (Kd.R_base ho0) hb)
     replace HO170 := am_ (Kd.R_elder' (R_ HO170.out) (Kd.R_base ho0) hb)
     replace BK141 := bb_ BK141 hb
     replace BK142 := bb_ BK142 hb
     replace BK160 := bb_ BK160 hb
     replace BK161 := bb_ BK161 hb
     replace HB := bs_ HB hb
     (try clear hb)
     (try clear hb2)
     (try clear hk)
     (try clear hi)
     (try clear ho0)
     obtain ⟨Ao56, co56, eo56⟩ := Kd.R_slice HO174.out
     (first | subst eo56 | (injection eo56 with f1_ f2_ f3_; have f4_ := f1_.symm; have f5_ := f3_.symm; clear f1_ f2_ f3_; subst f4_; subst f5_))
     refine hK.out _ _ ⟨(blk_cell BK160.out 0).trans rfl, (blk_cell BK160.out 1).trans rfl, (blk_cell BK161.out 0).trans rfl, (blk_cell BK161.out 1).trans rfl⟩ (fun hHeld => ?_)
     clear hK K
     refine norm_ (a' := ?_) ?_ ?_
     rotate_left
     ·show Act.put _ (some 52) _ = _
      simp only [Act.put, sx_, s0_, s1_, i64_w, i32_w]
      rfl
     refine ono_ (i := 21) (N := some 55) rfl rfl HT_ (by decide) (fun K hK => ?_)
     refine goes_ Try.func7 kr_ rfl #[.slice Ao56 t172.length co56, .string ((rd_T24 t149 0).f0)] (by rfl) rfl rfl rl_ ?_
     with_reducible refine (pairs_Drop.calls _ _ t172 ((rd_T24 t149 0).f0) t175 _ ?side1 ?side2 A46.out).mono ?_
     (case side1 => exact C_ (Kd.R_reads' HO174.out).2.2)
     (case side2 => exact (Kd.R_reads' HO174.out).2.1)
     rintro e w57 ⟨v176, rfl, ho0, hb⟩
     refine ⟨_, rfl, ?_⟩
     have HO177 := am_ (Kd.R_lower (Kd.R_newB (Kd.R_newB (Kd.R_newB (Kd.R_newB (Kd.R_new' (Kd.R_new' (Kd.R_new' (Kd.R_new' (Kd.R_new' (Kd.R_new' (Kd.R_new' (Kd.R_new' (Kd.R_new' ho0 (Kd.R_lt (R_ HO145.out))) (Kd.R_lt (R_ HO148.out))) (Kd.R_lt (R_ HO151.out))) (Kd.R_lt (R_ HO155.out))) (Kd.R_lt (R_ HO158.out))) (Kd.R_lt (R_ HO164.out))) (Kd.R_lt (R_ HO167.out))) (Kd.R_lt (R_ HO170.out))) (Kd.R_lt (R_ HO174.out))) (g := gb141) (o := .cells #[.string a1_0, .string a1_1] 24 (0, 0)) (blk_ BK141.out)) (g := gb142) (o := .cells #[.string a2_0, .string a2_1] 24 (0, 0)) (blk_ BK142.out)) (g := gb160) (o := .cells #[.string ((rd_T24 t149 0).f0), .string ((rd_T24 t149 0).f1)] 24 (0, 0)) (blk_ BK160.out)) (g := gb161) (o := .cells #[.string ((rd_T24 t156 0).f0), .string ((rd_T24 t156 0).f1)] 24 (0, 0)) (blk_ BK161.out)) (below_size (bel_ HB.out)))
     replace HO145 := am_ (Kd.R_elder' (R_ HO145.out) (Kd.R_base ho0) hb)
     replace HO148 := am_ (Kd.R_elder' (R_ HO148.out) (Kd.R_base ho0) hb)
     replace HO151 := am_ (Kd.R_elder' (R_ HO151.out) (Kd.R_base ho0) hb)
     replace HO155 := am_ (Kd.R_elder' (R_ HO155.out) (Kd.R_base ho0) hb)
     replace HO158 := am_ (Kd.R_elder' (R_ HO158.out) (Kd.R_base ho0) hb)
     replace HO164 := am_ (Kd.R_elder' (R_ HO164.out) (Kd.R_base ho0) hb)
     replace HO167 := am_ (Kd.R_elder' (R_ HO167.out) (Kd.R_base ho0) hb)
     replace HO170 := am_ (Kd.R_elder' (R_ HO170.out) (Kd.R_base ho0) hb)
     replace HO174 := am_ (Kd.R_elder' (R_ HO174.out) (Kd.R_base ho0) hb)
     replace BK141 := bb_ BK141 hb
     replace BK142 := bb_ BK142 hb
     replace BK160 := bb_ BK160 hb
     replace BK161 := bb_ BK161 hb
     replace HB := bs_ HB hb
     (try clear hb)
     (try clear hb2)
     (try clear hk)
     (try clear hi)
     (try clear ho0)
     refine hK.out _ _ ⟨(blk_cell BK160.out 0).trans rfl, (blk_cell BK160.out 1).trans rfl, (blk_cell BK161.out 0).trans rfl, (blk_cell BK161.out 1).trans rfl⟩ (fun hHeld => ?_)
     clear hK K
     refine norm_ (a' := ?_) ?_ ?_
     rotate_left
     ·show Act.put _ (some 55) _ = _
      simp only [Act.put, sx_, s0_, s1_, i64_w, i32_w]
      rfl
     refine ono_ (i := 25) (N := some 59) rfl rfl HT_ (by decide) (fun K hK => ?_)
     refine goes_ Try.func7 kr_ rfl #[.slice Ao39 t143.length co39, .string ((rd_T24 t149 0).f0)] (by rfl) rfl rfl rl_ ?_
     with_reducible refine (pairs_Drop.calls _ _ t143 ((rd_T24 t149 0).f0) t178 _ ?side1 ?side2 A47.out).mono ?_
     (case side1 => exact C_ (Kd.R_reads' HO145.out).2.2)
     (case side2 => exact (Kd.R_reads' HO145.out).2.1)
     rintro e w58 ⟨v179, rfl, ho0, hb⟩
     refine ⟨_, rfl, ?_⟩
     have HO180 := am_ (Kd.R_lower (Kd.R_newB (Kd.R_newB (Kd.R_newB (Kd.R_newB (Kd.R_new' (Kd.R_new' (Kd.R_new' (Kd.R_new' (Kd.R_new' (Kd.R_new' (Kd.R_new' (Kd.R_new' (Kd.R_new' (Kd.R_new' ho0 (Kd.R_lt (R_ HO145.out))) (Kd.R_lt (R_ HO148.out))) (Kd.R_lt (R_ HO151.out))) (Kd.R_lt (R_ HO155.out))) (Kd.R_lt (R_ HO158.out))) (Kd.R_lt (R_ HO164.out))) (Kd.R_lt (R_ HO167.out))) (Kd.R_lt (R_ HO170.out))) (Kd.R_lt (R_ HO174.out))) (Kd.R_lt (R_ HO177.out))) (g := gb141) (o := .cells #[.string a1_0, .string a1_1] 24 (0, 0)) (blk_ BK141.out)) (g := gb142) (o := .cells #[.string a2_0, .string a2_1] 24 (0, 0)) (blk_ BK142.out)) (g := gb160) (o := .cells #[.string ((rd_T24 t149 0).f0), .string ((rd_T24 t149 0).f1)] 24 (0, 0)) (blk_ BK160.out)) (g := gb161) (o := .cells #[.string ((rd_T24 t156 0).f0), .string ((rd_T24 t156 0).f1)] 24 (0, 0)) (blk_ BK161.out)) (below_size (bel_ HB.out)))
     replace HO145 := am_ (Kd.R_elder' (R_ HO145.out) (Kd.R_base ho0) hb)
     replace HO148 := am_ (Kd.R_elder' (R_ HO148.out) (Kd.R_base ho0) hb)
     replace HO151 := am_ (Kd.R_elder' (R_ HO151.out) (Kd.R_base ho0) hb)
     replace HO155 := am_ (Kd.R_elder' (R_ HO155.out) (Kd.R_base ho0) hb)
     replace HO158 := am_ (Kd.R_elder' (R_ HO158.out) (Kd.R_base ho0) hb)
     replace HO164 := am_ (Kd.R_elder' (R_ HO164.out) (Kd.R_base ho0) hb)
     replace HO167 := am_ (Kd.R_elder' (R_ HO167.out) (Kd.R_base ho0) hb)
     replace HO170 := am_ (Kd.R_elder' (R_ HO170.out) (Kd.R_base ho0) hb)
     replace HO174 := am_ (Kd.R_elder' (R_ HO174.out) (Kd.R_base ho0) hb)
     replace HO177 := am_ (Kd.R_elder' (R_ HO177.out) (Kd.R_base ho0) hb)
     replace BK141 := bb_ BK141 hb
     replace BK142 := bb_ BK142 hb
     replace BK160 := bb_ BK160 hb
     replace BK161 := bb_ BK161 hb
     replace HB := bs_ HB hb
     (try clear hb)
     (try clear hb2)
     (try clear hk)
     (try clear hi)
     (try clear ho0)
     obtain ⟨Ao59, co59, eo59⟩ := Kd.R_slice HO177.out
     (first | subst eo59 | (injection eo59 with f1_ f2_ f3_; have f4_ := f1_.symm; have f5_ := f3_.symm; clear f1_ f2_ f3_; subst f4_; subst f5_))
     obtain ⟨Ao60, co60, eo60⟩ := Kd.R_slice HO180.out
     (first | subst eo60 | (injection eo60 with f1_ f2_ f3_; have f4_ := f1_.symm; have f5_ := f3_.symm; clear f1_ f2_ f3_; subst f4_; subst f5_))
     refine hK.out _ _ ⟨(blk_cell BK160.out 0).trans rfl, (blk_cell BK160.out 1).trans rfl, (blk_cell BK161.out 0).trans rfl, (blk_cell BK161.out 1).trans rfl⟩ (fun hHeld => ?_)
     clear hK K
     refine norm_ (a' := ?_) ?_ ?_
     rotate_left
     ·show Act.put _ (some 59) _ = _
      simp only [Act.put, sx_, s0_, s1_, i64_w, i32_w]
      rfl
     refine ono_ (i := 26) (N := some 60) rfl rfl HT_ (by decide) (fun K hK => ?_)
     refine goes_ Try.func6 kr_ rfl #[.slice Ao59 t175.length co59, .slice Ao60 t178.length co60] (by rfl) rfl rfl rl_ ?_
     with_reducible refine (tollref04_Same.calls k _ _ t175 _ _ t178 t181 _ ?side1 ?side2 ?side3 ?side4 A48.out).mono ?_
     (case side1 => exact C_ (Kd.R_reads' HO177.out).2.2)
     (case side2 => exact (Kd.R_reads' HO177.out).2.1)
     (case side3 => exact C_ (Kd.R_reads' HO180.out).2.2)
     (case side4 => exact (Kd.R_reads' HO180.out).2.1)
     rintro e w' ⟨rfl, ⟨nd, rfl⟩⟩
     refine ⟨_, rfl, ?_⟩
     refine hK.out _ _ ⟨(blk_cell BK160.out 0).trans rfl, (blk_cell BK160.out 1).trans rfl, (blk_cell BK161.out 0).trans rfl, (blk_cell BK161.out 1).trans rfl⟩ (fun hHeld => ?_)
     clear hK K
     refine norm_ (a' := ?_) ?_ ?_
     rotate_left
     ·show Act.put _ (some 60) _ = _
      simp only [Act.put, sx_, s0_, s1_, i64_w, i32_w]
      rfl
     refine pur_ (i := 27) (N := some 61) (v := ?_) (a' := ?_) rfl rfl HT_ (fun _ _ _ h => h) (Or.inl ⟨by rfl, ?_⟩) ?_ ?_
     rotate_left
     ·intro w'
      go_simp
      with_reducible rfl
     rotate_left
     ·simp only [Act.put, sx_, s0_, s1_, i64_w, i32_w]
      rfl
     refine pur_ (i := 28) (N := some 62) (v := ?_) (a' := ?_) rfl rfl HT_ (fun _ _ _ h => h) (Or.inl ⟨by rfl, ?_⟩) ?_ ?_
     rotate_left
     ·intro w'
      go_simp
      with_reducible rfl
     rotate_left
     ·simp only [Act.put, sx_, s0_, s1_, i64_w, i32_w]
      rfl
     refine done_ (done_of HT_.out kr_) ?_
     try go_wp2
     go_meet
     case rel => exact ⟨_, (!t181), sd_, H', ⟨le_⟩, ⟨by (with_reducible repeat (first | apply Kd.R_alloc | apply Kd.R_drewN | apply Kd.R_drew)); exact Kd.R_mono HO145.out (fun _ hk => ⟨hk.1.1.1.1.1.1.2.2.2.2.1, ⟨hk.1.1.1.1.1.1.2.2.2.2.2.1, ⟨hk.1.1.1.1.1.1.2.2.2.2.2.2.1, hk.1.1.1.1.1.1.2.2.2.2.2.2.2⟩⟩⟩)⟩, ⟨blk_ BK141.out⟩, ⟨blk_ BK142.out⟩, ⟨blk_ BK160.out⟩, ⟨blk_ BK161.out⟩, ⟨bel_ HB.out⟩⟩
    ·replace c44 := Bool.eq_false_iff.mpr c44
     subst c44
     replace H := iff_ H
     cases H
   case rest =>
    clear HC10
    obtain ⟨kq, x62_9, rfl, HA, HJ9, HO_0, BK141, BK142, BK160, BK161, HB⟩ := hcut
    cases kq with
    | zero => exact absurd HA.out (by simp [tolllaw05_PairsTwice.j0])
    | succ kj9 =>
     have H := HA.out
     clear HA
     simp only [tolllaw05_PairsTwice.j0] at H
     by_cases c61 : x62_9 = true
     ·subst c61
      replace H := ift_ H
      cases H
     ·replace c61 := Bool.eq_false_iff.mpr c61
      subst c61
      replace H := iff_ H
      obtain ⟨t182, A62, H⟩ := bnd_ H
      obtain ⟨t185, A63, H⟩ := bnd_ H
      obtain ⟨t188, A64, H⟩ := bnd_ H
      obtain ⟨t191, A65, H⟩ := bnd_ H
      obtain ⟨t194, A66, H⟩ := bnd_ H
      by_cases c67 : t194 = true
      ·subst c67
       replace H := ift_ H
       obtain ⟨t195, A68, H⟩ := bnd_ H
       obtain rfl := Option.some.inj H
       try go_wp2
       replace HO_0 := am_ (Kd.R_drew HO_0.out)
       replace BK141 := am_ (blk_drew BK141.out)
       replace BK142 := am_ (blk_drew BK142.out)
       replace BK160 := am_ (blk_drew BK160.out)
       replace BK161 := am_ (blk_drew BK161.out)
       replace HB := am_ (below_drew1 HB.out)
       refine start_ (n := 12) (S := fun w' => w'.cell? ⟨gb160, 0, none⟩ = some (.string ((rd_T24 t149 0).f0)) ∧ w'.cell? ⟨gb160, 1, none⟩ = some (.string ((rd_T24 t149 0).f1)) ∧ w'.cell? ⟨gb161, 0, none⟩ = some (.string ((rd_T24 t156 0).f0)) ∧ w'.cell? ⟨gb161, 1, none⟩ = some (.string ((rd_T24 t156 0).f1))) (ds := []) #[false, false, false, false, false, false, false, false, false, false, false, false] kr_ rfl rfl ⟨(blk_cell BK160.out 0).trans rfl, (blk_cell BK160.out 1).trans rfl, (blk_cell BK161.out 0).trans rfl, (blk_cell BK161.out 1).trans rfl⟩ (fun hHeld => ?_); refine with_tabW tolllaw05_PairsTwice.tab6 tolllaw05_PairsTwice.bits6 (fun HT_ HW_ => ?_)
       generalize wc.drew = w69 at HO_0 BK141 BK142 BK160 BK161 HB hHeld ⊢
       refine pur_ (i := 0) (N := some 63) (v := ?_) (a' := ?_) rfl rfl HT_ (fun _ _ _ h => h) (Or.inl ⟨by rfl, ?_⟩) ?_ ?_
       rotate_left
       ·intro w'
        go_simp
        with_reducible rfl
       rotate_left
       ·simp only [Act.put, sx_, s0_, s1_, i64_w, i32_w]
        rfl
       refine pur_ (i := 1) (N := some 64) (v := ?_) (a' := ?_) rfl rfl HT_ (fun _ _ _ h => h) (Or.inl ⟨by rfl, ?_⟩) ?_ ?_
       rotate_left
       ·intro w'
        go_simp
        with_reducible rfl
       rotate_left
       ·simp only [Act.put, sx_, s0_, s1_, i64_w, i32_w]
        rfl
       refine pur_ (i := 3) (N := some 66) (v := ?_) (a' := ?_) rfl rfl HT_ (fun _ _ _ h => h) (Or.inl ⟨by rfl, ?_⟩) ?_ ?_
       rotate_left
       ·intro w'
        go_simp
        with_reducible rfl
       rotate_left
       ·simp only [Act.put, sx_, s0_, s1_, i64_w, i32_w]
        rfl
       refine pur_ (i := 6) (N := some 69) (v := ?_) (a' := ?_) rfl rfl HT_ (fun _ _ _ h => h) (Or.inl ⟨by rfl, ?_⟩) ?_ ?_
       rotate_left
       ·intro w'
        go_simp
        with_reducible rfl
       rotate_left
       ·simp only [Act.put, sx_, s0_, s1_, i64_w, i32_w]
        rfl
       refine pur_ (i := 8) (N := some 71) (v := ?_) (a' := ?_) rfl rfl HT_ (fun _ _ _ h => h) (Or.inl ⟨by rfl, ?_⟩) ?_ ?_
       rotate_left
       ·intro w'
        go_simp
        with_reducible rfl
       rotate_left
       ·simp only [Act.put, sx_, s0_, s1_, i64_w, i32_w]
        rfl
       refine tak_ (i := 2) (N := some 65) (v := ?_) (a' := ?_) rfl rfl HT_ HW_ (fun _ _ _ h => h) (Or.inl ⟨by rfl, ?_⟩) hHeld ?_ ?_
       rotate_left
       ·rintro w' ⟨s0, s1, s2, s3⟩
        go_simp
        with_reducible rfl
       rotate_left
       ·simp only [Act.put, sx_, s0_, s1_, i64_w, i32_w]
        rfl
       refine tak_ (i := 4) (N := some 67) (v := ?_) (a' := ?_) rfl rfl HT_ HW_ (fun _ _ _ h => h) (Or.inl ⟨by rfl, ?_⟩) hHeld ?_ ?_
       rotate_left
       ·rintro w' ⟨s0, s1, s2, s3⟩
        go_simp
        with_reducible rfl
       rotate_left
       ·simp only [Act.put, sx_, s0_, s1_, i64_w, i32_w]
        rfl
       refine tak_ (i := 7) (N := some 70) (v := ?_) (a' := ?_) rfl rfl HT_ HW_ (fun _ _ _ h => h) (Or.inl ⟨by rfl, ?_⟩) hHeld ?_ ?_
       rotate_left
       ·rintro w' ⟨s0, s1, s2, s3⟩
        go_simp
        with_reducible rfl
       rotate_left
       ·simp only [Act.put, sx_, s0_, s1_, i64_w, i32_w]
        rfl
       refine tak_ (i := 9) (N := some 72) (v := ?_) (a' := ?_) rfl rfl HT_ HW_ (fun _ _ _ h => h) (Or.inl ⟨by rfl, ?_⟩) hHeld ?_ ?_
       rotate_left
       ·rintro w' ⟨s0, s1, s2, s3⟩
        go_simp
        with_reducible rfl
       rotate_left
       ·simp only [Act.put, sx_, s0_, s1_, i64_w, i32_w]
        rfl
       refine ono_ (i := 5) (N := some 68) rfl rfl HT_ (by decide) (fun K hK => ?_)
       refine goes_ Try.func5 kr_ rfl #[.slice Ao39 t143.length co39, .string ((rd_T24 t149 0).f0), .string ((rd_T24 t149 0).f1)] (by rfl) rfl rfl rl_ ?_
       with_reducible refine (pairs_Set.calls _ _ t143 ((rd_T24 t149 0).f0) ((rd_T24 t149 0).f1) t182 _ ?side1 ?side2 A62.out).mono ?_
       (case side1 => exact C_ (Kd.R_reads' HO_0.out).2.2)
       (case side2 => exact (Kd.R_reads' HO_0.out).2.1)
       rintro e w70 ⟨v183, rfl, ho0, hb⟩
       refine ⟨_, rfl, ?_⟩
       have HO184 := am_ (Kd.R_lower (Kd.R_newB (Kd.R_newB (Kd.R_newB (Kd.R_newB (Kd.R_new' ho0 (Kd.R_lt (R_ HO_0.out))) (g := gb141) (o := .cells #[.string a1_0, .string a1_1] 24 (0, 0)) (blk_ BK141.out)) (g := gb142) (o := .cells #[.string a2_0, .string a2_1] 24 (0, 0)) (blk_ BK142.out)) (g := gb160) (o := .cells #[.string ((rd_T24 t149 0).f0), .string ((rd_T24 t149 0).f1)] 24 (0, 0)) (blk_ BK160.out)) (g := gb161) (o := .cells #[.string ((rd_T24 t156 0).f0), .string ((rd_T24 t156 0).f1)] 24 (0, 0)) (blk_ BK161.out)) (below_size (bel_ HB.out)))
       replace HO_0 := am_ (Kd.R_elder' (R_ HO_0.out) (Kd.R_base ho0) hb)
       replace BK141 := bb_ BK141 hb
       replace BK142 := bb_ BK142 hb
       replace BK160 := bb_ BK160 hb
       replace BK161 := bb_ BK161 hb
       replace HB := bs_ HB hb
       (try clear hb)
       (try clear hb2)
       (try clear hk)
       (try clear hi)
       (try clear ho0)
       obtain ⟨Ao71, co71, eo71⟩ := Kd.R_slice HO184.out
       (first | subst eo71 | (injection eo71 with f1_ f2_ f3_; have f4_ := f1_.symm; have f5_ := f3_.symm; clear f1_ f2_ f3_; subst f4_; subst f5_))
       refine hK.out _ _ ⟨(blk_cell BK160.out 0).trans rfl, (blk_cell BK160.out 1).trans rfl, (blk_cell BK161.out 0).trans rfl, (blk_cell BK161.out 1).trans rfl⟩ (fun hHeld => ?_)
       clear hK K
       refine norm_ (a' := ?_) ?_ ?_
       rotate_left
       ·show Act.put _ (some 68) _ = _
        simp only [Act.put, sx_, s0_, s1_, i64_w, i32_w]
        rfl
       refine ono_ (i := 10) (N := some 73) rfl rfl HT_ (by decide) (fun K hK => ?_)
       refine goes_ Try.func5 kr_ rfl #[.slice Ao71 t182.length co71, .string ((rd_T24 t156 0).f0), .string ((rd_T24 t156 0).f1)] (by rfl) rfl rfl rl_ ?_
       with_reducible refine (pairs_Set.calls _ _ t182 ((rd_T24 t156 0).f0) ((rd_T24 t156 0).f1) t185 _ ?side1 ?side2 A63.out).mono ?_
       (case side1 => exact C_ (Kd.R_reads' HO184.out).2.2)
       (case side2 => exact (Kd.R_reads' HO184.out).2.1)
       rintro e w72 ⟨v186, rfl, ho0, hb⟩
       refine ⟨_, rfl, ?_⟩
       have HO187 := am_ (Kd.R_lower (Kd.R_newB (Kd.R_newB (Kd.R_newB (Kd.R_newB (Kd.R_new' (Kd.R_new' ho0 (Kd.R_lt (R_ HO_0.out))) (Kd.R_lt (R_ HO184.out))) (g := gb141) (o := .cells #[.string a1_0, .string a1_1] 24 (0, 0)) (blk_ BK141.out)) (g := gb142) (o := .cells #[.string a2_0, .string a2_1] 24 (0, 0)) (blk_ BK142.out)) (g := gb160) (o := .cells #[.string ((rd_T24 t149 0).f0), .string ((rd_T24 t149 0).f1)] 24 (0, 0)) (blk_ BK160.out)) (g := gb161) (o := .cells #[.string ((rd_T24 t156 0).f0), .string ((rd_T24 t156 0).f1)] 24 (0, 0)) (blk_ BK161.out)) (below_size (bel_ HB.out)))
       replace HO_0 := am_ (Kd.R_elder' (R_ HO_0.out) (Kd.R_base ho0) hb)
       replace HO184 := am_ (Kd.R_elder' (R_ HO184.out) (Kd.R_base ho0) hb)
       replace BK141 := bb_ BK141 hb
       replace BK142 := bb_ BK142 hb
       replace BK160 := bb_ BK160 hb
       replace BK161 := bb_ BK161 hb
       replace HB := bs_ HB hb
       (try clear hb)
       (try clear hb2)
       (try clear hk)
       (try clear hi)
       (try clear ho0)
       refine hK.out _ _ ⟨(blk_cell BK160.out 0).trans rfl, (blk_cell BK160.out 1).trans rfl, (blk_cell BK161.out 0).trans rfl, (blk_cell BK161.out 1).trans rfl⟩ (fun hHeld => ?_)
       clear hK K
       refine norm_ (a' := ?_) ?_ ?_
       rotate_left
       ·show Act.put _ (some 73) _ = _
        simp only [Act.put, sx_, s0_, s1_, i64_w, i32_w]
        rfl
       refine pur_ (i := 11) (N := some 10) (v := ?_) (a' := ?_) rfl rfl HT_ (fun _ _ _ h => h) (Or.inl ⟨by rfl, ?_⟩) ?_ ?_
       rotate_left
       ·intro w'
        go_simp
        with_reducible rfl
       rotate_left
       ·simp only [Act.put, sx_, s0_, s1_, i64_w, i32_w]
        rfl
       refine done_ (done_of HT_.out kr_) ?_
       try go_wp2
       replace HO_0 := am_ (Kd.R_drew HO_0.out)
       replace HO184 := am_ (Kd.R_drew HO184.out)
       replace HO187 := am_ (Kd.R_drew HO187.out)
       replace BK141 := am_ (blk_drew BK141.out)
       replace BK142 := am_ (blk_drew BK142.out)
       replace BK160 := am_ (blk_drew BK160.out)
       replace BK161 := am_ (blk_drew BK161.out)
       replace HB := am_ (below_drew1 HB.out)
       refine start_ (n := 12) (S := fun w' => w'.cell? ⟨gb161, 0, none⟩ = some (.string ((rd_T24 t156 0).f0)) ∧ w'.cell? ⟨gb161, 1, none⟩ = some (.string ((rd_T24 t156 0).f1)) ∧ w'.cell? ⟨gb160, 0, none⟩ = some (.string ((rd_T24 t149 0).f0)) ∧ w'.cell? ⟨gb160, 1, none⟩ = some (.string ((rd_T24 t149 0).f1))) (ds := []) #[false, false, false, false, false, false, false, false, false, false, false, false] kr_ rfl rfl ⟨(blk_cell BK161.out 0).trans rfl, (blk_cell BK161.out 1).trans rfl, (blk_cell BK160.out 0).trans rfl, (blk_cell BK160.out 1).trans rfl⟩ (fun hHeld => ?_); refine with_tabW tolllaw05_PairsTwice.tab7 tolllaw05_PairsTwice.bits7 (fun HT_ HW_ => ?_)
       generalize w72.drew = w73 at HO_0 HO184 HO187 BK141 BK142 BK160 BK161 HB hHeld ⊢
       refine pur_ (i := 0) (N := some 74) (v := ?_) (a' := ?_) rfl rfl HT_ (fun _ _ _ h => h) (Or.inl ⟨by rfl, ?_⟩) ?_ ?_
       rotate_left
       ·intro w'
        go_simp
        with_reducible rfl
       rotate_left
       ·simp only [Act.put, sx_, s0_, s1_, i64_w, i32_w]
        rfl
       refine pur_ (i := 1) (N := some 75) (v := ?_) (a' := ?_) rfl rfl HT_ (fun _ _ _ h => h) (Or.inl ⟨by rfl, ?_⟩) ?_ ?_
       rotate_left
       ·intro w'
        go_simp
        with_reducible rfl
       rotate_left
       ·simp only [Act.put, sx_, s0_, s1_, i64_w, i32_w]
        rfl
       refine pur_ (i := 3) (N := some 77) (v := ?_) (a' := ?_) rfl rfl HT_ (fun _ _ _ h => h) (Or.inl ⟨by rfl, ?_⟩) ?_ ?_
       rotate_left
       ·intro w'
        go_simp
        with_reducible rfl
       rotate_left
       ·simp only [Act.put, sx_, s0_, s1_, i64_w, i32_w]
        rfl
       refine pur_ (i := 6) (N := some 80) (v := ?_) (a' := ?_) rfl rfl HT_ (fun _ _ _ h => h) (Or.inl ⟨by rfl, ?_⟩) ?_ ?_
       rotate_left
       ·intro w'
        go_simp
        with_reducible rfl
       rotate_left
       ·simp only [Act.put, sx_, s0_, s1_, i64_w, i32_w]
        rfl
       refine pur_ (i := 8) (N := some 82) (v := ?_) (a' := ?_) rfl rfl HT_ (fun _ _ _ h => h) (Or.inl ⟨by rfl, ?_⟩) ?_ ?_
       rotate_left
       ·intro w'
        go_simp
        with_reducible rfl
       rotate_left
       ·simp only [Act.put, sx_, s0_, s1_, i64_w, i32_w]
        rfl
       refine tak_ (i := 2) (N := some 76) (v := ?_) (a' := ?_) rfl rfl HT_ HW_ (fun _ _ _ h => h) (Or.inl ⟨by rfl, ?_⟩) hHeld ?_ ?_
       rotate_left
       ·rintro w' ⟨s0, s1, s2, s3⟩
        go_simp
        with_reducible rfl
       rotate_left
       ·simp only [Act.put, sx_, s0_, s1_, i64_w, i32_w]
        rfl
       refine tak_ (i := 4) (N := some 78) (v := ?_) (a' := ?_) rfl rfl HT_ HW_ (fun _ _ _ h => h) (Or.inl ⟨by rfl, ?_⟩) hHeld ?_ ?_
       rotate_left
       ·rintro w' ⟨s0, s1, s2, s3⟩
        go_simp
        with_reducible rfl
       rotate_left
       ·simp only [Act.put, sx_, s0_, s1_, i64_w, i32_w]
        rfl
       refine tak_ (i := 7) (N := some 81) (v := ?_) (a' := ?_) rfl rfl HT_ HW_ (fun _ _ _ h => h) (Or.inl ⟨by rfl, ?_⟩) hHeld ?_ ?_
       rotate_left
       ·rintro w' ⟨s0, s1, s2, s3⟩
        go_simp
        with_reducible rfl
       rotate_left
       ·simp only [Act.put, sx_, s0_, s1_, i64_w, i32_w]
        rfl
       refine tak_ (i := 9) (N := some 83) (v := ?_) (a' := ?_) rfl rfl HT_ HW_ (fun _ _ _ h => h) (Or.inl ⟨by rfl, ?_⟩) hHeld ?_ ?_
       rotate_left
       ·rintro w' ⟨s0, s1, s2, s3⟩
        go_simp
        with_reducible rfl
       rotate_left
       ·simp only [Act.put, sx_, s0_, s1_, i64_w, i32_w]
        rfl
       refine ono_ (i := 5) (N := some 79) rfl rfl HT_ (by decide) (fun K hK => ?_)
       refine goes_ Try.func5 kr_ rfl #[.slice Ao39 t143.length co39, .string ((rd_T24 t156 0).f0), .string ((rd_T24 t156 0).f1)] (by rfl) rfl rfl rl_ ?_
       with_reducible refine (pairs_Set.calls _ _ t143 ((rd_T24 t156 0).f0) ((rd_T24 t156 0).f1) t188 _ ?side1 ?side2 A64.out).mono ?_
       (case side1 => exact C_ (Kd.R_reads' HO_0.out).2.2)
       (case side2 => exact (Kd.R_reads' HO_0.out).2.1)
       rintro e w74 ⟨v189, rfl, ho0, hb⟩
       refine ⟨_, rfl, ?_⟩
       have HO190 := am_ (Kd.R_lower (Kd.R_newB (Kd.R_newB (Kd.R_newB (Kd.R_newB (Kd.R_new' (Kd.R_new' (Kd.R_new' ho0 (Kd.R_lt (R_ HO_0.out))) (Kd.R_lt (R_ HO184.out))) (Kd.R_lt (R_ HO187.out))) (g := gb141) (o := .cells #[.string a1_0, .string a1_1] 24 (0, 0)) (blk_ BK141.out)) (g := gb142) (o := .cells #[.string a2_0, .string a2_1] 24 (0, 0)) (blk_ BK142.out)) (g := gb160) (o := .cells #[.string ((rd_T24 t149 0).f0), .string ((rd_T24 t149 0).f1)] 24 (0, 0)) (blk_ BK160.out)) (g := gb161) (o := .cells #[.string ((rd_T24 t156 0).f0), .string ((rd_T24 t156 0).f1)] 24 (0, 0)) (blk_ BK161.out)) (below_size (bel_ HB.out)))
       replace HO_0 := am_ (Kd.R_elder' (R_ HO_0.out) (Kd.R_base ho0) hb)
       replace HO184 := am_ (Kd.R_elder' (R_ HO184.out) (Kd.R_base ho0) hb)
       replace HO187 := am_ (Kd.R_elder' (R_ HO187.out) (Kd.R_base ho0) hb)
       replace BK141 := bb_ BK141 hb
       replace BK142 := bb_ BK142 hb
       replace BK160 := bb_ BK160 hb
       replace BK161 := bb_ BK161 hb
       replace HB := bs_ HB hb
       (try clear hb)
       (try clear hb2)
       (try clear hk)
       (try clear hi)
       (try clear ho0)
       obtain ⟨Ao75, co75, eo75⟩ := Kd.R_slice HO190.out
       (first | subst eo75 | (injection eo75 with f1_ f2_ f3_; have f4_ := f1_.symm; have f5_ := f3_.symm; clear f1_ f2_ f3_; subst f4_; subst f5_))
       refine hK.out _ _ ⟨(blk_cell BK161.out 0).trans rfl, (blk_cell BK161.out 1).trans rfl, (blk_cell BK160.out 0).trans rfl, (blk_cell BK160.out 1).trans rfl⟩ (fun hHeld => ?_)
       clear hK K
       refine norm_ (a' := ?_) ?_ ?_
       rotate_left
       ·show Act.put _ (some 79) _ = _
        simp only [Act.put, sx_, s0_, s1_, i64_w, i32_w]
        rfl
       refine ono_ (i := 10) (N := some 84) rfl rfl HT_ (by decide) (fun K hK => ?_)
       refine goes_ Try.func5 kr_ rfl #[.slice Ao75 t188.length co75, .string ((rd_T24 t149 0).f0), .string ((rd_T24 t149 0).f1)] (by rfl) rfl rfl rl_ ?_
       with_reducible refine (pairs_Set.calls _ _ t188 ((rd_T24 t149 0).f0) ((rd_T24 t149 0).f1) t191 _ ?side1 ?side2 A65.out).mono ?_
       (case side1 => exact C_ (Kd.R_reads' HO190.out).2.2)
       (case side2 => exact (Kd.R_reads' HO190.out).2.1)
       rintro e w76 ⟨v192, rfl, ho0, hb⟩
       refine ⟨_, rfl, ?_⟩
       have HO193 := am_ (Kd.R_lower (Kd.R_newB (Kd.R_newB (Kd.R_newB (Kd.R_newB (Kd.R_new' (Kd.R_new' (Kd.R_new' (Kd.R_new' ho0 (Kd.R_lt (R_ HO_0.out))) (Kd.R_lt (R_ HO184.out))) (Kd.R_lt (R_ HO187.out))) (Kd.R_lt (R_ HO190.out))) (g := gb141) (o := .cells #[.string a1_0, .string a1_1] 24 (0, 0)) (blk_ BK141.out)) (g := gb142) (o := .cells #[.string a2_0, .string a2_1] 24 (0, 0)) (blk_ BK142.out)) (g := gb160) (o := .cells #[.string ((rd_T24 t149 0).f0), .string ((rd_T24 t149 0).f1)] 24 (0, 0)) (blk_ BK160.out)) (g := gb161) (o := .cells #[.string ((rd_T24 t156 0).f0), .string ((rd_T24 t156 0).f1)] 24 (0, 0)) (blk_ BK161.out)) (below_size (bel_ HB.out)))
       replace HO_0 := am_ (Kd.R_elder' (R_ HO_0.out) (Kd.R_base ho0) hb)
       replace HO184 := am_ (Kd.R_elder' (R_ HO184.out) (Kd.R_base ho0) hb)
       replace HO187 := am_ (Kd.R_elder' (R_ HO187.out) (Kd.R_base ho0) hb)
       replace HO190 := am_ (Kd.R_elder' (R_ HO190.out) (Kd.R_base ho0) hb)
       replace BK141 := bb_ BK141 hb
       replace BK142 := bb_ BK142 hb
       replace BK160 := bb_ BK160 hb
       replace BK161 := bb_ BK161 hb
       replace HB := bs_ HB hb
       (try clear hb)
       (try clear hb2)
       (try clear hk)
       (try clear hi)
       (try clear ho0)
       refine hK.out _ _ ⟨(blk_cell BK161.out 0).trans rfl, (blk_cell BK161.out 1).trans rfl, (blk_cell BK160.out 0).trans rfl, (blk_cell BK160.out 1).trans rfl⟩ (fun hHeld => ?_)
       clear hK K
       refine norm_ (a' := ?_) ?_ ?_
       rotate_left
       ·show Act.put _ (some 84) _ = _
        simp only [Act.put, sx_, s0_, s1_, i64_w, i32_w]
        rfl
       refine pur_ (i := 11) (N := some 11) (v := ?_) (a' := ?_) rfl rfl HT_ (fun _ _ _ h => h) (Or.inl ⟨by rfl, ?_⟩) ?_ ?_
       rotate_left
       ·intro w'
        go_simp
        with_reducible rfl
       rotate_left
       ·simp only [Act.put, sx_, s0_, s1_, i64_w, i32_w]
        rfl
       refine done_ (done_of HT_.out kr_) ?_
       have hnb77 := NB160_141.out
       have hnc77 := NB141_160.out
       have hnb78 := NB160_142.out
       have hnc78 := NB142_160.out
       have hnb79 := NB160_161.out
       have hnc79 := NB161_160.out
       have hcz80_0 : w76.cell? ⟨gb160, 0, none⟩ = some (.string ((rd_T24 t149 0).f0)) := (blk_cell BK160.out 0).trans rfl
       have hcz80_1 : w76.cell? ⟨gb160, 1, none⟩ = some (.string ((rd_T24 t149 0).f1)) := (blk_cell BK160.out 1).trans rfl
       have hfz80_0 := blk_frozen BK160.out 0
       have hfz80_1 := blk_frozen BK160.out 1
       have hnb81 := NB161_141.out
       have hnc81 := NB141_161.out
       have hnb82 := NB161_142.out
       have hnc82 := NB142_161.out
       have hcz83_0 : w76.cell? ⟨gb161, 0, none⟩ = some (.string ((rd_T24 t156 0).f0)) := (blk_cell BK161.out 0).trans rfl
       have hcz83_1 : w76.cell? ⟨gb161, 1, none⟩ = some (.string ((rd_T24 t156 0).f1)) := (blk_cell BK161.out 1).trans rfl
       have hfz83_0 := blk_frozen BK161.out 0
       have hfz83_1 := blk_frozen BK161.out 1
       try go_wp2_with (first | ((with_reducible refine gate_callee (f := 8) rfl ?_); refine goesL_ (some 89) rfl rfl Try.func8 kr_ rfl #[.string ((rd_T24 t149 0).f0), .string ((rd_T24 t156 0).f0)] rfl rl_ ?_; (with_reducible refine (pairs_Same.calls ((rd_T24 t149 0).f0) ((rd_T24 t156 0).f0) true _ A66.out).mono ?_); rintro e w84 ⟨rfl, hb⟩; refine ⟨_, rfl, ?_⟩; replace HO_0 := rb_ HO_0 hb; replace HO184 := rb_ HO184 hb; replace HO187 := rb_ HO187 hb; replace HO190 := rb_ HO190 hb; replace HO193 := rb_ HO193 hb; replace BK141 := bb_ BK141 hb; replace BK142 := bb_ BK142 hb; replace BK160 := bb_ BK160 hb; replace BK161 := bb_ BK161 hb; replace HB := bs_ HB hb; (try clear hb)) | ((with_reducible refine gate_callee (f := 9) rfl ?_); refine goesL_ (some 90) rfl rfl Try.func9 kr_ rfl #[] rfl rl_ ?_; (with_reducible refine (tolllaw05_awake.calls kj9  t195 _ A68.out).mono ?_); rintro e w85 ⟨rfl, hb⟩; refine ⟨_, rfl, ?_⟩; replace HO_0 := rb_ HO_0 hb; replace HO184 := rb_ HO184 hb; replace HO187 := rb_ HO187 hb; replace HO190 := rb_ HO190 hb; replace HO193 := rb_ HO193 hb; replace BK141 := bb_ BK141 hb; replace BK142 := bb_ BK142 hb; replace BK160 := bb_ BK160 hb; replace BK161 := bb_ BK161 hb; replace HB := bs_ HB hb; (try clear hb)))
       go_ret
       exact ⟨fi_, bel_ HB.out⟩
      ·replace c67 := Bool.eq_false_iff.mpr c67
       subst c67
       replace H := iff_ H
       obtain ⟨⟨t196, t197⟩, A86, H⟩ := bnd_ H
       replace H : ((pairs_Get.f t191 ((rd_T24 t149 0).f0)).bind fun bt198 => (if (t185.length : Int) = (t191.length : Int) then (if t196.toList = ((rd_T24 t149 0).f1).toList then (if bt198.1.toList = ((rd_T24 t149 0).f1).toList then ((tolllaw05_awake.f kj9).bind fun t200 => (some t200)) else (none)) else (none)) else (none))) = some r := H
       obtain ⟨⟨t198, t199⟩, A87, H⟩ := bnd_ H
       replace H : (if (t185.length : Int) = (t191.length : Int) then (if t196.toList = ((rd_T24 t149 0).f1).toList then (if t198.toList = ((rd_T24 t149 0).f1).toList then ((tolllaw05_awake.f kj9).bind fun t200 => (some t200)) else (none)) else (none)) else (none)) = some r := H
       by_cases c88 : (t185.length : Int) = (t191.length : Int)
       ·rw [if_pos c88] at H
        have c88b0 := eqb_ c88
        have c88b1 := neb_ c88
        have c88b2 : (t185.length == t191.length) = true := by first | simpa using c88 | (simp at c88 ⊢; omega)
        clear c88
        by_cases c89 : t196.toList = ((rd_T24 t149 0).f1).toList
        ·rw [if_pos c89] at H
         have c89b0 := eqb_ c89
         have c89b1 := neb_ c89
         clear c89
         by_cases c90 : t198.toList = ((rd_T24 t149 0).f1).toList
         ·rw [if_pos c90] at H
          have c90b0 := eqb_ c90
          have c90b1 := neb_ c90
          clear c90
          obtain ⟨t200, A91, H⟩ := bnd_ H
          obtain rfl := Option.some.inj H
          try go_wp2
          replace HO_0 := am_ (Kd.R_drew HO_0.out)
          replace BK141 := am_ (blk_drew BK141.out)
          replace BK142 := am_ (blk_drew BK142.out)
          replace BK160 := am_ (blk_drew BK160.out)
          replace BK161 := am_ (blk_drew BK161.out)
          replace HB := am_ (below_drew1 HB.out)
          refine start_ (n := 12) (S := fun w' => w'.cell? ⟨gb160, 0, none⟩ = some (.string ((rd_T24 t149 0).f0)) ∧ w'.cell? ⟨gb160, 1, none⟩ = some (.string ((rd_T24 t149 0).f1)) ∧ w'.cell? ⟨gb161, 0, none⟩ = some (.string ((rd_T24 t156 0).f0)) ∧ w'.cell? ⟨gb161, 1, none⟩ = some (.string ((rd_T24 t156 0).f1))) (ds := []) #[false, false, false, false, false, false, false, false, false, false, false, false] kr_ rfl rfl ⟨(blk_cell BK160.out 0).trans rfl, (blk_cell BK160.out 1).trans rfl, (blk_cell BK161.out 0).trans rfl, (blk_cell BK161.out 1).trans rfl⟩ (fun hHeld => ?_); refine with_tabW tolllaw05_PairsTwice.tab6 tolllaw05_PairsTwice.bits6 (fun HT_ HW_ => ?_)
          generalize wc.drew = w92 at HO_0 BK141 BK142 BK160 BK161 HB hHeld ⊢
          refine pur_ (i := 0) (N := some 63) (v := ?_) (a' := ?_) rfl rfl HT_ (fun _ _ _ h => h) (Or.inl ⟨by rfl, ?_⟩) ?_ ?_
          rotate_left
          ·intro w'
           go_simp
           with_reducible rfl
          rotate_left
          ·simp only [Act.put, sx_, s0_, s1_, i64_w, i32_w]
           rfl
          refine pur_ (i := 1) (N := some 64) (v := ?_) (a' := ?_) rfl rfl HT_ (fun _ _ _ h => h) (Or.inl ⟨by rfl, ?_⟩) ?_ ?_
          rotate_left
          ·intro w'
           go_simp
           with_reducible rfl
          rotate_left
          ·simp only [Act.put, sx_, s0_, s1_, i64_w, i32_w]
           rfl
          refine pur_ (i := 3) (N := some 66) (v := ?_) (a' := ?_) rfl rfl HT_ (fun _ _ _ h => h) (Or.inl ⟨by rfl, ?_⟩) ?_ ?_
          rotate_left
          ·intro w'
           go_simp
           with_reducible rfl
          rotate_left
          ·simp only [Act.put, sx_, s0_, s1_, i64_w, i32_w]
           rfl
          refine pur_ (i := 6) (N := some 69) (v := ?_) (a' := ?_) rfl rfl HT_ (fun _ _ _ h => h) (Or.inl ⟨by rfl, ?_⟩) ?_ ?_
          rotate_left
          ·intro w'
           go_simp
           with_reducible rfl
          rotate_left
          ·simp only [Act.put, sx_, s0_, s1_, i64_w, i32_w]
           rfl
          refine pur_ (i := 8) (N := some 71) (v := ?_) (a' := ?_) rfl rfl HT_ (fun _ _ _ h => h) (Or.inl ⟨by rfl, ?_⟩) ?_ ?_
          rotate_left
          ·intro w'
           go_simp
           with_reducible rfl
          rotate_left
          ·simp only [Act.put, sx_, s0_, s1_, i64_w, i32_w]
           rfl
          refine tak_ (i := 2) (N := some 65) (v := ?_) (a' := ?_) rfl rfl HT_ HW_ (fun _ _ _ h => h) (Or.inl ⟨by rfl, ?_⟩) hHeld ?_ ?_
          rotate_left
          ·rintro w' ⟨s0, s1, s2, s3⟩
           go_simp
           with_reducible rfl
          rotate_left
          ·simp only [Act.put, sx_, s0_, s1_, i64_w, i32_w]
           rfl
          refine tak_ (i := 4) (N := some 67) (v := ?_) (a' := ?_) rfl rfl HT_ HW_ (fun _ _ _ h => h) (Or.inl ⟨by rfl, ?_⟩) hHeld ?_ ?_
          rotate_left
          ·rintro w' ⟨s0, s1, s2, s3⟩
           go_simp
           with_reducible rfl
          rotate_left
          ·simp only [Act.put, sx_, s0_, s1_, i64_w, i32_w]
           rfl
          refine tak_ (i := 7) (N := some 70) (v := ?_) (a' := ?_) rfl rfl HT_ HW_ (fun _ _ _ h => h) (Or.inl ⟨by rfl, ?_⟩) hHeld ?_ ?_
          rotate_left
          ·rintro w' ⟨s0, s1, s2, s3⟩
           go_simp
           with_reducible rfl
          rotate_left
          ·simp only [Act.put, sx_, s0_, s1_, i64_w, i32_w]
           rfl
          refine tak_ (i := 9) (N := some 72) (v := ?_) (a' := ?_) rfl rfl HT_ HW_ (fun _ _ _ h => h) (Or.inl ⟨by rfl, ?_⟩) hHeld ?_ ?_
          rotate_left
          ·rintro w' ⟨s0, s1, s2, s3⟩
           go_simp
           with_reducible rfl
          rotate_left
          ·simp only [Act.put, sx_, s0_, s1_, i64_w, i32_w]
           rfl
          refine ono_ (i := 5) (N := some 68) rfl rfl HT_ (by decide) (fun K hK => ?_)
          refine goes_ Try.func5 kr_ rfl #[.slice Ao39 t143.length co39, .string ((rd_T24 t149 0).f0), .string ((rd_T24 t149 0).f1)] (by rfl) rfl rfl rl_ ?_
          with_reducible refine (pairs_Set.calls _ _ t143 ((rd_T24 t149 0).f0) ((rd_T24 t149 0).f1) t182 _ ?side1 ?side2 A62.out).mono ?_
          (case side1 => exact C_ (Kd.R_reads' HO_0.out).2.2)
          (case side2 => exact (Kd.R_reads' HO_0.out).2.1)
          rintro e w93 ⟨v183, rfl, ho0, hb⟩
          refine ⟨_, rfl, ?_⟩
          have HO184 := am_ (Kd.R_lower (Kd.R_newB (Kd.R_newB (Kd.R_newB (Kd.R_newB (Kd.R_new' ho0 (Kd.R_lt (R_ HO_0.out))) (g := gb141) (o := .cells #[.string a1_0, .string a1_1] 24 (0, 0)) (blk_ BK141.out)) (g := gb142) (o := .cells #[.string a2_0, .string a2_1] 24 (0, 0)) (blk_ BK142.out)) (g := gb160) (o := .cells #[.string ((rd_T24 t149 0).f0), .string ((rd_T24 t149 0).f1)] 24 (0, 0)) (blk_ BK160.out)) (g := gb161) (o := .cells #[.string ((rd_T24 t156 0).f0), .string ((rd_T24 t156 0).f1)] 24 (0, 0)) (blk_ BK161.out)) (below_size (bel_ HB.out)))
          replace HO_0 := am_ (Kd.R_elder' (R_ HO_0.out) (Kd.R_base ho0) hb)
          replace BK141 := bb_ BK141 hb
          replace BK142 := bb_ BK142 hb
          replace BK160 := bb_ BK160 hb
          replace BK161 := bb_ BK161 hb
          replace HB := bs_ HB hb
          (try clear hb)
          (try clear hb2)
          (try clear hk)
          (try clear hi)
          (try clear ho0)
          obtain ⟨Ao94, co94, eo94⟩ := Kd.R_slice HO184.out
          (first | subst eo94 | (injection eo94 with f1_ f2_ f3_; have f4_ := f1_.symm; have f5_ := f3_.symm; clear f1_ f2_ f3_; subst f4_; subst f5_))
          refine hK.out _ _ ⟨(blk_cell BK160.out 0).trans rfl, (blk_cell BK160.out 1).trans rfl, (blk_cell BK161.out 0).trans rfl, (blk_cell BK161.out 1).trans rfl⟩ (fun hHeld => ?_)
          clear hK K
          refine norm_ (a' := ?_) ?_ ?_
          rotate_left
          ·show Act.put _ (some 68) _ = _
           simp only [Act.put, sx_, s0_, s1_, i64_w, i32_w]
           rfl
          refine ono_ (i := 10) (N := some 73) rfl rfl HT_ (by decide) (fun K hK => ?_)
          refine goes_ Try.func5 kr_ rfl #[.slice Ao94 t182.length co94, .string ((rd_T24 t156 0).f0), .string ((rd_T24 t156 0).f1)] (by rfl) rfl rfl rl_ ?_
          with_reducible refine (pairs_Set.calls _ _ t182 ((rd_T24 t156 0).f0) ((rd_T24 t156 0).f1) t185 _ ?side1 ?side2 A63.out).mono ?_
          (case side1 => exact C_ (Kd.R_reads' HO184.out).2.2)
          (case side2 => exact (Kd.R_reads' HO184.out).2.1)
          rintro e w95 ⟨v186, rfl, ho0, hb⟩
          refine ⟨_, rfl, ?_⟩
          have HO187 := am_ (Kd.R_lower (Kd.R_newB (Kd.R_newB (Kd.R_newB (Kd.R_newB (Kd.R_new' (Kd.R_new' ho0 (Kd.R_lt (R_ HO_0.out))) (Kd.R_lt (R_ HO184.out))) (g := gb141) (o := .cells #[.string a1_0, .string a1_1] 24 (0, 0)) (blk_ BK141.out)) (g := gb142) (o := .cells #[.string a2_0, .string a2_1] 24 (0, 0)) (blk_ BK142.out)) (g := gb160) (o := .cells #[.string ((rd_T24 t149 0).f0), .string ((rd_T24 t149 0).f1)] 24 (0, 0)) (blk_ BK160.out)) (g := gb161) (o := .cells #[.string ((rd_T24 t156 0).f0), .string ((rd_T24 t156 0).f1)] 24 (0, 0)) (blk_ BK161.out)) (below_size (bel_ HB.out)))
          replace HO_0 := am_ (Kd.R_elder' (R_ HO_0.out) (Kd.R_base ho0) hb)
          replace HO184 := am_ (Kd.R_elder' (R_ HO184.out) (Kd.R_base ho0) hb)
          replace BK141 := bb_ BK141 hb
          replace BK142 := bb_ BK142 hb
          replace BK160 := bb_ BK160 hb
          replace BK161 := bb_ BK161 hb
          replace HB := bs_ HB hb
          (try clear hb)
          (try clear hb2)
          (try clear hk)
          (try clear hi)
          (try clear ho0)
          refine hK.out _ _ ⟨(blk_cell BK160.out 0).trans rfl, (blk_cell BK160.out 1).trans rfl, (blk_cell BK161.out 0).trans rfl, (blk_cell BK161.out 1).trans rfl⟩ (fun hHeld => ?_)
          clear hK K
          refine norm_ (a' := ?_) ?_ ?_
          rotate_left
          ·show Act.put _ (some 73) _ = _
           simp only [Act.put, sx_, s0_, s1_, i64_w, i32_w]
           rfl
          refine pur_ (i := 11) (N := some 10) (v := ?_) (a' := ?_) rfl rfl HT_ (fun _ _ _ h => h) (Or.inl ⟨by rfl, ?_⟩) ?_ ?_
          rotate_left
          ·intro w'
           go_simp
           with_reducible rfl
          rotate_left
          ·simp only [Act.put, sx_, s0_, s1_, i64_w, i32_w]
           rfl
          refine done_ (done_of HT_.out kr_) ?_
          try go_wp2
          replace HO_0 := am_ (Kd.R_drew HO_0.out)
          replace HO184 := am_ (Kd.R_drew HO184.out)
          replace HO187 := am_ (Kd.R_drew HO187.out)
          replace BK141 := am_ (blk_drew BK141.out)
          replace BK142 := am_ (blk_drew BK142.out)
          replace BK160 := am_ (blk_drew BK160.out)
          replace BK161 := am_ (blk_drew BK161.out)
          replace HB := am_ (below_drew1 HB.out)
          refine start_ (n := 12) (S := fun w' => w'.cell? ⟨gb161, 0, none⟩ = some (.string ((rd_T24 t156 0).f0)) ∧ w'.cell? ⟨gb161, 1, none⟩ = some (.string ((rd_T24 t156 0).f1)) ∧ w'.cell? ⟨gb160, 0, none⟩ = some (.string ((rd_T24 t149 0).f0)) ∧ w'.cell? ⟨gb160, 1, none⟩ = some (.string ((rd_T24 t149 0).f1))) (ds := []) #[false, false, false, false, false, false, false, false, false, false, false, false] kr_ rfl rfl ⟨(blk_cell BK161.out 0).trans rfl, (blk_cell BK161.out 1).trans rfl, (blk_cell BK160.out 0).trans rfl, (blk_cell BK160.out 1).trans rfl⟩ (fun hHeld => ?_); refine with_tabW tolllaw05_PairsTwice.tab7 tolllaw05_PairsTwice.bits7 (fun HT_ HW_ => ?_)
          generalize w95.drew = w96 at HO_0 HO184 HO187 BK141 BK142 BK160 BK161 HB hHeld ⊢
          refine pur_ (i := 0) (N := some 74) (v := ?_) (a' := ?_) rfl rfl HT_ (fun _ _ _ h => h) (Or.inl ⟨by rfl, ?_⟩) ?_ ?_
          rotate_left
          ·intro w'
           go_simp
           with_reducible rfl
          rotate_left
          ·simp only [Act.put, sx_, s0_, s1_, i64_w, i32_w]
           rfl
          refine pur_ (i := 1) (N := some 75) (v := ?_) (a' := ?_) rfl rfl HT_ (fun _ _ _ h => h) (Or.inl ⟨by rfl, ?_⟩) ?_ ?_
          rotate_left
          ·intro w'
           go_simp
           with_reducible rfl
          rotate_left
          ·simp only [Act.put, sx_, s0_, s1_, i64_w, i32_w]
           rfl
          refine pur_ (i := 3) (N := some 77) (v := ?_) (a' := ?_) rfl rfl HT_ (fun _ _ _ h => h) (Or.inl ⟨by rfl, ?_⟩) ?_ ?_
          rotate_left
          ·intro w'
           go_simp
           with_reducible rfl
          rotate_left
          ·simp only [Act.put, sx_, s0_, s1_, i64_w, i32_w]
           rfl
          refine pur_ (i := 6) (N := some 80) (v := ?_) (a' := ?_) rfl rfl HT_ (fun _ _ _ h => h) (Or.inl ⟨by rfl, ?_⟩) ?_ ?_
          rotate_left
          ·intro w'
           go_simp
           with_reducible rfl
          rotate_left
          ·simp only [Act.put, sx_, s0_, s1_, i64_w, i32_w]
           rfl
          refine pur_ (i := 8) (N := some 82) (v := ?_) (a' := ?_) rfl rfl HT_ (fun _ _ _ h => h) (Or.inl ⟨by rfl, ?_⟩) ?_ ?_
          rotate_left
          ·intro w'
           go_simp
           with_reducible rfl
          rotate_left
          ·simp only [Act.put, sx_, s0_, s1_, i64_w, i32_w]
           rfl
          refine tak_ (i := 2) (N := some 76) (v := ?_) (a' := ?_) rfl rfl HT_ HW_ (fun _ _ _ h => h) (Or.inl ⟨by rfl, ?_⟩) hHeld ?_ ?_
          rotate_left
          ·rintro w' ⟨s0, s1, s2, s3⟩
           go_simp
           with_reducible rfl
          rotate_left
          ·simp only [Act.put, sx_, s0_, s1_, i64_w, i32_w]
           rfl
          refine tak_ (i := 4) (N := some 78) (v := ?_) (a' := ?_) rfl rfl HT_ HW_ (fun _ _ _ h => h) (Or.inl ⟨by rfl, ?_⟩) hHeld ?_ ?_
          rotate_left
          ·rintro w' ⟨s0, s1, s2, s3⟩
           go_simp
           with_reducible rfl
          rotate_left
          ·simp only [Act.put, sx_, s0_, s1_, i64_w, i32_w]
           rfl
          refine tak_ (i := 7) (N := some 81) (v := ?_) (a' := ?_) rfl rfl HT_ HW_ (fun _ _ _ h => h) (Or.inl ⟨by rfl, ?_⟩) hHeld ?_ ?_
          rotate_left
          ·rintro w' ⟨s0, s1, s2, s3⟩
           go_simp
           with_reducible rfl
          rotate_left
          ·simp only [Act.put, sx_, s0_, s1_, i64_w, i32_w]
           rfl
          refine tak_ (i := 9) (N := some 83) (v := ?_) (a' := ?_) rfl rfl HT_ HW_ (fun _ _ _ h => h) (Or.inl ⟨by rfl, ?_⟩) hHeld ?_ ?_
          rotate_left
          ·rintro w' ⟨s0, s1, s2, s3⟩
           go_simp
           with_reducible rfl
          rotate_left
          ·simp only [Act.put, sx_, s0_, s1_, i64_w, i32_w]
           rfl
          refine ono_ (i := 5) (N := some 79) rfl rfl HT_ (by decide) (fun K hK => ?_)
          refine goes_ Try.func5 kr_ rfl #[.slice Ao39 t143.length co39, .string ((rd_T24 t156 0).f0), .string ((rd_T24 t156 0).f1)] (by rfl) rfl rfl rl_ ?_
          with_reducible refine (pairs_Set.calls _ _ t143 ((rd_T24 t156 0).f0) ((rd_T24 t156 0).f1) t188 _ ?side1 ?side2 A64.out).mono ?_
          (case side1 => exact C_ (Kd.R_reads' HO_0.out).2.2)
          (case side2 => exact (Kd.R_reads' HO_0.out).2.1)
          rintro e w97 ⟨v189, rfl, ho0, hb⟩
          refine ⟨_, rfl, ?_⟩
          have HO190 := am_ (Kd.R_lower (Kd.R_newB (Kd.R_newB (Kd.R_newB (Kd.R_newB (Kd.R_new' (Kd.R_new' (Kd.R_new' ho0 (Kd.R_lt (R_ HO_0.out))) (Kd.R_lt (R_ HO184.out))) (Kd.R_lt (R_ HO187.out))) (g := gb141) (o := .cells #[.string a1_0, .string a1_1] 24 (0, 0)) (blk_ BK141.out)) (g := gb142) (o := .cells #[.string a2_0, .string a2_1] 24 (0, 0)) (blk_ BK142.out)) (g := gb160) (o := .cells #[.string ((rd_T24 t149 0).f0), .string ((rd_T24 t149 0).f1)] 24 (0, 0)) (blk_ BK160.out)) (g := gb161) (o := .cells #[.string ((rd_T24 t156 0).f0), .string ((rd_T24 t156 0).f1)] 24 (0, 0)) (blk_ BK161.out)) (below_size (bel_ HB.out)))
          replace HO_0 := am_ (Kd.R_elder' (R_ HO_0.out) (Kd.R_base ho0) hb)
          replace HO184 := am_ (Kd.R_elder' (R_ HO184.out) (Kd.R_base ho0) hb)
          replace HO187 := am_ (Kd.R_elder' (R_ HO187.out) (Kd.R_base ho0) hb)
          replace BK141 := bb_ BK141 hb
          replace BK142 := bb_ BK142 hb
          replace BK160 := bb_ BK160 hb
          replace BK161 := bb_ BK161 hb
          replace HB := bs_ HB hb
          (try clear hb)
          (try clear hb2)
          (try clear hk)
          (try clear hi)
          (try clear ho0)
          obtain ⟨Ao98, co98, eo98⟩ := Kd.R_slice HO190.out
          (first | subst eo98 | (injection eo98 with f1_ f2_ f3_; have f4_ := f1_.symm; have f5_ := f3_.symm; clear f1_ f2_ f3_; subst f4_; subst f5_))
          refine hK.out _ _ ⟨(blk_cell BK161.out 0).trans rfl, (blk_cell BK161.out 1).trans rfl, (blk_cell BK160.out 0).trans rfl, (blk_cell BK160.out 1).trans rfl⟩ (fun hHeld => ?_)
          clear hK K
          refine norm_ (a' := ?_) ?_ ?_
          rotate_left
          ·show Act.put _ (some 79) _ = _
           simp only [Act.put, sx_, s0_, s1_, i64_w, i32_w]
           rfl
          refine ono_ (i := 10) (N := some 84) rfl rfl HT_ (by decide) (fun K hK => ?_)
          refine goes_ Try.func5 kr_ rfl #[.slice Ao98 t188.length co98, .string ((rd_T24 t149 0).f0), .string ((rd_T24 t149 0).f1)] (by rfl) rfl rfl rl_ ?_
          with_reducible refine (pairs_Set.calls _ _ t188 ((rd_T24 t149 0).f0) ((rd_T24 t149 0).f1) t191 _ ?side1 ?side2 A65.out).mono ?_
          (case side1 => exact C_ (Kd.R_reads' HO190.out).2.2)
          (case side2 => exact (Kd.R_reads' HO190.out).2.1)
          rintro e w99 ⟨v192, rfl, ho0, hb⟩
          refine ⟨_, rfl, ?_⟩
          have HO193 := am_ (Kd.R_lower (Kd.R_newB (Kd.R_newB (Kd.R_newB (Kd.R_newB (Kd.R_new' (Kd.R_new' (Kd.R_new' (Kd.R_new' ho0 (Kd.R_lt (R_ HO_0.out))) (Kd.R_lt (R_ HO184.out))) (Kd.R_lt (R_ HO187.out))) (Kd.R_lt (R_ HO190.out))) (g := gb141) (o := .cells #[.string a1_0, .string a1_1] 24 (0, 0)) (blk_ BK141.out)) (g := gb142) (o := .cells #[.string a2_0, .string a2_1] 24 (0, 0)) (blk_ BK142.out)) (g := gb160) (o := .cells #[.string ((rd_T24 t149 0).f0), .string ((rd_T24 t149 0).f1)] 24 (0, 0)) (blk_ BK160.out)) (g := gb161) (o := .cells #[.string ((rd_T24 t156 0).f0), .string ((rd_T24 t156 0).f1)] 24 (0, 0)) (blk_ BK161.out)) (below_size (bel_ HB.out)))
          replace HO_0 := am_ (Kd.R_elder' (R_ HO_0.out) (Kd.R_base ho0) hb)
          replace HO184 := am_ (Kd.R_elder' (R_ HO184.out) (Kd.R_base ho0) hb)
          replace HO187 := am_ (Kd.R_elder' (R_ HO187.out) (Kd.R_base ho0) hb)
          replace HO190 := am_ (Kd.R_elder' (R_ HO190.out) (Kd.R_base ho0) hb)
          replace BK141 := bb_ BK141 hb
          replace BK142 := bb_ BK142 hb
          replace BK160 := bb_ BK160 hb
          replace BK161 := bb_ BK161 hb
          replace HB := bs_ HB hb
          (try clear hb)
          (try clear hb2)
          (try clear hk)
          (try clear hi)
          (try clear ho0)
          refine hK.out _ _ ⟨(blk_cell BK161.out 0).trans rfl, (blk_cell BK161.out 1).trans rfl, (blk_cell BK160.out 0).trans rfl, (blk_cell BK160.out 1).trans rfl⟩ (fun hHeld => ?_)
          clear hK K
          refine norm_ (a' := ?_) ?_ ?_
          rotate_left
          ·show Act.put _ (some 84) _ = _
           simp only [Act.put, sx_, s0_, s1_, i64_w, i32_w]
           rfl
          refine pur_ (i := 11) (N := some 11) (v := ?_) (a' := ?_) rfl rfl HT_ (fun _ _ _ h => h) (Or.inl ⟨by rfl, ?_⟩) ?_ ?_
          rotate_left
          ·intro w'
           go_simp
           with_reducible rfl
          rotate_left
          ·simp only [Act.put, sx_, s0_, s1_, i64_w, i32_w]
           rfl
          refine done_ (done_of HT_.out kr_) ?_
          have hnb100 := NB160_141.out
          have hnc100 := NB141_160.out
          have hnb101 := NB160_142.out
          have hnc101 := NB142_160.out
          have hnb102 := NB160_161.out
          have hnc102 := NB161_160.out
          have hcz103_0 : w99.cell? ⟨gb160, 0, none⟩ = some (.string ((rd_T24 t149 0).f0)) := (blk_cell BK160.out 0).trans rfl
          have hcz103_1 : w99.cell? ⟨gb160, 1, none⟩ = some (.string ((rd_T24 t149 0).f1)) := (blk_cell BK160.out 1).trans rfl
          have hfz103_0 := blk_frozen BK160.out 0
          have hfz103_1 := blk_frozen BK160.out 1
          have hnb104 := NB161_141.out
          have hnc104 := NB141_161.out
          have hnb105 := NB161_142.out
          have hnc105 := NB142_161.out
          have hcz106_0 : w99.cell? ⟨gb161, 0, none⟩ = some (.string ((rd_T24 t156 0).f0)) := (blk_cell BK161.out 0).trans rfl
          have hcz106_1 : w99.cell? ⟨gb161, 1, none⟩ = some (.string ((rd_T24 t156 0).f1)) := (blk_cell BK161.out 1).trans rfl
          have hfz106_0 := blk_frozen BK161.out 0
          have hfz106_1 := blk_frozen BK161.out 1
          try go_wp2_with (first | ((with_reducible refine gate_callee (f := 8) rfl ?_); refine goesL_ (some 89) rfl rfl Try.func8 kr_ rfl #[.string ((rd_T24 t149 0).f0), .string ((rd_T24 t156 0).f0)] rfl rl_ ?_; (with_reducible refine (pairs_Same.calls ((rd_T24 t149 0).f0) ((rd_T24 t156 0).f0) false _ A66.out).mono ?_); rintro e w107 ⟨rfl, hb⟩; refine ⟨_, rfl, ?_⟩; replace HO_0 := rb_ HO_0 hb; replace HO184 := rb_ HO184 hb; replace HO187 := rb_ HO187 hb; replace HO190 := rb_ HO190 hb; replace HO193 := rb_ HO193 hb; replace BK141 := bb_ BK141 hb; replace BK142 := bb_ BK142 hb; replace BK160 := bb_ BK160 hb; replace BK161 := bb_ BK161 hb; replace HB := bs_ HB hb; (try clear hb); have hcz108_0 : w107.cell? ⟨gb160, 0, none⟩ = some (.string ((rd_T24 t149 0).f0)) := (blk_cell BK160.out 0).trans rfl; have hcz108_1 : w107.cell? ⟨gb160, 1, none⟩ = some (.string ((rd_T24 t149 0).f1)) := (blk_cell BK160.out 1).trans rfl; have hfz108_0 := blk_frozen BK160.out 0; have hfz108_1 := blk_frozen BK160.out 1; obtain ⟨Ao109, co109, eo109⟩ := Kd.R_slice HO187.out; subst eo109) | ((with_reducible refine gate_callee (f := 10) rfl ?_); refine goesL_ (some 95) rfl rfl Try.func10 kr_ rfl #[.slice Ao109 t185.length co109, .string ((rd_T24 t149 0).f0)] rfl rl_ ?_; (with_reducible refine (pairs_Get.calls _ _ t185 ((rd_T24 t149 0).f0) t196 t197 _ ?side1 ?side2 A86.out).mono ?_); (case side1 => exact C_ (Kd.R_reads' HO187.out).2.2); (case side2 => exact (Kd.R_reads' HO187.out).2.1); rintro e w110 ⟨rfl, hb⟩; refine ⟨_, rfl, ?_⟩; replace HO_0 := rb_ HO_0 hb; replace HO184 := rb_ HO184 hb; replace HO187 := rb_ HO187 hb; replace HO190 := rb_ HO190 hb; replace HO193 := rb_ HO193 hb; replace BK141 := bb_ BK141 hb; replace BK142 := bb_ BK142 hb; replace BK160 := bb_ BK160 hb; replace BK161 := bb_ BK161 hb; replace HB := bs_ HB hb; (try clear hb); have hcz111_0 : w110.cell? ⟨gb160, 0, none⟩ = some (.string ((rd_T24 t149 0).f0)) := (blk_cell BK160.out 0).trans rfl; have hcz111_1 : w110.cell? ⟨gb160, 1, none⟩ = some (.string ((rd_T24 t149 0).f1)) := (blk_cell BK160.out 1).trans rfl; have hfz111_0 := blk_frozen BK160.out 0; have hfz111_1 := blk_frozen BK160.out 1; obtain ⟨Ao112, co112, eo112⟩ := Kd.R_slice HO193.out; subst eo112) | ((with_reducible refine gate_callee (f := 10) rfl ?_); refine goesL_ (some 102) rfl rfl Try.func10 kr_ rfl #[.slice Ao112 t191.length co112, .string ((rd_T24 t149 0).f0)] rfl rl_ ?_; (with_reducible refine (pairs_Get.calls _ _ t191 ((rd_T24 t149 0).f0) t198 t199 _ ?side1 ?side2 A87.out).mono ?_); (case side1 => exact C_ (Kd.R_reads' HO193.out).2.2); (case side2 => exact (Kd.R_reads' HO193.out).2.1); rintro e w113 ⟨rfl, hb⟩; refine ⟨_, rfl, ?_⟩; replace HO_0 := rb_ HO_0 hb; replace HO184 := rb_ HO184 hb; replace HO187 := rb_ HO187 hb; replace HO190 := rb_ HO190 hb; replace HO193 := rb_ HO193 hb; replace BK141 := bb_ BK141 hb; replace BK142 := bb_ BK142 hb; replace BK160 := bb_ BK160 hb; replace BK161 := bb_ BK161 hb; replace HB := bs_ HB hb; (try clear hb); have hcz114_0 : w113.cell? ⟨gb160, 0, none⟩ = some (.string ((rd_T24 t149 0).f0)) := (blk_cell BK160.out 0).trans rfl; have hcz114_1 : w113.cell? ⟨gb160, 1, none⟩ = some (.string ((rd_T24 t149 0).f1)) := (blk_cell BK160.out 1).trans rfl; have hfz114_0 := blk_frozen BK160.out 0; have hfz114_1 := blk_frozen BK160.out 1) | (go_at_call 9; (with_reducible refine (tolllaw05_awake.calls kj9  t200 _ A91.out).mono ?_); rintro e w115 ⟨rfl, hb⟩; replace HO_0 := rb_ HO_0 hb; replace HO184 := rb_ HO184 hb; replace HO187 := rb_ HO187 hb; replace HO190 := rb_ HO190 hb; replace HO193 := rb_ HO193 hb; replace BK141 := bb_ BK141 hb; replace BK142 := bb_ BK142 hb; replace BK160 := bb_ BK160 hb; replace BK161 := bb_ BK161 hb; replace HB := bs_ HB hb; (try clear hb)))
          go_ret
          exact ⟨fi_, bel_ HB.out⟩
         ·rw [if_neg c90] at H
          cases H
        ·rw [if_neg c89] at H
         cases H
       ·rw [if_neg c88] at H
        cases H
  ·rw [if_neg c8] at H
   cases H
 ·rw [if_neg c6] at H
  cases H

/-- THE ONE PURE STATEMENT of tolllaw05_PairsTwice. -/
def tolllaw05_PairsTwice.Pure : Prop := ∀ (l0 : List (S24)) (a1_0 : ByteArray) (a1_1 : ByteArray) (a2_0 : ByteArray) (a2_1 : ByteArray), (l0.length ≤ maxLen ∧ l0.length * 32 ≤ 140737488351232 ∧ ∀ y ∈ l0, (y.f0.size ≤ 140737488351232) ∧ (y.f1.size ≤ 140737488351232)) → ((a1_0.size ≤ 140737488351232) ∧ (a1_1.size ≤ 140737488351232)) → ((a2_0.size ≤ 140737488351232) ∧ (a2_1.size ≤ 140737488351232)) → ∃ k, tolllaw05_PairsTwice.f k l0 a1_0 a1_1 a2_0 a2_1 = some true

end Go.Proofs.Ytglghmcdcdljoaa.P
