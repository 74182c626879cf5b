-- written by wip/tool/hprint.py of this repo: the kit's print, with contracts by hand joined; Lean checks it.
import Derived.Test.YtompldnifiieaaaDoorPx0
import Derived.Test.YtompldnifiieaaaDoorPx1
import Derived.Test.YtompldnifiieaaaDoorPx4
import Derived.Test.YtompldnifiieaaaDoorPx5
import Derived.Test.YtompldnifiieaaaDoorPx6
namespace Go.Proofs.YtompldnifiieaaaDoor.P
open Go.RowKit Go.Proofs.YtompldnifiieaaaDoorW.PrintWords Go.Proofs.YtompldnifiieaaaDoorW.PrintLast Go.Proofs.YtompldnifiieaaaDoorW.PrintMore
attribute [local go_sem] max2_int min2_int max_two min_two max_three min_three max_four min_four   -- for this text's walks alone
set_option linter.unusedVariables false
set_option linter.unusedSimpArgs false

/-! ### tolllaw06_awake: function 18 -/
set_option maxHeartbeats 4000000 in
theorem on_at (s m : ByteArray) (w : World) : Calls Tryd.prog 44 #[.string s, .string m] w fun e w' => e = .returned (.agg #[.int .i64 2, .string s, .string m, .slice none 0 0, .slice none 0 0]) ∧ Below w.heap.size w w' := by
 go_enter Tryd.func44, Tryd.ntmps44
 go_wp2
 refine bodyPost_ret (results_cell_row rfl _ _ w.heap.size 26 #[.int .i64 2, .string s, .string m, .slice none 0 0, .slice none 0 0] (0, 0) _ rfl (heap_alloc_new w _) Tryd.underlying26 rfl kr_) rfl ?_
 exact ⟨rfl, (Below.refl _ w).alloc (Nat.le_refl _) _⟩
/-- The example's matches: kind, path, method. -/
noncomputable def awK (i : Nat) : Int := if i = 0 then 1 else 2
noncomputable def awS (i : Nat) : ByteArray := if i = 1 then ⟨#[47, 97, 47, 98]⟩ else ⟨#[47, 97]⟩
noncomputable def awM (i : Nat) : ByteArray := if i = 2 then ⟨#[71, 69, 84]⟩ else ⟨#[]⟩
noncomputable def awE (i : Nat) : Value := .agg #[.int .i64 (awK i), .string (awS i), .string (awM i), .slice none 0 0, .slice none 0 0]
noncomputable def awR (i : Nat) : List Int := rankL (awK i) (awS i) (awM i) 0 0
noncomputable def awRow : Array Value := #[.int .i64 1, .string ⟨#[47, 97]⟩, .string ⟨#[]⟩, .slice none 0 0, .slice none 0 0, .int .i64 2, .string ⟨#[47, 97, 47, 98]⟩, .string ⟨#[]⟩, .slice none 0 0, .slice none 0 0,
 .int .i64 2, .string ⟨#[47, 97]⟩, .string ⟨#[71, 69, 84]⟩, .slice none 0 0, .slice none 0 0, .int .i64 2, .string ⟨#[47, 97]⟩, .string ⟨#[]⟩, .slice none 0 0, .slice none 0 0]
noncomputable def awRow2 : Array Value := #[.int .i64 2, .string ⟨#[47]⟩, .string ⟨#[]⟩, .slice none 0 0, .slice none 0 0, .int .i64 2, .string ⟨#[47, 97]⟩, .string ⟨#[]⟩, .slice none 0 0, .slice none 0 0]
theorem awRow_at (a c : Nat) (ha : a < 4) (hc : c < 5) : awRow[a * 5 + c]? = (#[.int .i64 (awK a), .string (awS a), .string (awM a), .slice none 0 0, .slice none 0 0] : Array Value)[c]? := by
 have h1 : a = 0 ∨ a = 1 ∨ a = 2 ∨ a = 3 := by omega
 have h2 : c = 0 ∨ c = 1 ∨ c = 2 ∨ c = 3 ∨ c = 4 := by omega
 rcases h1 with rfl | rfl | rfl | rfl <;> rcases h2 with rfl | rfl | rfl | rfl | rfl <;> rfl
noncomputable def r8ops : Array Oper := #[{ dst := some 22, op := Go.Op.move (Go.Operand.tmp 1), type := 39, pos := "law.go:23", after := #[], guard := none }, { dst := some 23, op := Go.Op.move (Go.Operand.tmp 2), type := 3, pos := "law.go:23", after := #[], guard := none }, { dst := some 24, op := Go.Op.indexAddr 39 (Go.Operand.tmp 22) (Go.Operand.tmp 23), type := 0, pos := "law.go:23", after := #[{ on := 0, ground := Go.Ground.data }, { on := 1, ground := Go.Ground.data }], guard := none }, { dst := some 25, op := Go.Op.load 26 (Go.Operand.tmp 24), type := 26, pos := "law.go:23", after := #[{ on := 2, ground := Go.Ground.data }], guard := none }, { dst := some 26, op := Go.Op.move (Go.Operand.tmp 1), type := 39, pos := "law.go:23", after := #[], guard := none }, { dst := some 27, op := Go.Op.move (Go.Operand.tmp 3), type := 3, pos := "law.go:23", after := #[], guard := none }, { dst := some 28, op := Go.Op.indexAddr 39 (Go.Operand.tmp 26) (Go.Operand.tmp 27), type := 0, pos := "law.go:23", after := #[{ on := 4, ground := Go.Ground.data }, { on := 5, ground := Go.Ground.data }], guard := none }, { dst := some 29, op := Go.Op.load 26 (Go.Operand.tmp 28), type := 26, pos := "law.go:23", after := #[{ on := 6, ground := Go.Ground.data }], guard := none }, { dst := some 30, op := Go.Op.call { callee := Go.Callee.value (Go.Operand.func 19), args := #[Go.Operand.tmp 25, Go.Operand.tmp 29], argTypes := #[26, 26] }, type := 3, pos := "law.go:23", after := #[{ on := 3, ground := Go.Ground.data }, { on := 7, ground := Go.Ground.data }], guard := none }, { dst := some 31, op := Go.Op.binOp Go.BinOp.neq 3 (Go.Operand.tmp 30) (Go.Operand.const (Go.Value.int Go.IntKind.i64 (-1))) 3, type := 4, pos := "law.go:23", after := #[{ on := 8, ground := Go.Ground.data }], guard := none }, { dst := some 32, op := Go.Op.move (Go.Operand.tmp 31), type := 4, pos := "law.go:23", after := #[{ on := 9, ground := Go.Ground.data }, { on := 8, ground := Go.Ground.chain }], guard := none }, { dst := some 33, op := Go.Op.move (Go.Operand.tmp 1), type := 39, pos := "law.go:23", after := #[{ on := 10, ground := Go.Ground.guard }], guard := some (10, false) }, { dst := some 34, op := Go.Op.move (Go.Operand.tmp 3), type := 3, pos := "law.go:23", after := #[{ on := 10, ground := Go.Ground.guard }], guard := some (10, false) }, { dst := some 35, op := Go.Op.indexAddr 39 (Go.Operand.tmp 33) (Go.Operand.tmp 34), type := 0, pos := "law.go:23", after := #[{ on := 11, ground := Go.Ground.data }, { on := 12, ground := Go.Ground.data }, { on := 10, ground := Go.Ground.guard }], guard := some (10, false) }, { dst := some 36, op := Go.Op.load 26 (Go.Operand.tmp 35), type := 26, pos := "law.go:23", after := #[{ on := 13, ground := Go.Ground.data }, { on := 10, ground := Go.Ground.guard }], guard := some (10, false) }, { dst := some 37, op := Go.Op.move (Go.Operand.tmp 1), type := 39, pos := "law.go:23", after := #[{ on := 10, ground := Go.Ground.guard }], guard := some (10, false) }, { dst := some 38, op := Go.Op.move (Go.Operand.tmp 2), type := 3, pos := "law.go:23", after := #[{ on := 10, ground := Go.Ground.guard }], guard := some (10, false) }, { dst := some 39, op := Go.Op.indexAddr 39 (Go.Operand.tmp 37) (Go.Operand.tmp 38), type := 0, pos := "law.go:23", after := #[{ on := 15, ground := Go.Ground.data }, { on := 16, ground := Go.Ground.data }, { on := 10, ground := Go.Ground.guard }], guard := some (10, false) }, { dst := some 40, op := Go.Op.load 26 (Go.Operand.tmp 39), type := 26, pos := "law.go:23", after := #[{ on := 17, ground := Go.Ground.data }, { on := 10, ground := Go.Ground.guard }], guard := some (10, false) }, { dst := some 41, op := Go.Op.call { callee := Go.Callee.value (Go.Operand.func 19), args := #[Go.Operand.tmp 36, Go.Operand.tmp 40], argTypes := #[26, 26] }, type := 3, pos := "law.go:23", after := #[{ on := 14, ground := Go.Ground.data }, { on := 18, ground := Go.Ground.data }, { on := 10, ground := Go.Ground.chain }, { on := 10, ground := Go.Ground.guard }], guard := some (10, false) }, { dst := some 42, op := Go.Op.binOp Go.BinOp.neq 3 (Go.Operand.tmp 41) (Go.Operand.const (Go.Value.int Go.IntKind.i64 1)) 3, type := 4, pos := "law.go:23", after := #[{ on := 19, ground := Go.Ground.data }, { on := 10, ground := Go.Ground.guard }], guard := some (10, false) }, { dst := some 43, op := Go.Op.pick (Go.Operand.tmp 32) (Go.Operand.const (Go.Value.bool true)) (Go.Operand.tmp 42), type := 4, pos := "law.go:23", after := #[{ on := 10, ground := Go.Ground.data }, { on := 20, ground := Go.Ground.data }], guard := none }]
noncomputable def r8v (B a0 b0 : Nat) (k1 k2 : Int) (s1 m1 s2 m2 : ByteArray) : List Value := [(.slice (some ⟨B, 0, none⟩) 4 4), (.int .i64 ((a0 : Nat) : Int)), (.pointer (some ⟨B, a0 * 5, none⟩)), (.agg #[.int .i64 k1, .string s1, .string m1, .slice none 0 0, .slice none 0 0]), (.slice (some ⟨B, 0, none⟩) 4 4), (.int .i64 ((b0 : Nat) : Int)), (.pointer (some ⟨B, b0 * 5, none⟩)), (.agg #[.int .i64 k2, .string s2, .string m2, .slice none 0 0, .slice none 0 0]), (.int .i64 (-1)), (.bool false), (.bool false), (.slice (some ⟨B, 0, none⟩) 4 4), (.int .i64 ((b0 : Nat) : Int)), (.pointer (some ⟨B, b0 * 5, none⟩)), (.agg #[.int .i64 k2, .string s2, .string m2, .slice none 0 0, .slice none 0 0]), (.slice (some ⟨B, 0, none⟩) 4 4), (.int .i64 ((a0 : Nat) : Int)), (.pointer (some ⟨B, a0 * 5, none⟩)), (.agg #[.int .i64 k1, .string s1, .string m1, .slice none 0 0, .slice none 0 0]), (.int .i64 1), (.bool false), (.bool false)]
set_option maxHeartbeats 8000000 in
set_option maxRecDepth 100000 in
theorem region8_at (base : Act) (W1 wr : World) (B a0 b0 : Nat) (k1 k2 : Int) (s1 m1 s2 m2 : ByteArray) (Q : Exit → Act → World → Prop) (mixed : Tryd.prog.follows .mixedOrders = true) (ha : a0 < 4) (hb : b0 < 4)
  (hsz : base.tmps.size = 72) (b1 : base.tmps[1]? = some (.slice (some ⟨B, 0, none⟩) 4 4)) (b2 : base.tmps[2]? = some (.int .i64 ((a0 : Nat) : Int))) (b3 : base.tmps[3]? = some (.int .i64 ((b0 : Nat) : Int)))
  (hrow : W1.heap[B]? = some (.cells awRow 26 (0, 0))) (hA : ∀ c, c < 5 → awRow[a0 * 5 + c]? = (#[.int .i64 k1, .string s1, .string m1, .slice none 0 0, .slice none 0 0] : Array Value)[c]?) (hB : ∀ c, c < 5 → awRow[b0 * 5 + c]? = (#[.int .i64 k2, .string s2, .string m2, .slice none 0 0, .slice none 0 0] : Array Value)[c]?) (hwr : Below (B + 1) W1 wr)
  (C1 : ∀ W : World, Calls Tryd.prog 19 #[.agg #[.int .i64 k1, .string s1, .string m1, .slice none 0 0, .slice none 0 0], .agg #[.int .i64 k2, .string s2, .string m2, .slice none 0 0, .slice none 0 0]] W fun e w' => e = .returned (.int .i64 (-1)) ∧ Below W.heap.size W w') (C2 : ∀ W : World, Calls Tryd.prog 19 #[.agg #[.int .i64 k2, .string s2, .string m2, .slice none 0 0, .slice none 0 0], .agg #[.int .i64 k1, .string s1, .string m1, .slice none 0 0, .slice none 0 0]] W fun e w' => e = .returned (.int .i64 1) ∧ Below W.heap.size W w')
  (hend : ∀ w', Below (B + 1) W1 w' → Q .normal { tmps := (List.range 22).foldl (fun t j => t.setIfInBounds (j + 22) ((r8v B a0 b0 k1 k2 s1 m1 s2 m2).getD j undef)) base.tmps, defers := base.defers } w') :
  (Code.region 8 r8ops true).wp Tryd.prog Q base wr := by
 have hB1 : B + 1 ≤ W1.heap.size := blk_lt hrow
 unfold r8ops
 refine region_table mixed (fun j => j + 22) (fun j => (r8v B a0 b0 k1 k2 s1 m1 s2 m2).getD j undef) (fun W => Below (B + 1) W1 W) (fun i j _ _ h => by have : i + 22 = j + 22 := h; omega) (fun j hj => by have : j < 22 := hj; show j + 22 < base.tmps.size; omega) kr_ (below_drew1 hwr) ?_ (fun w' h => hend w' h)
 intro i l a w hi hI hdep
 have hi2 : i < 22 := hi
 have hW := hI.world
 have HW := Aside0.mk hW
 have hTold := hI.told
 have r1 := (hI.rest 1 (fun j hj => by show j + 22 ≠ 1; omega)).trans b1
 have r2 := (hI.rest 2 (fun j hj => by show j + 22 ≠ 2; omega)).trans b2
 have r3 := (hI.rest 3 (fun j hj => by show j + 22 ≠ 3; omega)).trans b3
 have hrw := (hW.block B (by omega)).trans hrow
 have hwz : B + 1 ≤ w.heap.size := blk_lt hrw
 have pa := eq_true (show (0 : Int) ≤ ((a0 : Nat) : Int) by omega)
 have qa := eq_true (show ((a0 : Nat) : Int) < 4 by omega)
 have pb := eq_true (show (0 : Int) ≤ ((b0 : Nat) : Int) by omega)
 have qb := eq_true (show ((b0 : Nat) : Int) < 4 by omega)
 have hT : ∀ j v, j < 22 → (r8v B a0 b0 k1 k2 s1 m1 s2 m2)[j]? = some v → l.getD j false = true → a.tmps[j + 22]? = some v := fun j v hj hv hl => by have := hTold j hj hl; simpa [List.getD_eq_getElem?_getD, hv] using this
 clear hI hTold hW hi
 have hcase : i = 0 ∨ i = 1 ∨ i = 2 ∨ i = 3 ∨ i = 4 ∨ i = 5 ∨ i = 6 ∨ i = 7 ∨ i = 8 ∨ i = 9 ∨ i = 10 ∨ i = 11 ∨ i = 12 ∨ i = 13 ∨ i = 14 ∨ i = 15 ∨ i = 16 ∨ i = 17 ∨ i = 18 ∨ i = 19 ∨ i = 20 ∨ i = 21 := by omega
 rcases hcase with rfl | rfl | rfl | rfl | rfl | rfl | rfl | rfl | rfl | rfl | rfl | rfl | rfl | rfl | rfl | rfl | rfl | rfl | rfl | rfl | rfl | rfl
 ·refine wpOp_go rfl (by simp [Region.wanted]) fun K hK => ?_
  have HK := Aside0.mk hK
  clear hK hT hdep hrw
  unfold Oper.wp
  go_simp
  exact HK.out _ _ ⟨HW.out, rfl⟩
 ·refine wpOp_go rfl (by simp [Region.wanted]) fun K hK => ?_
  have HK := Aside0.mk hK
  clear hK hT hdep hrw
  unfold Oper.wp
  go_simp
  exact HK.out _ _ ⟨HW.out, rfl⟩
 ·have k10 : l.getD 0 false = true := by have := hdep _ rfl; simp [Region.binds] at this; simp [this]
  have t0 : a.tmps[22]? = some (.slice (some ⟨B, 0, none⟩) 4 4) := hT 0 _ (by decide) rfl k10
  have k11 : l.getD 1 false = true := by have := hdep _ rfl; simp [Region.binds] at this; simp [this]
  have t1 : a.tmps[23]? = some (.int .i64 ((a0 : Nat) : Int)) := hT 1 _ (by decide) rfl k11
  refine wpOp_go rfl (by simp [Region.wanted]) fun K hK => ?_
  have HK := Aside0.mk hK
  clear hK hT hdep hrw k10 k11
  unfold Oper.wp
  go_simp
  exact HK.out _ _ ⟨HW.out, rfl⟩
 ·have k12 : l.getD 2 false = true := by have := hdep _ rfl; simp [Region.binds] at this; simp [this]
  have t2 : a.tmps[24]? = some (.pointer (some ⟨B, a0 * 5, none⟩)) := hT 2 _ (by decide) rfl k12
  have q0 : w.cell? ⟨B, a0 * 5, none⟩ = _ := (blk_cell hrw (a0 * 5)).trans (hA 0 (by decide))
  have q1 := (blk_cell hrw (a0 * 5 + 1)).trans (hA 1 (by decide))
  have q2 := (blk_cell hrw (a0 * 5 + 2)).trans (hA 2 (by decide))
  have q3 := (blk_cell hrw (a0 * 5 + 3)).trans (hA 3 (by decide))
  have q4 := (blk_cell hrw (a0 * 5 + 4)).trans (hA 4 (by decide))
  simp only [List.getElem?_toArray, List.getElem?_cons_zero, List.getElem?_cons_succ] at q0 q1 q2 q3 q4
  refine wpOp_go rfl (by simp [Region.wanted]) fun K hK => ?_
  have HK := Aside0.mk hK
  clear hK hT hdep hrw k12
  unfold Oper.wp
  go_simp
  exact HK.out _ _ ⟨HW.out, rfl⟩
 ·refine wpOp_go rfl (by simp [Region.wanted]) fun K hK => ?_
  have HK := Aside0.mk hK
  clear hK hT hdep hrw
  unfold Oper.wp
  go_simp
  exact HK.out _ _ ⟨HW.out, rfl⟩
 ·refine wpOp_go rfl (by simp [Region.wanted]) fun K hK => ?_
  have HK := Aside0.mk hK
  clear hK hT hdep hrw
  unfold Oper.wp
  go_simp
  exact HK.out _ _ ⟨HW.out, rfl⟩
 ·have k14 : l.getD 4 false = true := by have := hdep _ rfl; simp [Region.binds] at this; simp [this]
  have t4 : a.tmps[26]? = some (.slice (some ⟨B, 0, none⟩) 4 4) := hT 4 _ (by decide) rfl k14
  have k15 : l.getD 5 false = true := by have := hdep _ rfl; simp [Region.binds] at this; simp [this]
  have t5 : a.tmps[27]? = some (.int .i64 ((b0 : Nat) : Int)) := hT 5 _ (by decide) rfl k15
  refine wpOp_go rfl (by simp [Region.wanted]) fun K hK => ?_
  have HK := Aside0.mk hK
  clear hK hT hdep hrw k14 k15
  unfold Oper.wp
  go_simp
  exact HK.out _ _ ⟨HW.out, rfl⟩
 ·have k16 : l.getD 6 false = true := by have := hdep _ rfl; simp [Region.binds] at this; simp [this]
  have t6 : a.tmps[28]? = some (.pointer (some ⟨B, b0 * 5, none⟩)) := hT 6 _ (by decide) rfl k16
  have q0 : w.cell? ⟨B, b0 * 5, none⟩ = _ := (blk_cell hrw (b0 * 5)).trans (hB 0 (by decide))
  have q1 := (blk_cell hrw (b0 * 5 + 1)).trans (hB 1 (by decide))
  have q2 := (blk_cell hrw (b0 * 5 + 2)).trans (hB 2 (by decide))
  have q3 := (blk_cell hrw (b0 * 5 + 3)).trans (hB 3 (by decide))
  have q4 := (blk_cell hrw (b0 * 5 + 4)).trans (hB 4 (by decide))
  simp only [List.getElem?_toArray, List.getElem?_cons_zero, List.getElem?_cons_succ] at q0 q1 q2 q3 q4
  refine wpOp_go rfl (by simp [Region.wanted]) fun K hK => ?_
  have HK := Aside0.mk hK
  clear hK hT hdep hrw k16
  unfold Oper.wp
  go_simp
  exact HK.out _ _ ⟨HW.out, rfl⟩
 ·have k13 : l.getD 3 false = true := by have := hdep _ rfl; simp [Region.binds] at this; simp [this]
  have t3 : a.tmps[25]? = some (.agg #[.int .i64 k1, .string s1, .string m1, .slice none 0 0, .slice none 0 0]) := hT 3 _ (by decide) rfl k13
  have e3 := eval_of t3
  have k17 : l.getD 7 false = true := by have := hdep _ rfl; simp [Region.binds] at this; simp [this]
  have t7 : a.tmps[29]? = some (.agg #[.int .i64 k2, .string s2, .string m2, .slice none 0 0, .slice none 0 0]) := hT 7 _ (by decide) rfl k17
  have e7 := eval_of t7
  refine wpOp_callG rfl (by simp [Region.wanted]) rfl Tryd.func19 kr_ rfl _ (by simp only [List.map_toArray, List.map_cons, List.map_nil, e3, e7]) ((C1 w).mono ?_)
  rintro e w3 ⟨rfl, hd⟩
  exact ⟨_, rfl, HW.out.trans (hd.mono hwz), rfl⟩
 ·have k18 : l.getD 8 false = true := by have := hdep _ rfl; simp [Region.binds] at this; simp [this]
  have t8 : a.tmps[30]? = some (.int .i64 (-1)) := hT 8 _ (by decide) rfl k18
  refine wpOp_go rfl (by simp [Region.wanted]) fun K hK => ?_
  have HK := Aside0.mk hK
  clear hK hT hdep hrw k18
  unfold Oper.wp
  go_simp
  exact HK.out _ _ ⟨HW.out, rfl⟩
 ·have k19 : l.getD 9 false = true := by have := hdep _ rfl; simp [Region.binds] at this; simp [this]
  have t9 : a.tmps[31]? = some (.bool false) := hT 9 _ (by decide) rfl k19
  refine wpOp_go rfl (by simp [Region.wanted]) fun K hK => ?_
  have HK := Aside0.mk hK
  clear hK hT hdep hrw k19
  unfold Oper.wp
  go_simp
  exact HK.out _ _ ⟨HW.out, rfl⟩
 ·have k20 : l.getD 10 false = true := by have := hdep _ rfl; simp [Region.binds] at this; simp [this]
  have t10 : a.tmps[32]? = some (.bool false) := hT 10 _ (by decide) rfl k20
  refine wpOp_go rfl (by simp [Region.wanted, yielded, t10]) fun K hK => ?_
  have HK := Aside0.mk hK
  clear hK hT hdep hrw k20
  unfold Oper.wp
  go_simp
  exact HK.out _ _ ⟨HW.out, rfl⟩
 ·have k20 : l.getD 10 false = true := by have := hdep _ rfl; simp [Region.binds] at this; simp [this]
  have t10 : a.tmps[32]? = some (.bool false) := hT 10 _ (by decide) rfl k20
  refine wpOp_go rfl (by simp [Region.wanted, yielded, t10]) fun K hK => ?_
  have HK := Aside0.mk hK
  clear hK hT hdep hrw k20
  unfold Oper.wp
  go_simp
  exact HK.out _ _ ⟨HW.out, rfl⟩
 ·have k20 : l.getD 10 false = true := by have := hdep _ rfl; simp [Region.binds] at this; simp [this]
  have t10 : a.tmps[32]? = some (.bool false) := hT 10 _ (by decide) rfl k20
  have k21 : l.getD 11 false = true := by have := hdep _ rfl; simp [Region.binds] at this; simp [this]
  have t11 : a.tmps[33]? = some (.slice (some ⟨B, 0, none⟩) 4 4) := hT 11 _ (by decide) rfl k21
  have k22 : l.getD 12 false = true := by have := hdep _ rfl; simp [Region.binds] at this; simp [this]
  have t12 : a.tmps[34]? = some (.int .i64 ((b0 : Nat) : Int)) := hT 12 _ (by decide) rfl k22
  refine wpOp_go rfl (by simp [Region.wanted, yielded, t10]) fun K hK => ?_
  have HK := Aside0.mk hK
  clear hK hT hdep hrw k20 k21 k22
  unfold Oper.wp
  go_simp
  exact HK.out _ _ ⟨HW.out, rfl⟩
 ·have k20 : l.getD 10 false = true := by have := hdep _ rfl; simp [Region.binds] at this; simp [this]
  have t10 : a.tmps[32]? = some (.bool false) := hT 10 _ (by decide) rfl k20
  have k23 : l.getD 13 false = true := by have := hdep _ rfl; simp [Region.binds] at this; simp [this]
  have t13 : a.tmps[35]? = some (.pointer (some ⟨B, b0 * 5, none⟩)) := hT 13 _ (by decide) rfl k23
  have q0 : w.cell? ⟨B, b0 * 5, none⟩ = _ := (blk_cell hrw (b0 * 5)).trans (hB 0 (by decide))
  have q1 := (blk_cell hrw (b0 * 5 + 1)).trans (hB 1 (by decide))
  have q2 := (blk_cell hrw (b0 * 5 + 2)).trans (hB 2 (by decide))
  have q3 := (blk_cell hrw (b0 * 5 + 3)).trans (hB 3 (by decide))
  have q4 := (blk_cell hrw (b0 * 5 + 4)).trans (hB 4 (by decide))
  simp only [List.getElem?_toArray, List.getElem?_cons_zero, List.getElem?_cons_succ] at q0 q1 q2 q3 q4
  refine wpOp_go rfl (by simp [Region.wanted, yielded, t10]) fun K hK => ?_
  have HK := Aside0.mk hK
  clear hK hT hdep hrw k20 k23
  unfold Oper.wp
  go_simp
  exact HK.out _ _ ⟨HW.out, rfl⟩
 ·have k20 : l.getD 10 false = true := by have := hdep _ rfl; simp [Region.binds] at this; simp [this]
  have t10 : a.tmps[32]? = some (.bool false) := hT 10 _ (by decide) rfl k20
  refine wpOp_go rfl (by simp [Region.wanted, yielded, t10]) fun K hK => ?_
  have HK := Aside0.mk hK
  clear hK hT hdep hrw k20
  unfold Oper.wp
  go_simp
  exact HK.out _ _ ⟨HW.out, rfl⟩
 ·have k20 : l.getD 10 false = true := by have := hdep _ rfl; simp [Region.binds] at this; simp [this]
  have t10 : a.tmps[32]? = some (.bool false) := hT 10 _ (by decide) rfl k20
  refine wpOp_go rfl (by simp [Region.wanted, yielded, t10]) fun K hK => ?_
  have HK := Aside0.mk hK
  clear hK hT hdep hrw k20
  unfold Oper.wp
  go_simp
  exact HK.out _ _ ⟨HW.out, rfl⟩
 ·have k20 : l.getD 10 false = true := by have := hdep _ rfl; simp [Region.binds] at this; simp [this]
  have t10 : a.tmps[32]? = some (.bool false) := hT 10 _ (by decide) rfl k20
  have k25 : l.getD 15 false = true := by have := hdep _ rfl; simp [Region.binds] at this; simp [this]
  have t15 : a.tmps[37]? = some (.slice (some ⟨B, 0, none⟩) 4 4) := hT 15 _ (by decide) rfl k25
  have k26 : l.getD 16 false = true := by have := hdep _ rfl; simp [Region.binds] at this; simp [this]
  have t16 : a.tmps[38]? = some (.int .i64 ((a0 : Nat) : Int)) := hT 16 _ (by decide) rfl k26
  refine wpOp_go rfl (by simp [Region.wanted, yielded, t10]) fun K hK => ?_
  have HK := Aside0.mk hK
  clear hK hT hdep hrw k20 k25 k26
  unfold Oper.wp
  go_simp
  exact HK.out _ _ ⟨HW.out, rfl⟩
 ·have k20 : l.getD 10 false = true := by have := hdep _ rfl; simp [Region.binds] at this; simp [this]
  have t10 : a.tmps[32]? = some (.bool false) := hT 10 _ (by decide) rfl k20
  have k27 : l.getD 17 false = true := by have := hdep _ rfl; simp [Region.binds] at this; simp [this]
  have t17 : a.tmps[39]? = some (.pointer (some ⟨B, a0 * 5, none⟩)) := hT 17 _ (by decide) rfl k27
  have q0 : w.cell? ⟨B, a0 * 5, none⟩ = _ := (blk_cell hrw (a0 * 5)).trans (hA 0 (by decide))
  have q1 := (blk_cell hrw (a0 * 5 + 1)).trans (hA 1 (by decide))
  have q2 := (blk_cell hrw (a0 * 5 + 2)).trans (hA 2 (by decide))
  have q3 := (blk_cell hrw (a0 * 5 + 3)).trans (hA 3 (by decide))
  have q4 := (blk_cell hrw (a0 * 5 + 4)).trans (hA 4 (by decide))
  simp only [List.getElem?_toArray, List.getElem?_cons_zero, List.getElem?_cons_succ] at q0 q1 q2 q3 q4
  refine wpOp_go rfl (by simp [Region.wanted, yielded, t10]) fun K hK => ?_
  have HK := Aside0.mk hK
  clear hK hT hdep hrw k20 k27
  unfold Oper.wp
  go_simp
  exact HK.out _ _ ⟨HW.out, rfl⟩
 ·have k20 : l.getD 10 false = true := by have := hdep _ rfl; simp [Region.binds] at this; simp [this]
  have t10 : a.tmps[32]? = some (.bool false) := hT 10 _ (by decide) rfl k20
  have k24 : l.getD 14 false = true := by have := hdep _ rfl; simp [Region.binds] at this; simp [this]
  have t14 : a.tmps[36]? = some (.agg #[.int .i64 k2, .string s2, .string m2, .slice none 0 0, .slice none 0 0]) := hT 14 _ (by decide) rfl k24
  have e14 := eval_of t14
  have k28 : l.getD 18 false = true := by have := hdep _ rfl; simp [Region.binds] at this; simp [this]
  have t18 : a.tmps[40]? = some (.agg #[.int .i64 k1, .string s1, .string m1, .slice none 0 0, .slice none 0 0]) := hT 18 _ (by decide) rfl k28
  have e18 := eval_of t18
  refine wpOp_callG rfl (by simp [Region.wanted, yielded, t10]) rfl Tryd.func19 kr_ rfl _ (by simp only [List.map_toArray, List.map_cons, List.map_nil, e14, e18]) ((C2 w).mono ?_)
  rintro e w3 ⟨rfl, hd⟩
  exact ⟨_, rfl, HW.out.trans (hd.mono hwz), rfl⟩
 ·have k20 : l.getD 10 false = true := by have := hdep _ rfl; simp [Region.binds] at this; simp [this]
  have t10 : a.tmps[32]? = some (.bool false) := hT 10 _ (by decide) rfl k20
  have k29 : l.getD 19 false = true := by have := hdep _ rfl; simp [Region.binds] at this; simp [this]
  have t19 : a.tmps[41]? = some (.int .i64 1) := hT 19 _ (by decide) rfl k29
  refine wpOp_go rfl (by simp [Region.wanted, yielded, t10]) fun K hK => ?_
  have HK := Aside0.mk hK
  clear hK hT hdep hrw k20 k29
  unfold Oper.wp
  go_simp
  exact HK.out _ _ ⟨HW.out, rfl⟩
 ·have k20 : l.getD 10 false = true := by have := hdep _ rfl; simp [Region.binds] at this; simp [this]
  have t10 : a.tmps[32]? = some (.bool false) := hT 10 _ (by decide) rfl k20
  have k30 : l.getD 20 false = true := by have := hdep _ rfl; simp [Region.binds] at this; simp [this]
  have t20 : a.tmps[42]? = some (.bool false) := hT 20 _ (by decide) rfl k30
  refine wpOp_go rfl (by simp [Region.wanted]) fun K hK => ?_
  have HK := Aside0.mk hK
  clear hK hT hdep hrw k20 k30
  unfold Oper.wp
  go_simp
  exact HK.out _ _ ⟨HW.out, rfl⟩

set_option maxHeartbeats 8000000 in
set_option maxRecDepth 100000 in
theorem awake_at (w : World) (h2 : ∀ (W : World) (A : Nat), W.heap[A]? = some (.cells awRow2 26 (0, 0)) → Calls Tryd.prog 21 #[.slice (some ⟨A, 0, none⟩) 2 2, .agg #[.string ⟨#[]⟩, .string ⟨#[]⟩, .string ⟨#[47, 97, 47, 98]⟩, .slice none 0 0, .slice none 0 0]] W fun e w' => e = .returned (.tuple #[.int .i64 1, .bool true]) ∧ Below W.heap.size W w')
  (h3 : ∀ W : World, Calls Tryd.prog 14 #[.agg #[.int .i64 2, .string ⟨#[47, 97]⟩, .string ⟨#[71, 69, 84]⟩, .slice none 0 0, .slice none 0 0], .agg #[.string ⟨#[71, 69, 84]⟩, .string ⟨#[]⟩, .string ⟨#[47, 97]⟩, .slice none 0 0, .slice none 0 0]] W fun e w' => e = .returned (.bool true) ∧ Below W.heap.size W w')
  (h4 : ∀ W : World, Calls Tryd.prog 14 #[.agg #[.int .i64 2, .string ⟨#[47, 97]⟩, .string ⟨#[71, 69, 84]⟩, .slice none 0 0, .slice none 0 0], .agg #[.string ⟨#[80, 79, 83, 84]⟩, .string ⟨#[]⟩, .string ⟨#[47, 97]⟩, .slice none 0 0, .slice none 0 0]] W fun e w' => e = .returned (.bool false) ∧ Below W.heap.size W w')
  (h1 : ∀ i j, i < j → j < 4 → ordF (awR i) (awR j) = some (-1) ∧ ordF (awR j) (awR i) = some 1) :
  Calls Tryd.prog 18 #[] w fun e w' => e = .returned (.bool true) ∧ Below w.heap.size w w' := by
 have H1 := Aside0.mk h1
 have H2 := Aside0.mk h2
 have H3 := Aside0.mk h3
 have H4 := Aside0.mk h4
 clear h1 h2 h3 h4
 have HB0 := am_ (Below.refl w.heap.size w)
 have mixed : Tryd.prog.follows .mixedOrders = true := by kernel_rfl
 go_enter Tryd.func18, Tryd.ntmps18
 go_wp2_with (go_at_call 44; refine (on_at _ _ _).mono ?_; rintro e w' ⟨rfl, hd⟩; have HBn := am_ (HB0.out.trans (hd.mono HB0.out.size)); clear hd HB0; have HB0 := HBn; clear HBn)
 obtain ⟨wa, hwa⟩ : ∃ wa, wa = w' := ⟨_, rfl⟩
 rw [← hwa] at HB0 ⊢
 clear hwa
 obtain ⟨B, hBs⟩ : ∃ B, B = wa.heap.size := ⟨_, rfl⟩
 rw [← hBs]
 obtain ⟨W1, hW1⟩ : ∃ W1, W1 = wa.alloc (Obj.cells awRow 26) := ⟨_, rfl⟩
 have hrow : W1.heap[B]? = some (.cells awRow 26 (0, 0)) := by rw [hW1, hBs]; exact heap_alloc_new wa _
 have hBle : w.heap.size ≤ B := by rw [hBs]; exact HB0.out.size
 have HB1 := am_ (show Below w.heap.size w W1 from by rw [hW1]; exact HB0.out.alloc HB0.out.size _)
 change Code.wp _ _ _ _ (wa.alloc (Obj.cells awRow 26))
 rw [← hW1]
 have HROW := Aside0.mk hrow
 have hB1 : B + 1 ≤ W1.heap.size := blk_lt hrow
 clear hrow hW1 hBs HB0
 go_loopw [2, 3] (fun i _ wr => ∃ a : Nat, a ≤ 4 ∧ i = .int .i64 (a : Int) ∧ Below (B + 1) W1 wr) (fun i _ _ => 4 - (intOf i).toNat)
 case atStart => exact ⟨0, by omega, rfl, Below.refl _ _⟩
 case round =>
  obtain ⟨a, ha, rfl, hbo⟩ := hrel
  have HBO := Aside0.mk hbo
  clear hbo
  by_cases h4 : a < 4
  ·go_wp2
   go_loopw [3] (fun v wr2 => ∃ b : Nat, a < b ∧ b ≤ 4 ∧ v = .int .i64 (b : Int) ∧ Below (B + 1) W1 wr2) (fun v _ => 4 - (intOf v).toNat)
   case atStart => exact ⟨a + 1, by omega, by omega, by simp, HBO.out⟩
   case round =>
    obtain ⟨b, hb1, hb2, rfl, hbo2⟩ := hrel
    have HBO2 := Aside0.mk hbo2
    by_cases h5 : b < 4
    ·clear hbo2
     go_wp2
     refine region8_at _ W1 _ B a b (awK a) (awK b) (awS a) (awM a) (awS b) (awM b) _ mixed (by omega) h5 rfl rfl rfl rfl HROW.out (fun c hc => awRow_at a c (by omega) hc) (fun c hc => awRow_at b c h5 hc) HBO2.out (fun W => order_at _ _ _ _ _ _ _ _ _ _ _ _ _ _ _ _ _ _ W _ (H1.out a b hb1 h5).1) (fun W => order_at _ _ _ _ _ _ _ _ _ _ _ _ _ _ _ _ _ _ W _ (H1.out a b hb1 h5).2) (fun w8 h8 => ?_)
     have H8 := Aside0.mk h8
     clear h8
     simp only [r8v, List.range, List.range.loop, List.foldl, List.getD_cons_zero, List.getD_cons_succ, List.setIfInBounds_toArray, List.set_cons_zero, List.set_cons_succ, Nat.reduceAdd]
     go_wp2
     go_roundw
     case rel => exact ⟨b + 1, by omega, by omega, by simp, H8.out⟩
     case measure => simp [intOf]; omega
    ·obtain rfl : b = 4 := by omega
     go_wp2
     go_roundw
     case rel => exact ⟨a + 1, by omega, by simp, HBO2.out⟩
     case measure => simp [intOf]; omega
  ·obtain rfl : a = 4 := by omega
   go_wp2_with (first | (go_at_call 21; refine (H2.out _ _ (heap_alloc_new _ _)).mono ?_; rintro e w4 ⟨rfl, hd⟩; have HBn := am_ (HBO.out.trans ((((Below.refl _ _).alloc (Nat.le_refl _) _).trans (hd.mono (by simp))).mono (Nat.le_trans hB1 HBO.out.size))); clear hd HBO; have HBO := HBn; clear HBn) | (go_at_call 14; refine (H3.out _).mono ?_; clear H3; rintro e w5 ⟨rfl, hd⟩; have HBn := am_ (HBO.out.trans (hd.mono (Nat.le_trans hB1 HBO.out.size))); clear hd HBO; have HBO := HBn; clear HBn) | (go_at_call 14; refine (H4.out _).mono ?_; rintro e w6 ⟨rfl, hd⟩; have HBn := am_ (HBO.out.trans (hd.mono (Nat.le_trans hB1 HBO.out.size))); clear hd HBO; have HBO := HBn; clear HBn) | (go_at_call 44; refine (on_at _ _ _).mono ?_; rintro e w' ⟨rfl, hd⟩; have HBn := am_ (HBO.out.trans (hd.mono (Nat.le_trans hB1 HBO.out.size))); clear hd HBO; have HBO := HBn; clear HBn))
   go_ret
   exact ⟨rfl, HB1.out.trans (HBO.out.mono (by omega))⟩
noncomputable def aw2 : List (S26) := [⟨⟨2, ⟨#[47]⟩⟩, ⟨#[]⟩, [], []⟩, ⟨⟨2, ⟨#[47, 97]⟩⟩, ⟨#[]⟩, [], []⟩]
theorem aw2_row (W : World) (A : Nat) (h : W.heap[A]? = some (.cells awRow2 26 (0, 0))) : Kd.C k26 W (some ⟨A, 0, none⟩) aw2.length aw2 := by
 have hn := Kd.C_nil k49 W
 refine ⟨rfl, by show 2 ≤ maxLen; decide, fun _ => ⟨_, rfl, fun j p hj => ?_⟩⟩
 match j, hj with
 | 0, hj =>
  obtain rfl := (Option.some.inj hj).symm
  refine ⟨_, rfl, k26_mk W _ (A3 := none) (c3 := 0) (Nat.le_refl _) hn (A4 := none) (c4 := 0) (Nat.le_refl _) hn, fun i u hi => ?_⟩
  have hz : (k26 : Kd (S26)).sz = 5 := rfl
  rw [hz, Addr.add_lit, Nat.zero_add, blk_cell h]
  match i, hi with
  | 0, hi => exact hi
  | 1, hi => exact hi
  | 2, hi => exact hi
  | 3, hi => exact hi
  | 4, hi => exact hi
  | n + 5, hi => simp at hi
 | 1, hj =>
  obtain rfl := (Option.some.inj hj).symm
  refine ⟨_, rfl, k26_mk W _ (A3 := none) (c3 := 0) (Nat.le_refl _) hn (A4 := none) (c4 := 0) (Nat.le_refl _) hn, fun i u hi => ?_⟩
  have hz : (k26 : Kd (S26)).sz = 5 := rfl
  rw [hz, Addr.add_lit, Nat.zero_add, blk_cell h]
  match i, hi with
  | 0, hi => exact hi
  | 1, hi => exact hi
  | 2, hi => exact hi
  | 3, hi => exact hi
  | 4, hi => exact hi
  | n + 5, hi => simp at hi
 | n + 2, hj => simp [aw2] at hj
/-- Are the chapter's examples as they are told? -/
noncomputable def AwakeOk : Prop := (∀ i j, i < j → j < 4 → ordF (awR i) (awR j) = some (-1) ∧ ordF (awR j) (awR i) = some 1) ∧ (∃ k, rule_First.f k aw2 ⟨#[]⟩ ⟨#[]⟩ ⟨#[47, 97, 47, 98]⟩ [] [] = some (1, true)) ∧
 (∃ k, rule_Holds.f k 2 ⟨#[47, 97]⟩ ⟨#[71, 69, 84]⟩ [] [] ⟨#[71, 69, 84]⟩ ⟨#[]⟩ ⟨#[47, 97]⟩ [] [] = some true) ∧ (∃ k, rule_Holds.f k 2 ⟨#[47, 97]⟩ ⟨#[71, 69, 84]⟩ [] [] ⟨#[80, 79, 83, 84]⟩ ⟨#[]⟩ ⟨#[47, 97]⟩ [] [] = some false)
noncomputable def tolllaw06_awake.f : Option (Bool) := open Classical in if AwakeOk then some true else none
theorem tolllaw06_awake.calls (r : Bool) (w : World) (h : tolllaw06_awake.f = some r) :
  Calls Tryd.prog 18 #[] w fun e w' => e = .returned (.bool r) ∧ Below w.heap.size w w' := by
 unfold tolllaw06_awake.f at h
 split at h
 ·next ho =>
  obtain rfl := Option.some.inj h
  obtain ⟨h1, ⟨k2, h2⟩, ⟨k3, h3⟩, ⟨k4, h4⟩⟩ := ho
  have hb : ∀ {W w' : World} {P : Prop}, (P ∧ Below W.heap.size W w') → P ∧ Below W.heap.size W w' := fun h => h
  refine awake_at w (fun W A hA => (rule_First.calls k2 (some ⟨A, 0, none⟩) 2 aw2 _ _ _ none 0 [] none 0 [] 1 true W (aw2_row W A hA) (Nat.le_refl _) (Kd.C_nil _ _) (Nat.le_refl _) (Kd.C_nil _ _) (Nat.le_refl _) h2).mono ?_) (fun W => (rule_Holds.calls k3 2 _ _ none 0 [] none 0 [] _ _ _ none 0 [] none 0 [] true W (Kd.C_nil _ _) (Nat.le_refl _) (Kd.C_nil _ _) (Nat.le_refl _) (Kd.C_nil _ _) (Nat.le_refl _) (Kd.C_nil _ _) (Nat.le_refl _) h3).mono ?_) (fun W => (rule_Holds.calls k4 2 _ _ none 0 [] none 0 [] _ _ _ none 0 [] none 0 [] false W (Kd.C_nil _ _) (Nat.le_refl _) (Kd.C_nil _ _) (Nat.le_refl _) (Kd.C_nil _ _) (Nat.le_refl _) (Kd.C_nil _ _) (Nat.le_refl _) h4).mono ?_) h1
  ·rintro e w' ⟨rfl, hd⟩; exact ⟨rfl, by first | exact hd.below | exact hd⟩
  ·rintro e w' ⟨rfl, hd⟩; exact ⟨rfl, by first | exact hd.below | exact hd⟩
  ·rintro e w' ⟨rfl, hd⟩; exact ⟨rfl, by first | exact hd.below | exact hd⟩
 ·cases h

/-! ### tolllaw06_some: function 20 -/
noncomputable def tolllaw06_some.l0 : Nat → List (S26) → List (S26) → Int → Option ((List (S26)))
 | 0, _, _, _ => none
 | k + 1, x0, x3, x4 => if x4 < (x0.length : Int) then (if x4 < 10 then (if 0 ≤ x4 then ((tolllaw06_Few.f k ((rd_T26 x0 x4).f0.f0) ((rd_T26 x0 x4).f0.f1) ((rd_T26 x0 x4).f1) ((rd_T26 x0 x4).f2) ((rd_T26 x0 x4).f3)).bind fun bt187 => (if x3.length < 1599289640401 then (tolllaw06_some.l0 k x0 (x3 ++ [(⟨(⟨bt187.1, bt187.2.1⟩ : S23), bt187.2.2.1, bt187.2.2.2.1, bt187.2.2.2.2⟩ : S26)]) (wrap64 (x4 + 1))) else (none))) else (none)) else (some x3)) else (some x3)
noncomputable def tolllaw06_some.f (k : Nat) (l0 : List (S26)) : Option ((List (S26))) := tolllaw06_some.l0 k l0 ([] : List (S26)) 0
theorem tolllaw06_some.mono_l : ∀ k, (∀ y0 y1 y2, LeO (tolllaw06_some.l0 k y0 y1 y2) (tolllaw06_some.l0 (k + 1) y0 y1 y2))
 | 0 => fun _ _ _ r h => by simp [tolllaw06_some.l0] at h
 | k + 1 => by
  have ih0 := tolllaw06_some.mono_l k
  ·intro y0 y1 y2
   unfold tolllaw06_some.l0
   repeat' first
   | (with_reducible exact ih0 _ _ _)
   | (with_reducible exact tolllaw06_Few.mono _ _ _ _ _ _)
   | (with_reducible exact LeO.refl _)
   | (with_reducible exact LeO.none _)
   | (with_reducible refine LeO.ite ?_ ?_)
   | (with_reducible refine LeO.bind ?_ (fun _ => ?_))
   | exact ih0 _ _ _
   | exact tolllaw06_Few.mono _ _ _ _ _ _
   | exact LeO.none _
   | refine LeO.ite ?_ ?_
   | refine LeO.bind ?_ (fun _ => ?_)
theorem tolllaw06_some.mono : ∀ a0 k, LeO (tolllaw06_some.f k a0) (tolllaw06_some.f (k + 1) a0) := by
 intro a0 k
 have ih0 := tolllaw06_some.mono_l k
 unfold tolllaw06_some.f
 repeat' first
   | (with_reducible exact ih0 _ _ _)
   | (with_reducible exact tolllaw06_Few.mono _ _ _ _ _ _)
   | (with_reducible exact LeO.refl _)
   | (with_reducible exact LeO.none _)
   | (with_reducible refine LeO.ite ?_ ?_)
   | (with_reducible refine LeO.bind ?_ (fun _ => ?_))
   | exact ih0 _ _ _
   | exact tolllaw06_Few.mono _ _ _ _ _ _
   | exact LeO.none _
   | refine LeO.ite ?_ ?_
   | refine LeO.bind ?_ (fun _ => ?_)
set_option maxHeartbeats 8000000 in
set_option maxRecDepth 100000 in
theorem tolllaw06_some.calls (k : Nat) (A0 : Option Addr) (c0 : Nat) (l0 : List (S26)) (r : List (S26)) (w : World) (hr0 : Kd.C k26 w A0 l0.length l0) (hc0 : l0.length ≤ c0) (h : tolllaw06_some.f k l0 = some r) :
  Calls Tryd.prog 20 #[.slice A0 l0.length c0] w fun e w' => ∃ v0_ : Value, e = .returned (v0_) ∧ Kd.S k26 26 w' w.heap.size (fun _ => True) v0_ r ∧ Below w.heap.size w w' := by
 have hu26 := Tryd.underlying26
 have HR0 := Aside0.mk hr0
 have HC0 := Aside0.mk hc0
 clear hr0 hc0
 have HB := am_ (Below.refl w.heap.size w)
 have H : (tolllaw06_some.l0 k l0 ([] : List (S26)) 0) = some r := h
 clear h
 have H' := Aside0.mk H
 clear H
 go_enter Tryd.func20, Tryd.ntmps20
 go_wp2
 go_loopg [3, 4] k (fun kq v3 v4 w' => ∃ (x3_1 : List (S26)) (x4_1 : Int), v4 = .int .i64 x4_1 ∧ Aside0 (tolllaw06_some.l0 kq l0 x3_1 x4_1 = some r) ∧ Aside0 (kq ≤ k) ∧ Aside0 (Kd.S k26 26 w' w.heap.size (fun _ => True) v3 x3_1) ∧ Aside0 (Below w.heap.size w w'))
 case atStart => exact ⟨(([] : List (S26))), (0), sd_, H', ⟨Nat.le_refl _⟩, ⟨by first | exact Kd.S_nil _ _ _ _ _ | exact Kd.N_nil _ _ _ _ _ | exact Kd.V_nil _ _ _ _ _ | exact Kd.Q_nil _ _ _ _ _ | exact Kd.R_nil _ _ _ _ _⟩, ⟨bel_ HB.out⟩⟩
 case round =>
  clear H'
  obtain ⟨x3_1, x4_1, rfl, HA, HK1, HO_3, HB⟩ := hrel
  cases gk with
  | zero => exact absurd HA.out (by simp [tolllaw06_some.l0])
  | succ k1 =>
   have H := HA.out
   clear HA
   simp only [tolllaw06_some.l0] at H
   by_cases c2 : x4_1 < (l0.length : Int)
   ·rw [if_pos c2] at H
    have c2b0 : decide (x4_1 < (l0.length : Int)) = true := decide_eq_true c2
    clear c2
    by_cases c3 : x4_1 < 10
    ·rw [if_pos c3] at H
     have c3b0 : decide (x4_1 < 10) = true := decide_eq_true c3
     clear c3
     by_cases c4 : 0 ≤ x4_1
     ·rw [if_pos c4] at H
      have c4b0 : decide (0 ≤ x4_1) = true := decide_eq_true c4
      clear c4
      replace H := Option.bind_eq_some_iff.mp H
      obtain ⟨⟨t187, t188, t189, t190, t193⟩, A50, H⟩ := H
      replace H : (if x3_1.length < 1599289640401 then (tolllaw06_some.l0 k1 l0 (x3_1 ++ [(⟨(⟨t187, t188⟩ : S23), t189, t190, t193⟩ : S26)]) (wrap64 (x4_1 + 1))) else (none)) = some r := H
      have A5 := Aside0.mk A50
      clear A50
      by_cases c6 : x3_1.length < 1599289640401
      ·rw [if_pos c6] at H
       have LMc6 := Aside0.mk c6
       clear c6
       obtain ⟨y196, hy196⟩ : ∃ y_ : List (S26), y_ = (x3_1 ++ [(⟨(⟨t187, t188⟩ : S23), t189, t190, t193⟩ : S26)]) := ⟨_, rfl⟩
       replace H : (tolllaw06_some.l0 k1 l0 y196 (wrap64 (x4_1 + 1))) = some r := by first | (rw [hy196]; with_reducible exact H) | (have H2_ := (Option.bind_some _ _).symm.trans H; rw [hy196]; with_reducible exact H2_) | (have H2_ := (Option.bind_some _ _).symm.trans H; with_reducible exact H2_) | with_reducible exact H | (rw [hy196]; exact H) | exact H
       have Ny196 := Aside0.mk hy196
       clear hy196
       have H' := Aside0.mk H
       clear H
       have p186 : 0 ≤ (x4_1 : Int) := of_decide_eq_true as_
       have q186 : x4_1 < (l0.length : Int) := of_decide_eq_true as_
       obtain ⟨ad186, A186_3, c186_3, A186_4, c186_4, e186, hx186_0, hx186_1, hx186_2, hx186_3, hx186_4, hl186_3, hi186_3, hl186_4, hi186_4⟩ := at_T26 HR0.out x4_1 p186 q186
       cases e186
       replace hx186_0 := (HB.out.cell (World.block_lt_of_cell? w _ hx186_0)).trans hx186_0
       replace hx186_1 := (HB.out.cell (World.block_lt_of_cell? w _ hx186_1)).trans hx186_1
       replace hx186_2 := (HB.out.cell (World.block_lt_of_cell? w _ hx186_2)).trans hx186_2
       replace hx186_3 := (HB.out.cell (World.block_lt_of_cell? w _ hx186_3)).trans hx186_3
       replace hx186_4 := (HB.out.cell (World.block_lt_of_cell? w _ hx186_4)).trans hx186_4
       have HR186_3 := Aside0.mk hi186_3
       have HC186_3 := Aside0.mk hl186_3
       clear hi186_3 hl186_3
       have HR186_4 := Aside0.mk hi186_4
       have HC186_4 := Aside0.mk hl186_4
       clear hi186_4 hl186_4
       replace p186 := eq_true p186
       replace q186 := eq_true q186
       go_wp2_with (first | ((with_reducible refine gate_callee (f := 9) rfl ?_); refine goesL_ (some 20) rfl rfl Tryd.func9 kr_ rfl #[.agg #[.int .i64 ((rd_T26 l0 x4_1).f0.f0), .string ((rd_T26 l0 x4_1).f0.f1), .string ((rd_T26 l0 x4_1).f1), .slice A186_3 ((rd_T26 l0 x4_1).f2).length c186_3, .slice A186_4 ((rd_T26 l0 x4_1).f3).length c186_4]] rfl rl_ ?_; (with_reducible refine (tolllaw06_Few.calls k1 ((rd_T26 l0 x4_1).f0.f0) ((rd_T26 l0 x4_1).f0.f1) ((rd_T26 l0 x4_1).f1) _ _ ((rd_T26 l0 x4_1).f2) _ _ ((rd_T26 l0 x4_1).f3) t187 t188 t189 t190 t193 _ ?side1 ?side2 ?side3 ?side4 A5.out).mono ?_); (case side1 => exact C_ (Kd.C_below HR186_3.out HB.out)); (case side2 => exact HC186_3.out); (case side3 => exact C_ (Kd.C_below HR186_4.out HB.out)); (case side4 => exact HC186_4.out); rintro e w7 ⟨v191, v194, rfl, ho0, ho1, hb⟩; refine ⟨_, rfl, ?_⟩; have n0_ := am_ (Kd.S_mono (Kd.S_told (Kd.S_told (Kd.S_old (by (with_reducible repeat (first | apply Kd.S_alloc | apply Kd.S_drewN | apply Kd.S_drew)); exact HO_3.out) hb) (Kd.R_base ho0)) (Kd.R_base ho1)) (fun _ h_ => h_.1)); have n1_ := am_ (Kd.R_lower ho0 (below_size (bel_ HB.out))); have n2_ := am_ (Kd.R_lower ho1 (below_size (bel_ HB.out))); have n3_ := am_ (below_step (bel_ HB.out) hb); clear HO_3 HB; have HO_3 := n0_; have HO192 := n1_; have HO195 := n2_; have HB := n3_; clear n0_ n1_ n2_ n3_; (try clear hb); (try clear hb2); (try clear hk); (try clear hi); (try clear ho0); (try clear ho1); obtain ⟨Ao9, co9, eo9⟩ := Kd.R_slice HO192.out; subst eo9; obtain ⟨Ao10, co10, eo10⟩ := Kd.R_slice HO195.out; subst eo10) | ((with_reducible refine gate_builtin (b := .append) (xs := #[.tmp 15, .tmp 21]) rfl ?_); at_builtin; refine Kd.S_append k26 (w0 := w) w.heap.size rfl (.tmp 15) (.tmp 21) 39 26 (.agg #[(.int .i64 0), (.string ⟨#[]⟩), (.string ⟨#[]⟩), (.slice none 0 0), (.slice none 0 0)]) 88 rfl Tryd.underlying39 info26 rfl (by decide) (by omega) u3 x3_1 (⟨(⟨t187, t188⟩ : S23), t189, t190, t193⟩ : S26) [.int .i64 t187, .string t188, .string t189, .slice Ao9 t190.length co9, .slice Ao10 t193.length co10] (fun _ => True) (fun k_ => some k_ = (.slice Ao9 t190.length co9 : Value).ownBlock ∨ some k_ = (.slice Ao10 t193.length co10 : Value).ownBlock) rfl rfl ?aP (fun k_ hk_ => hk_.elim (fun h_ => ((Kd.R_mono (ok' := fun k_ => ((fun _ => True)) k_ ∧ some k_ ≠ (u3 : Value).ownBlock) (Kd.R_apart' (HO192.out) (Kd.S_typed HO_3.out) (by decide)) (fun k_ hk => ⟨trivial, hk.2⟩))).1 k_ h_.symm) (fun h_ => ((Kd.R_mono (ok' := fun k_ => ((fun _ => True)) k_ ∧ some k_ ≠ (u3 : Value).ownBlock) (Kd.R_apart' (HO195.out) (Kd.S_typed HO_3.out) (by decide)) (fun k_ hk => ⟨trivial, hk.2⟩))).1 k_ h_.symm)) ?aF ?aO ?aB ?aS ?aL ?_; (case aP => exact k26_mkM _ _ _ (⟨(⟨t187, t188⟩ : S23), t189, t190, t193⟩ : S26) (Kd.R_mono (Kd.R_tight rfl (Kd.R_mono (ok' := fun k_ => ((fun _ => True)) k_ ∧ some k_ ≠ (u3 : Value).ownBlock) (Kd.R_apart' (HO192.out) (Kd.S_typed HO_3.out) (by decide)) (fun k_ hk => ⟨trivial, hk.2⟩))) (fun _ h_ => Or.inl h_)) (Kd.R_mono (Kd.R_tight rfl (Kd.R_mono (ok' := fun k_ => ((fun _ => True)) k_ ∧ some k_ ≠ (u3 : Value).ownBlock) (Kd.R_apart' (HO195.out) (Kd.S_typed HO_3.out) (by decide)) (fun k_ hk => ⟨trivial, hk.2⟩))) (fun _ h_ => Or.inr (h_)))); (case aB => exact (bel_ HB.out)); (case aF => exact (fun _ _ => trivial)); (case aO => exact (by (with_reducible repeat (first | apply Kd.S_alloc | apply Kd.S_drewN | apply Kd.S_drew)); exact Kd.S_mono HO_3.out (fun k_ hk => ⟨trivial, fun e_ => e_.elim (fun h_ => hk.1.2 h_) (fun h_ => hk.2 h_)⟩))); (case aS => exact (below_size (bel_ HB.out))); (case aL => have := LMc6.out; omega); intro v197 w8 ho hb hg hat; rw [← Ny196.out] at ho; have n0_ := am_ (hb); have n1_ := am_ (ho); clear HB HO_3 HO192 HO195; have HB := n0_; have HO198 := n1_; clear n0_ n1_ ho hb hg hat))
       go_roundg k1
       case measure => have := HK1.out; omega
       case rel => exact ⟨(y196), (wrap64 (x4_1 + 1)), sd_, H', ⟨by have := HK1.out; omega⟩, ⟨by (with_reducible repeat (first | apply Kd.S_alloc | apply Kd.S_drewN | apply Kd.S_drew)); exact HO198.out⟩, ⟨bel_ HB.out⟩⟩
      ·rw [if_neg c6] at H
       exact absurd H (by simp)
     ·rw [if_neg c4] at H
      exact absurd H (by simp)
    ·rw [if_neg c3] at H
     have c3b0 : decide (x4_1 < 10) = false := decide_eq_false c3
     clear c3
     obtain rfl := Option.some.inj H
     go_wp2
     go_ret
     exact ⟨_, by first | rfl | (simp [errW_none, errW_some] <;> rfl) | (simp [*, errW_none, errW_some] <;> rfl), by (with_reducible repeat (first | apply Kd.S_alloc | apply Kd.S_drewN | apply Kd.S_drew)); exact HO_3.out, bel_ HB.out⟩
   ·rw [if_neg c2] at H
    have c2b0 : decide (x4_1 < (l0.length : Int)) = false := decide_eq_false c2
    clear c2
    obtain rfl := Option.some.inj H
    go_wp2
    go_ret
    exact ⟨_, by first | rfl | (simp [errW_none, errW_some] <;> rfl) | (simp [*, errW_none, errW_some] <;> rfl), by (with_reducible repeat (first | apply Kd.S_alloc | apply Kd.S_drewN | apply Kd.S_drew)); exact HO_3.out, bel_ HB.out⟩

end Go.Proofs.YtompldnifiieaaaDoor.P
