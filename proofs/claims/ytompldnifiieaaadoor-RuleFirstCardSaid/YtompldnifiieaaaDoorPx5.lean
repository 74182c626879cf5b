-- written by wip/tool/hprint.py of this repo: the kit's print, with contracts by hand joined; Lean checks it.
import Derived.Test.YtompldnifiieaaaDoorPx0
import Derived.Test.YtompldnifiieaaaDoorPx4
namespace Go.Proofs.YtompldnifiieaaaDoor.P
open Go.RowKit Go.Proofs.YtompldnifiieaaaDoorW.PrintWords Go.Proofs.YtompldnifiieaaaDoorW.PrintLast Go.Proofs.YtompldnifiieaaaDoorW.PrintMore
attribute [local go_sem] max2_int min2_int max_two min_two max_three min_three max_four min_four   -- for this text's walks alone
set_option linter.unusedVariables false
set_option linter.unusedSimpArgs false

/-! ### rule_ranked: function 45 -/
/-- A match's rank. -/
noncomputable def rankL (k : Int) (s m : ByteArray) (n2 n3 : Nat) : List Int := [k, wrap64 (-(s.size : Int)), (if m.toList = ([] : List UInt8) then 1 else 0), wrap64 (-(n2 : Int)), wrap64 (-(n3 : Int))]
set_option maxHeartbeats 8000000 in
set_option maxRecDepth 100000 in
theorem ranked_at (k : Int) (s m : ByteArray) (A2 A3 : Option Addr) (n2 c2 n3 c3 : Nat) (w : World) :
  Calls Tryd.prog 45 #[.agg #[.int .i64 k, .string s, .string m, .slice A2 n2 c2, .slice A3 n3 c3]] w fun e w' => e = .returned (.agg ((rankL k s m n2 n3).map (Value.int .i64)).toArray) ∧ Below w.heap.size w w' := by
 unfold rankL
 by_cases hm : m.toList = ([] : List UInt8)
 ·have hm1 : (m.toList == ([] : List UInt8)) = true := beq_iff_eq.2 hm
  rw [if_pos hm]
  clear hm
  go_enter Tryd.func45, Tryd.ntmps45
  go_wp2
  refine bodyPost_ret (results_cell_row rfl _ _ (w.heap.size + 1) 62 #[.int .i64 k, .int .i64 (wrap64 (-(s.size : Int))), .int .i64 1, .int .i64 (wrap64 (-(n2 : Int))), .int .i64 (wrap64 (-(n3 : Int)))] (0, 0) _ rfl (by rw [show w.heap.size + 1 = (w.alloc (.cells #[.int .i64 k, .string s, .string m, .slice A2 n2 c2, .slice A3 n3 c3] 26)).heap.size from (Array.size_push _).symm]; exact heap_alloc_new _ _) Tryd.underlying62 rfl kr_) rfl ?_
  exact ⟨rfl, ((Below.refl _ w).alloc (Nat.le_refl _) _).alloc (by show w.heap.size ≤ (w.heap.push _).size; rw [Array.size_push]; omega) _⟩
 ·have hm1 : (m.toList == ([] : List UInt8)) = false := beq_eq_false_iff_ne.2 hm
  rw [if_neg hm]
  clear hm
  go_enter Tryd.func45, Tryd.ntmps45
  go_wp2
  refine bodyPost_ret (results_cell_row rfl _ _ (w.heap.size + 1) 62 #[.int .i64 k, .int .i64 (wrap64 (-(s.size : Int))), .int .i64 0, .int .i64 (wrap64 (-(n2 : Int))), .int .i64 (wrap64 (-(n3 : Int)))] (0, 0) _ rfl (by rw [show w.heap.size + 1 = (w.alloc (.cells #[.int .i64 k, .string s, .string m, .slice A2 n2 c2, .slice A3 n3 c3] 26)).heap.size from (Array.size_push _).symm]; exact heap_alloc_new _ _) Tryd.underlying62 rfl kr_) rfl ?_
  exact ⟨rfl, ((Below.refl _ w).alloc (Nat.le_refl _) _).alloc (by show w.heap.size ≤ (w.heap.push _).size; rw [Array.size_push]; omega) _⟩
/-- How two rows of numbers compare. -/
theorem row5 {w : World} {g : Nat} {t : TypeId} (l : List Int) (h : w.heap[g]? = some (.cells (l.map (Value.int .i64)).toArray t (0, 0))) (hl : l.length ≤ 9223372036854775807) : Kd.C (Kd.int .i64) w (some ⟨g, 0, none⟩) l.length l := by
 refine ⟨rfl, hl, fun _ => ⟨_, rfl, fun j p hj => ⟨[.int .i64 p], rfl, rfl, fun i u hi => ?_⟩⟩⟩
 cases i with
 | zero =>
  have hz : (Kd.int IntKind.i64).sz = 1 := rfl
  rw [hz, Addr.add_lit, Nat.zero_add, Nat.mul_one, Nat.add_zero, blk_cell h]
  simp only [List.getElem?_toArray, List.getElem?_map, hj]
  exact hi
 | succ i => simp at hi
/-- Which of two matches comes first. -/
noncomputable def ordF (x y : List Int) : Option Int := if x = y then some 0 else limF fun k => slices_Compare_int_int.f k x y
theorem eq5 (x0 x1 x2 x3 x4 y0 y1 y2 y3 y4 : Int) (W : World) : (Op.equalIn 10000 62 (.agg #[.int .i64 x0, .int .i64 x1, .int .i64 x2, .int .i64 x3, .int .i64 x4]) (.agg #[.int .i64 y0, .int .i64 y1, .int .i64 y2, .int .i64 y3, .int .i64 y4])).run Tryd.prog W = .ok (decide ([x0, x1, x2, x3, x4] = [y0, y1, y2, y3, y4])) W := by
 have hi : ∃ i, Tryd.prog.info? 3 = some i := by
  have : (Tryd.prog.info? 3).isSome = true := by kernel_rfl
  exact Option.isSome_iff_exists.1 this
 obtain ⟨i, hi⟩ := hi
 have hc : Tryd.prog.cellsOf 3 = 1 := by kernel_rfl
 have he : ∀ (a b : Int), (Op.equalIn 9999 3 (.int .i64 a) (.int .i64 b)).run Tryd.prog W = .ok (a == b) W := fun a b => by
  have hu := run_underlying (w := W) Tryd.underlying3
  rw [show (9999 : Nat) = 9998 + 1 from rfl]
  rw [Op.equalIn]
  simp only [Sem.run_bind, hu, Result.andThen_ok]
  rfl
 rw [show (10000 : Nat) = 9999 + 1 from rfl, run_equalIn_array W 9999 _ _ Tryd.underlying62 hi, hc]
 have p0 : ∀ a b c d e : Int, (part 3 #[.int .i64 a, .int .i64 b, .int .i64 c, .int .i64 d, .int .i64 e] 0).run Tryd.prog W = .ok (.int .i64 a) W := fun a b c d e => by kernel_rfl
 have p1 : ∀ a b c d e : Int, (part 3 #[.int .i64 a, .int .i64 b, .int .i64 c, .int .i64 d, .int .i64 e] 1).run Tryd.prog W = .ok (.int .i64 b) W := fun a b c d e => by kernel_rfl
 have p2 : ∀ a b c d e : Int, (part 3 #[.int .i64 a, .int .i64 b, .int .i64 c, .int .i64 d, .int .i64 e] 2).run Tryd.prog W = .ok (.int .i64 c) W := fun a b c d e => by kernel_rfl
 have p3 : ∀ a b c d e : Int, (part 3 #[.int .i64 a, .int .i64 b, .int .i64 c, .int .i64 d, .int .i64 e] 3).run Tryd.prog W = .ok (.int .i64 d) W := fun a b c d e => by kernel_rfl
 have p4 : ∀ a b c d e : Int, (part 3 #[.int .i64 a, .int .i64 b, .int .i64 c, .int .i64 d, .int .i64 e] 4).run Tryd.prog W = .ok (.int .i64 e) W := fun a b c d e => by kernel_rfl
 rw [show List.range 5 = [0, 1, 2, 3, 4] from rfl]
 simp only [Op.eqItems, Sem.run_bind, Nat.zero_mul, Nat.one_mul, Nat.mul_one, p0, p1, p2, p3, p4, Result.andThen_ok, he]

 by_cases h0 : x0 = y0 <;> by_cases h1 : x1 = y1 <;> by_cases h2 : x2 = y2 <;> by_cases h3 : x3 = y3 <;> by_cases h4 : x4 = y4 <;> simp [h0, h1, h2, h3, h4, he, p1, p2, p3, p4]
noncomputable def Box5 (g : Nat) (k : Int) (s m : ByteArray) (A2 A3 : Option Addr) (n2 c2 n3 c3 : Nat) (w : World) : Prop := w.cell? ⟨g, 0, none⟩ = some (.int .i64 k) ∧ w.cell? ⟨g, 1, none⟩ = some (.string s) ∧ w.cell? ⟨g, 2, none⟩ = some (.string m) ∧ w.cell? ⟨g, 3, none⟩ = some (.slice A2 n2 c2) ∧ w.cell? ⟨g, 4, none⟩ = some (.slice A3 n3 c3)
set_option maxHeartbeats 8000000 in
set_option maxRecDepth 100000 in
theorem order_at (k k' : Int) (s m s' m' : ByteArray) (A2 A3 A2' A3' : Option Addr) (n2 c2 n3 c3 n2' c2' n3' c3' : Nat) (w : World) (r : Int) (h : ordF (rankL k s m n2 n3) (rankL k' s' m' n2' n3') = some r) :
  Calls Tryd.prog 19 #[.agg #[.int .i64 k, .string s, .string m, .slice A2 n2 c2, .slice A3 n3 c3], .agg #[.int .i64 k', .string s', .string m', .slice A2' n2' c2', .slice A3' n3' c3']] w fun e w' => e = .returned (.int .i64 r) ∧ Below w.heap.size w w' := by
 have hra := fun W => ranked_at k s m A2 A3 n2 c2 n3 c3 W
 have hrb := fun W => ranked_at k' s' m' A2' A3' n2' c2' n3' c3' W
 have hlx : (rankL k s m n2 n3).length = 5 := rfl
 have hly : (rankL k' s' m' n2' n3').length = 5 := rfl
 generalize rankL k s m n2 n3 = X at *
 generalize rankL k' s' m' n2' n3' = Y at *
 obtain ⟨x0, x1, x2, x3, x4, rfl⟩ : ∃ x0 x1 x2 x3 x4, X = [x0, x1, x2, x3, x4] := by
  match X, hlx with
  | [x0, x1, x2, x3, x4], _ => exact ⟨x0, x1, x2, x3, x4, rfl⟩
 obtain ⟨y0, y1, y2, y3, y4, rfl⟩ : ∃ y0 y1 y2 y3 y4, Y = [y0, y1, y2, y3, y4] := by
  match Y, hly with
  | [y0, y1, y2, y3, y4], _ => exact ⟨y0, y1, y2, y3, y4, rfl⟩
 replace hra : ∀ W, Calls Tryd.prog 45 _ W fun e w' => e = .returned (.agg #[.int .i64 x0, .int .i64 x1, .int .i64 x2, .int .i64 x3, .int .i64 x4]) ∧ Below W.heap.size W w' := hra
 replace hrb : ∀ W, Calls Tryd.prog 45 _ W fun e w' => e = .returned (.agg #[.int .i64 y0, .int .i64 y1, .int .i64 y2, .int .i64 y3, .int .i64 y4]) ∧ Below W.heap.size W w' := hrb
 have RA := Aside0.mk hra
 have RB := Aside0.mk hrb
 have H := Aside0.mk h
 clear hra hrb h
 have mixed : Tryd.prog.follows Departure.mixedOrders = true := by kernel_rfl
 go_enter Tryd.func19, Tryd.ntmps19
 go_wp2
 generalize hW0 : ((w.alloc (Obj.cells #[Value.int IntKind.i64 k, Value.string s, Value.string m, Value.slice A2 n2 c2, Value.slice A3 n3 c3] 26)).alloc (Obj.cells #[Value.int IntKind.i64 k', Value.string s', Value.string m', Value.slice A2' n2' c2', Value.slice A3' n3' c3'] 26)) = W0
 have B0 : Below w.heap.size w W0 := by rw [← hW0]; exact ((Below.refl _ w).alloc (Nat.le_refl _) _).alloc (by show w.heap.size ≤ (w.heap.push _).size; rw [Array.size_push]; omega) _
 have hG0 : W0.heap[w.heap.size]? = some (.cells #[Value.int IntKind.i64 k, Value.string s, Value.string m, Value.slice A2 n2 c2, Value.slice A3 n3 c3] 26 (0, 0)) := by
  rw [← hW0, heap_alloc_old _ _ (by show w.heap.size < (w.heap.push _).size; rw [Array.size_push]; omega)]
  exact heap_alloc_new _ _
 have hG1 : W0.heap[w.heap.size + 1]? = some (.cells #[Value.int IntKind.i64 k', Value.string s', Value.string m', Value.slice A2' n2' c2', Value.slice A3' n3' c3'] 26 (0, 0)) := by
  rw [← hW0, show w.heap.size + 1 = (w.alloc (Obj.cells #[Value.int IntKind.i64 k, Value.string s, Value.string m, Value.slice A2 n2 c2, Value.slice A3 n3 c3] 26)).heap.size from (Array.size_push _).symm]
  exact heap_alloc_new _ _
 clear hW0
 generalize hG : w.heap.size + 1 = G at hG1 ⊢
 have hGg : w.heap.size < G := by omega
 clear hG
 refine region_inv mixed (fun l a wr => ∃ t5 t6 t7 t8 t9 t10 : Value, a = { tmps := #[Value.agg #[Value.int IntKind.i64 k, Value.string s, Value.string m, Value.slice A2 n2 c2, Value.slice A3 n3 c3], Value.agg #[Value.int IntKind.i64 k', Value.string s', Value.string m', Value.slice A2' n2' c2', Value.slice A3' n3' c3'], Value.pointer (some ⟨w.heap.size, 0, none⟩), Value.pointer (some ⟨G, 0, none⟩), Value.int IntKind.i64 0, t5, t6, t7, t8, t9, t10, undef, undef, undef, undef, undef, undef], defers := [] } ∧ Below w.heap.size w wr ∧
   wr.heap[w.heap.size]? = some (.cells #[Value.int IntKind.i64 k, Value.string s, Value.string m, Value.slice A2 n2 c2, Value.slice A3 n3 c3] 26 (0, 0)) ∧ wr.heap[G]? = some (.cells #[Value.int IntKind.i64 k', Value.string s', Value.string m', Value.slice A2' n2' c2', Value.slice A3' n3' c3'] 26 (0, 0)) ∧
   (l.getD 0 false = true → t7 = .agg #[Value.int IntKind.i64 k, Value.string s, Value.string m, Value.slice A2 n2 c2, Value.slice A3 n3 c3]) ∧ (l.getD 2 false = true → t9 = .agg #[Value.int IntKind.i64 k', Value.string s', Value.string m', Value.slice A2' n2' c2', Value.slice A3' n3' c3']) ∧
   (l.getD 1 false = true → t8 = .agg #[.int .i64 x0, .int .i64 x1, .int .i64 x2, .int .i64 x3, .int .i64 x4]) ∧ (l.getD 3 false = true → t10 = .agg #[.int .i64 y0, .int .i64 y1, .int .i64 y2, .int .i64 y3, .int .i64 y4]) ∧
   (l.getD 4 false = true → ∃ (p : Nat) (cs : Array Value), t5 = .pointer (some ⟨p, 0, none⟩) ∧ G < p ∧ wr.heap[p]? = some (.cells cs 62 (0, 0)) ∧ cs.size = 5 ∧ (l.getD 6 false = true → cs = #[.int .i64 x0, .int .i64 x1, .int .i64 x2, .int .i64 x3, .int .i64 x4])) ∧
   (l.getD 5 false = true → ∃ (p : Nat) (cs : Array Value), t6 = .pointer (some ⟨p, 0, none⟩) ∧ G < p ∧ wr.heap[p]? = some (.cells cs 62 (0, 0)) ∧ cs.size = 5 ∧ (l.getD 7 false = true → cs = #[.int .i64 y0, .int .i64 y1, .int .i64 y2, .int .i64 y3, .int .i64 y4])) ∧
   (l.getD 4 false = true → l.getD 5 false = true → t5 ≠ t6) ∧ (l.getD 6 false = true → l.getD 4 false = true) ∧ (l.getD 7 false = true → l.getD 5 false = true) ∧ l.size = 8) ?_ ?_ ?_
 ·exact ⟨undef, undef, undef, undef, undef, undef, rfl, (show Below _ _ _ from below_drew1 B0), hG0, hG1, by simp, by simp, by simp, by simp, by simp, by simp, by simp, by simp, by simp, by simp⟩
 ·intro l a wr i hI hi
  obtain ⟨t5, t6, t7, t8, t9, t10, rfl, hB, h0, h1, f0, f2, f1, f3, f4, f5, f45, f64, f75, fsz⟩ := hI
  obtain ⟨hi8, hli, hdep⟩ := ready_at hi
  clear hi
  have hcase : i = 0 ∨ i = 1 ∨ i = 2 ∨ i = 3 ∨ i = 4 ∨ i = 5 ∨ i = 6 ∨ i = 7 := by simp at hi8; omega
  have a0 := blk_cell h0 0
  have a1 := blk_cell h0 1
  have a2 := blk_cell h0 2
  have a3 := blk_cell h0 3
  have a4 := blk_cell h0 4
  have b0 := blk_cell h1 0
  have b1 := blk_cell h1 1
  have b2 := blk_cell h1 2
  have b3 := blk_cell h1 3
  have b4 := blk_cell h1 4
  simp only [List.getElem?_toArray, List.getElem?_cons_zero, List.getElem?_cons_succ] at a0 a1 a2 a3 a4 b0 b1 b2 b3 b4
  have F0 := Aside0.mk f0
  have F1 := Aside0.mk f1
  have F2 := Aside0.mk f2
  have F3 := Aside0.mk f3
  have F4 := Aside0.mk f4
  have F5 := Aside0.mk f5
  have F45 := Aside0.mk f45
  have F64 := Aside0.mk f64
  have F75 := Aside0.mk f75
  have HLI := Aside0.mk hli
  have HB := Aside0.mk hB
  have H0 := Aside0.mk h0
  have H1 := Aside0.mk h1
  have hdp := Aside0.mk hdep
  clear f0 f1 f2 f3 f4 f5 f45 f64 f75 hB h0 h1 hdep hli hi8
  rcases hcase with rfl | rfl | rfl | rfl | rfl | rfl | rfl | rfl
  ·refine wpOp_run rfl rfl fun K hK => ?_
   have HK := Aside0.mk hK
   clear hK
   unfold Oper.wp
   go_simp
   exact HK.out _ _ ⟨_, _, _, _, _, _, rfl, HB.out, H0.out, H1.out, fun _ => rfl, fun h => F2.out (getD_set h (by decide)), fun h => F1.out (getD_set h (by decide)), fun h => F3.out (getD_set h (by decide)), fun h => (F4.out (getD_set h (by decide))).imp fun p hp => hp.imp fun cs hc => ⟨hc.1, hc.2.1, hc.2.2.1, hc.2.2.2.1, fun h' => hc.2.2.2.2 (getD_set h' (by decide))⟩, fun h => (F5.out (getD_set h (by decide))).imp fun p hp => hp.imp fun cs hc => ⟨hc.1, hc.2.1, hc.2.2.1, hc.2.2.2.1, fun h' => hc.2.2.2.2 (getD_set h' (by decide))⟩, fun h h' => F45.out (getD_set h (by decide)) (getD_set h' (by decide)), fun h => getD_up (F64.out (getD_set h (by decide))), fun h => getD_up (F75.out (getD_set h (by decide))), by simpa using fsz⟩
  ·obtain rfl := F0.out (by have := hdp.out _ rfl; simpa [Region.binds] using this)
   refine wpOp_call rfl rfl rfl Tryd.func45 kr_ rfl #[Value.agg #[Value.int IntKind.i64 k, Value.string s, Value.string m, Value.slice A2 n2 c2, Value.slice A3 n3 c3]] (by simp [Act.eval]) ?_
   refine (RA.out _).mono ?_
   rintro e w2 ⟨rfl, hb⟩
   exact ⟨_, rfl, _, _, _, _, _, _, rfl, HB.out.trans (hb.mono HB.out.size), (hb.block _ (blk_lt H0.out)).trans H0.out, (hb.block _ (blk_lt H1.out)).trans H1.out, fun _ => rfl, fun h => F2.out (getD_set h (by decide)), fun _ => rfl, fun h => F3.out (getD_set h (by decide)), fun h => (F4.out (getD_set h (by decide))).imp fun p hp => hp.imp fun cs hc => ⟨hc.1, hc.2.1, (hb.block _ (blk_lt hc.2.2.1)).trans hc.2.2.1, hc.2.2.2.1, fun h' => hc.2.2.2.2 (getD_set h' (by decide))⟩, fun h => (F5.out (getD_set h (by decide))).imp fun p hp => hp.imp fun cs hc => ⟨hc.1, hc.2.1, (hb.block _ (blk_lt hc.2.2.1)).trans hc.2.2.1, hc.2.2.2.1, fun h' => hc.2.2.2.2 (getD_set h' (by decide))⟩, fun h h' => F45.out (getD_set h (by decide)) (getD_set h' (by decide)), fun h => getD_up (F64.out (getD_set h (by decide))), fun h => getD_up (F75.out (getD_set h (by decide))), by simpa using fsz⟩
  ·refine wpOp_run rfl rfl fun K hK => ?_
   have HK := Aside0.mk hK
   clear hK
   unfold Oper.wp
   go_simp
   exact HK.out _ _ ⟨_, _, _, _, _, _, rfl, HB.out, H0.out, H1.out, fun h => F0.out (getD_set h (by decide)), fun _ => rfl, fun h => F1.out (getD_set h (by decide)), fun h => F3.out (getD_set h (by decide)), fun h => (F4.out (getD_set h (by decide))).imp fun p hp => hp.imp fun cs hc => ⟨hc.1, hc.2.1, hc.2.2.1, hc.2.2.2.1, fun h' => hc.2.2.2.2 (getD_set h' (by decide))⟩, fun h => (F5.out (getD_set h (by decide))).imp fun p hp => hp.imp fun cs hc => ⟨hc.1, hc.2.1, hc.2.2.1, hc.2.2.2.1, fun h' => hc.2.2.2.2 (getD_set h' (by decide))⟩, fun h h' => F45.out (getD_set h (by decide)) (getD_set h' (by decide)), fun h => getD_up (F64.out (getD_set h (by decide))), fun h => getD_up (F75.out (getD_set h (by decide))), by simpa using fsz⟩
  ·have hdd : l.getD 2 false = true ∧ l.getD 1 false = true := by have := hdp.out _ rfl; simpa [Region.binds] using this
   obtain rfl := F2.out hdd.1
   refine wpOp_call rfl rfl rfl Tryd.func45 kr_ rfl #[Value.agg #[Value.int IntKind.i64 k', Value.string s', Value.string m', Value.slice A2' n2' c2', Value.slice A3' n3' c3']] (by simp [Act.eval]) ?_
   refine (RB.out _).mono ?_
   rintro e w2 ⟨rfl, hb⟩
   exact ⟨_, rfl, _, _, _, _, _, _, rfl, HB.out.trans (hb.mono HB.out.size), (hb.block _ (blk_lt H0.out)).trans H0.out, (hb.block _ (blk_lt H1.out)).trans H1.out, fun h => F0.out (getD_set h (by decide)), fun _ => rfl, fun h => F1.out (getD_set h (by decide)), fun _ => rfl, fun h => (F4.out (getD_set h (by decide))).imp fun p hp => hp.imp fun cs hc => ⟨hc.1, hc.2.1, (hb.block _ (blk_lt hc.2.2.1)).trans hc.2.2.1, hc.2.2.2.1, fun h' => hc.2.2.2.2 (getD_set h' (by decide))⟩, fun h => (F5.out (getD_set h (by decide))).imp fun p hp => hp.imp fun cs hc => ⟨hc.1, hc.2.1, (hb.block _ (blk_lt hc.2.2.1)).trans hc.2.2.1, hc.2.2.2.1, fun h' => hc.2.2.2.2 (getD_set h' (by decide))⟩, fun h h' => F45.out (getD_set h (by decide)) (getD_set h' (by decide)), fun h => getD_up (F64.out (getD_set h (by decide))), fun h => getD_up (F75.out (getD_set h (by decide))), by simpa using fsz⟩
  ·refine wpOp_run rfl rfl fun K hK => ?_
   have HK := Aside0.mk hK
   clear hK
   unfold Oper.wp
   go_simp
   have hb : Below wr.heap.size wr (wr.alloc (Obj.cells #[Value.int IntKind.i64 0, Value.int IntKind.i64 0, Value.int IntKind.i64 0, Value.int IntKind.i64 0, Value.int IntKind.i64 0] 62)) := (Below.refl _ wr).alloc (Nat.le_refl _) _
   exact HK.out _ _ ⟨_, _, _, _, _, _, rfl, HB.out.trans (hb.mono HB.out.size), (hb.block _ (blk_lt H0.out)).trans H0.out, (hb.block _ (blk_lt H1.out)).trans H1.out, fun h => F0.out (getD_set h (by decide)), fun h => F2.out (getD_set h (by decide)), fun h => F1.out (getD_set h (by decide)), fun h => F3.out (getD_set h (by decide)), fun _ => ⟨wr.heap.size, _, rfl, blk_lt H1.out, heap_alloc_new wr _, rfl, fun h' => absurd (F64.out (getD_set h' (by decide))) (getD_no HLI.out)⟩, fun h => (F5.out (getD_set h (by decide))).imp fun p hp => hp.imp fun cs hc => ⟨hc.1, hc.2.1, (hb.block _ (blk_lt hc.2.2.1)).trans hc.2.2.1, hc.2.2.2.1, fun h' => hc.2.2.2.2 (getD_set h' (by decide))⟩, fun _ h' e => by
    obtain ⟨p, cs, e2, _, e3, _⟩ := F5.out (getD_set h' (by decide))
    rw [e2] at e
    have := blk_lt e3
    simp at e
    all_goals omega, fun h => getD_up (F64.out (getD_set h (by decide))), fun h => getD_up (F75.out (getD_set h (by decide))), by simpa using fsz⟩
  ·refine wpOp_run rfl rfl fun K hK => ?_
   have HK := Aside0.mk hK
   clear hK
   unfold Oper.wp
   go_simp
   have hb : Below wr.heap.size wr (wr.alloc (Obj.cells #[Value.int IntKind.i64 0, Value.int IntKind.i64 0, Value.int IntKind.i64 0, Value.int IntKind.i64 0, Value.int IntKind.i64 0] 62)) := (Below.refl _ wr).alloc (Nat.le_refl _) _
   exact HK.out _ _ ⟨_, _, _, _, _, _, rfl, HB.out.trans (hb.mono HB.out.size), (hb.block _ (blk_lt H0.out)).trans H0.out, (hb.block _ (blk_lt H1.out)).trans H1.out, fun h => F0.out (getD_set h (by decide)), fun h => F2.out (getD_set h (by decide)), fun h => F1.out (getD_set h (by decide)), fun h => F3.out (getD_set h (by decide)), fun h => (F4.out (getD_set h (by decide))).imp fun p hp => hp.imp fun cs hc => ⟨hc.1, hc.2.1, (hb.block _ (blk_lt hc.2.2.1)).trans hc.2.2.1, hc.2.2.2.1, fun h' => hc.2.2.2.2 (getD_set h' (by decide))⟩, fun _ => ⟨wr.heap.size, _, rfl, blk_lt H1.out, heap_alloc_new wr _, rfl, fun h' => absurd (F75.out (getD_set h' (by decide))) (getD_no HLI.out)⟩, fun h _ e => by
    obtain ⟨p, cs, e2, _, e3, _⟩ := F4.out (getD_set h (by decide))
    rw [e2] at e
    have := blk_lt e3
    simp at e
    all_goals omega, fun h => getD_up (F64.out (getD_set h (by decide))), fun h => getD_up (F75.out (getD_set h (by decide))), by simpa using fsz⟩
  ·have hdd : l.getD 4 false = true ∧ l.getD 1 false = true := by have := hdp.out _ rfl; simp [Region.binds] at this; simp [this]
   obtain rfl := F1.out hdd.2
   obtain ⟨p, cs, hc⟩ := F4.out hdd.1
   obtain ⟨z0, z1, z2, z3, z4, rfl⟩ := five hc.2.2.2.1
   have p0 := blk_cell hc.2.2.1 0
   have p1 := blk_cell hc.2.2.1 1
   have p2 := blk_cell hc.2.2.1 2
   have p3 := blk_cell hc.2.2.1 3
   have p4 := blk_cell hc.2.2.1 4
   have g0 := blk_frozen hc.2.2.1 0
   have g1 := blk_frozen hc.2.2.1 1
   have g2 := blk_frozen hc.2.2.1 2
   have g3 := blk_frozen hc.2.2.1 3
   have g4 := blk_frozen hc.2.2.1 4
   simp only [List.getElem?_toArray, List.getElem?_cons_zero, List.getElem?_cons_succ] at p0 p1 p2 p3 p4
   have hf := put5 hc.2.2.1 (.int .i64 x0) (.int .i64 x1) (.int .i64 x2) (.int .i64 x3) (.int .i64 x4)
   have HF := Aside0.mk hf
   have HC := Aside0.mk hc
   have hts := hc.1
   clear hf hc
   subst hts
   refine wpOp_run rfl rfl fun K hK => ?_
   have HK := Aside0.mk hK
   clear hK
   unfold Oper.wp
   go_simp
   have hf := HF.out
   have hc := HC.out
   have hgp : G < p := hc.2.1
   exact HK.out _ _ ⟨_, _, _, _, _, _, rfl, below_set (below_set (below_set (below_set (below_set HB.out (by omega)) (by omega)) (by omega)) (by omega)) (by omega), (hf.2 _ (by omega)).trans H0.out, (hf.2 _ (by omega)).trans H1.out, fun h => F0.out (getD_set h (by decide)), fun h => F2.out (getD_set h (by decide)), fun h => F1.out (getD_set h (by decide)), fun h => F3.out (getD_set h (by decide)), fun _ => ⟨p, _, hc.1, hc.2.1, hf.1, rfl, fun _ => rfl⟩, fun h => (F5.out (getD_set h (by decide))).imp fun q hq => hq.imp fun ds hd => ⟨hd.1, hd.2.1, (hf.2 _ (fun e => F45.out hdd.1 (getD_set h (by decide)) (by rw [hc.1, hd.1, e]))).trans hd.2.2.1, hd.2.2.2.1, fun h' => hd.2.2.2.2 (getD_set h' (by decide))⟩, fun h h' => F45.out (getD_set h (by decide)) (getD_set h' (by decide)), fun h => getD_up hdd.1, fun h => getD_up (F75.out (getD_set h (by decide))), by simpa using fsz⟩
  ·have hdd : l.getD 5 false = true ∧ l.getD 3 false = true := by have := hdp.out _ rfl; simp [Region.binds] at this; simp [this]
   obtain rfl := F3.out hdd.2
   obtain ⟨p, cs, hc⟩ := F5.out hdd.1
   obtain ⟨z0, z1, z2, z3, z4, rfl⟩ := five hc.2.2.2.1
   have p0 := blk_cell hc.2.2.1 0
   have p1 := blk_cell hc.2.2.1 1
   have p2 := blk_cell hc.2.2.1 2
   have p3 := blk_cell hc.2.2.1 3
   have p4 := blk_cell hc.2.2.1 4
   have g0 := blk_frozen hc.2.2.1 0
   have g1 := blk_frozen hc.2.2.1 1
   have g2 := blk_frozen hc.2.2.1 2
   have g3 := blk_frozen hc.2.2.1 3
   have g4 := blk_frozen hc.2.2.1 4
   simp only [List.getElem?_toArray, List.getElem?_cons_zero, List.getElem?_cons_succ] at p0 p1 p2 p3 p4
   have hf := put5 hc.2.2.1 (.int .i64 y0) (.int .i64 y1) (.int .i64 y2) (.int .i64 y3) (.int .i64 y4)
   have HF := Aside0.mk hf
   have HC := Aside0.mk hc
   have hts := hc.1
   clear hf hc
   subst hts
   refine wpOp_run rfl rfl fun K hK => ?_
   have HK := Aside0.mk hK
   clear hK
   unfold Oper.wp
   go_simp
   have hf := HF.out
   have hc := HC.out
   have hgp : G < p := hc.2.1
   exact HK.out _ _ ⟨_, _, _, _, _, _, rfl, below_set (below_set (below_set (below_set (below_set HB.out (by omega)) (by omega)) (by omega)) (by omega)) (by omega), (hf.2 _ (by omega)).trans H0.out, (hf.2 _ (by omega)).trans H1.out, fun h => F0.out (getD_set h (by decide)), fun h => F2.out (getD_set h (by decide)), fun h => F1.out (getD_set h (by decide)), fun h => F3.out (getD_set h (by decide)), fun h => (F4.out (getD_set h (by decide))).imp fun q hq => hq.imp fun ds hd => ⟨hd.1, hd.2.1, (hf.2 _ (fun e => F45.out (getD_set h (by decide)) hdd.1 (by rw [hc.1, hd.1, e]))).trans hd.2.2.1, hd.2.2.2.1, fun h' => hd.2.2.2.2 (getD_set h' (by decide))⟩, fun _ => ⟨p, _, hc.1, hc.2.1, hf.1, rfl, fun _ => rfl⟩, fun h h' => F45.out (getD_set h (by decide)) (getD_set h' (by decide)), fun h => getD_up (F64.out (getD_set h (by decide))), fun h => getD_up hdd.1, by simpa using fsz⟩
 ·intro l a wr hI hr
  obtain ⟨t5, t6, t7, t8, t9, t10, rfl, hB, h0, h1, f0, f2, f1, f3, f4, f5, f45, f64, f75, fsz⟩ := hI
  have hall := all_listed (by rw [fsz]; rfl) hr kr_
  have g := fun j (hj : j < 8) => hall j hj
  obtain ⟨p, cs, rfl, hp, hpc, -, hpv⟩ := f4 (g 4 (by decide))
  obtain rfl := hpv (g 6 (by decide))
  obtain ⟨q, ds, rfl, hq, hqc, -, hqv⟩ := f5 (g 5 (by decide))
  obtain rfl := hqv (g 7 (by decide))
  have hpq : p ≠ q := fun e => f45 (g 4 (by decide)) (g 5 (by decide)) (by rw [e])
  have HB := Aside0.mk hB
  have HP := Aside0.mk hpc
  have HQ := Aside0.mk hqc
  clear f0 f1 f2 f3 f4 f5 f45 f64 f75 fsz hall g hr hpv hqv h0 h1 hB
  have p0 := blk_cell hpc 0
  have p1 := blk_cell hpc 1
  have p2 := blk_cell hpc 2
  have p3 := blk_cell hpc 3
  have p4 := blk_cell hpc 4
  have q0 := blk_cell hqc 0
  have q1 := blk_cell hqc 1
  have q2 := blk_cell hqc 2
  have q3 := blk_cell hqc 3
  have q4 := blk_cell hqc 4
  simp only [List.getElem?_toArray, List.getElem?_cons_zero, List.getElem?_cons_succ] at p0 p1 p2 p3 p4 q0 q1 q2 q3 q4
  clear hpc hqc
  have heq := eq5 x0 x1 x2 x3 x4 y0 y1 y2 y3 y4 wr
  by_cases hxy : [x0, x1, x2, x3, x4] = [y0, y1, y2, y3, y4]
  ·obtain rfl : r = 0 := by have := H.out; rw [ordF, if_pos hxy] at this; exact (Option.some.inj this).symm
   rw [decide_eq_true hxy] at heq
   clear hxy
   go_wp2
   go_ret
   exact ⟨rfl, HB.out⟩
  ·have hlim := H.out
   rw [ordF, if_neg hxy] at hlim
   obtain ⟨kk, hk⟩ := limF_some hlim
   rw [decide_eq_false hxy] at heq
   have hcall : ∀ W, Below wr.heap.size wr W → Calls Tryd.prog 46 #[.slice (some ⟨p, 0, none⟩) 5 5, .slice (some ⟨q, 0, none⟩) 5 5] W fun e w' => e = .returned (.int .i64 r) ∧ Drawn0 W w' := fun W hW =>
    slices_Compare_int_int.calls kk (some ⟨p, 0, none⟩) 5 [x0, x1, x2, x3, x4] (some ⟨q, 0, none⟩) 5 [y0, y1, y2, y3, y4] r W (row5 _ ((hW.block _ (blk_lt HP.out)).trans HP.out) (by simp)) (by simp) (row5 _ ((hW.block _ (blk_lt HQ.out)).trans HQ.out) (by simp)) (by simp) hk
   have HC := Aside0.mk hcall
   clear hcall hk hlim hxy
   go_wp2
   go_region_with_o (go_at_call 46; refine (HC.out _ (below_drew1 (Below.refl _ wr))).mono ?_; rintro e w' ⟨rfl, hd⟩; have HD := Aside0.mk hd; clear hd)
   go_wp2
   go_ret
   exact ⟨rfl, HB.out.trans ((Below.trans (below_drew1 (Below.refl _ wr)) (HD.out.below)).mono HB.out.size)⟩

/-! ### rule_Order: function 19 -/
noncomputable def rule_Order.f (a0_0 : Int) (a0_1 : ByteArray) (a0_2 : ByteArray) (l0_3 : List (S49)) (l0_4 : List (S49)) (a1_0 : Int) (a1_1 : ByteArray) (a1_2 : ByteArray) (l1_3 : List (S49)) (l1_4 : List (S49)) : Option (Int) := ordF (rankL a0_0 a0_1 a0_2 l0_3.length l0_4.length) (rankL a1_0 a1_1 a1_2 l1_3.length l1_4.length)
theorem rule_Order.calls (a0_0 : Int) (a0_1 : ByteArray) (a0_2 : ByteArray) (A0_3 : Option Addr) (c0_3 : Nat) (l0_3 : List (S49)) (A0_4 : Option Addr) (c0_4 : Nat) (l0_4 : List (S49)) (a1_0 : Int) (a1_1 : ByteArray) (a1_2 : ByteArray) (A1_3 : Option Addr) (c1_3 : Nat) (l1_3 : List (S49)) (A1_4 : Option Addr) (c1_4 : Nat) (l1_4 : List (S49)) (r : Int) (w : World) (hr0_3 : Kd.C k49 w A0_3 l0_3.length l0_3) (hc0_3 : l0_3.length ≤ c0_3) (hr0_4 : Kd.C k49 w A0_4 l0_4.length l0_4) (hc0_4 : l0_4.length ≤ c0_4) (hr1_3 : Kd.C k49 w A1_3 l1_3.length l1_3) (hc1_3 : l1_3.length ≤ c1_3) (hr1_4 : Kd.C k49 w A1_4 l1_4.length l1_4) (hc1_4 : l1_4.length ≤ c1_4) (h : rule_Order.f a0_0 a0_1 a0_2 l0_3 l0_4 a1_0 a1_1 a1_2 l1_3 l1_4 = some r) :
  Calls Tryd.prog 19 #[.agg #[.int .i64 a0_0, .string a0_1, .string a0_2, .slice A0_3 l0_3.length c0_3, .slice A0_4 l0_4.length c0_4], .agg #[.int .i64 a1_0, .string a1_1, .string a1_2, .slice A1_3 l1_3.length c1_3, .slice A1_4 l1_4.length c1_4]] w fun e w' => e = .returned (.int .i64 r) ∧ Below w.heap.size w w' := by
 exact order_at _ _ _ _ _ _ _ _ _ _ _ _ _ _ _ _ _ _ w r h

end Go.Proofs.YtompldnifiieaaaDoor.P
