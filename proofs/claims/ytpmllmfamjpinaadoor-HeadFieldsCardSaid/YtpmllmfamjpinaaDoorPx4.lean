-- written by wip/tool/hprint.py of this repo: the kit's print, with contracts by hand joined; Lean checks it.
import Derived.Test.YtpmllmfamjpinaaDoorPx0
import Derived.Test.YtpmllmfamjpinaaDoorPx2
import Derived.Test.YtpmllmfamjpinaaDoorPx3
namespace Go.Proofs.YtpmllmfamjpinaaDoor.P
open Go.RowKit Go.Proofs.YtpmllmfamjpinaaDoorW.PrintWords Go.Proofs.YtpmllmfamjpinaaDoorW.PrintLast Go.Proofs.YtpmllmfamjpinaaDoorW.PrintMore
attribute [local go_sem] max2_int min2_int max_two min_two max_three min_three max_four min_four   -- for this text's walks alone
set_option linter.unusedVariables false
set_option linter.unusedSimpArgs false

/-! ### query_Parse: function 54 -/
/-- A query's parts, one behind the other. -/
def query_Parse.go (k : Nat) : List ByteArray → List S35 → Option (Option (List S35))
 | [], acc => some (some acc)
 | p :: ps, acc => (strings_Cut.f k p ⟨#[61]⟩).bind fun c => (query_read.f k c.1).bind fun a => (query_read.f k c.2.1).bind fun b =>
   if a.2 = true then (if b.2 = true then (if acc.length < 4398046511104 then query_Parse.go k ps (acc ++ [⟨a.1, b.1⟩]) else none) else some none) else some none
def query_Parse.end_ (k : Nat) : Option (List S35) → Option (List S35 × Int)
 | none => some ([], 2)
 | some l => (query_May.f k l).bind fun m => if m = true then some (l, 0) else some ([], 2)
def query_Parse.f (k : Nat) (a0 : ByteArray) : Option ((List S35) × Int) := if a0.toList = ([] : List UInt8) then some ([], 0) else if a0.size ≤ 140737488355328 then (query_Parse.go k (pieces 38 a0) []).bind fun o => query_Parse.end_ k o else none
theorem query_Parse.go_mono (k : Nat) : ∀ (ps : List ByteArray) (acc : List S35), LeO (query_Parse.go k ps acc) (query_Parse.go (k + 1) ps acc)
 | [], _ => LeO.refl _
 | p :: ps, acc => by
  have ih := query_Parse.go_mono k ps
  simp only [query_Parse.go]
  repeat' first
   | exact LeO.refl _
   | exact ih _
   | exact strings_Cut.mono _ _ _
   | exact query_read.mono _ _
   | refine LeO.ite ?_ ?_
   | refine LeO.bind ?_ (fun _ => ?_)
theorem query_Parse.mono : ∀ a0 k, LeO (query_Parse.f k a0) (query_Parse.f (k + 1) a0) := by
 intro a0 k
 unfold query_Parse.f
 refine LeO.ite (LeO.refl _) (LeO.ite (LeO.bind (query_Parse.go_mono k _ _) (fun o => ?_)) (LeO.refl _))
 cases o with
 | none => exact LeO.refl _
 | some l => exact LeO.bind (query_May.mono _ _) (fun _ => LeO.refl _)
/-- What holds between two parts: what has been read of them lies in the call's own row. -/
structure query_Parse.Inv (k b : Nat) (pre : List ByteArray) (W : World) : Prop where
 ex : ∃ (acc : List S35) (v : Value), (∀ rest, query_Parse.go k (pre ++ rest) [] = query_Parse.go k rest acc) ∧ W.cell? ⟨b + 2, 0, none⟩ = some v ∧ Kd.R k35 35 W b (fun q => b + 6 ≤ q) v acc
 f2 : W.frozen? ⟨b + 2, 0, none⟩ = false
 c0 : W.cell? ⟨b, 0, none⟩ = some (.slice none 0 0)
 f0 : W.frozen? ⟨b, 0, none⟩ = false
 c1 : W.cell? ⟨b + 1, 0, none⟩ = some (.int .i64 0)
 f1 : W.frozen? ⟨b + 1, 0, none⟩ = false
 sz : b + 6 ≤ W.heap.size
theorem query_Parse.Inv.grown {k b : Nat} {pre : List ByteArray} {A B : World} (h : query_Parse.Inv k b pre A) {row : Option Nat} (hg : A.grownBy B row) (hr : ∀ r, row = some r → ∃ o : Obj, A.heap[r]? = some o ∧ o.isCells = false) : query_Parse.Inv k b pre B := by
 obtain ⟨acc, v, h1, h2, h3⟩ := h.ex
 exact ⟨⟨acc, v, h1, Go.cell_kept h2 hg hr, R_row h3 hg hr⟩, (Go.frozen_kept h2 hg hr).trans h.f2, Go.cell_kept h.c0 hg hr, (Go.frozen_kept h.c0 hg hr).trans h.f0, Go.cell_kept h.c1 hg hr, (Go.frozen_kept h.c1 hg hr).trans h.f1, Nat.le_trans h.sz hg.size⟩
theorem query_Parse.Inv.box {k b : Nat} {pre : List ByteArray} {A : World} (h : query_Parse.Inv k b pre A) (u : Value) : query_Parse.Inv k b pre (A.setCell ⟨b + 3, 0, none⟩ u) := by
 obtain ⟨acc, v, h1, h2, h3⟩ := h.ex
 have far : ∀ q, q ≠ b + 3 → (A.setCell ⟨b + 3, 0, none⟩ u).cell? ⟨q, 0, none⟩ = A.cell? ⟨q, 0, none⟩ := fun q hq => World.cell?_setCell_far A ⟨b + 3, 0, none⟩ ⟨q, 0, none⟩ u (by simp; omega)
 refine ⟨⟨acc, v, h1, (far _ (by omega)).trans h2, Kd.R_far h3 (fun q hq => by show q ≠ b + 3; omega) u⟩, ?_, (far _ (by omega)).trans h.c0, ?_, (far _ (by omega)).trans h.c1, ?_, by simpa using h.sz⟩
 ·rw [World.frozen?_setCell]; exact h.f2
 ·rw [World.frozen?_setCell]; exact h.f0
 ·rw [World.frozen?_setCell]; exact h.f1
theorem query_Parse.Inv.below {k b : Nat} {pre : List ByteArray} {A B : World} (h : query_Parse.Inv k b pre A) (hb : Below A.heap.size A B) : query_Parse.Inv k b pre B := by
 have hs := h.sz
 obtain ⟨acc, v, h1, h2, h3⟩ := h.ex
 have fz : ∀ q, q < A.heap.size → B.frozen? ⟨q, 0, none⟩ = A.frozen? ⟨q, 0, none⟩ := fun q hq => World.frozen?_of_block (a := ⟨q, 0, none⟩) (hb.block _ hq)
 exact ⟨⟨acc, v, h1, (hb.cell (p := ⟨b + 2, 0, none⟩) (by show b + 2 < _; omega)).trans h2, Kd.R_below h3 hb⟩, (fz _ (by omega)).trans h.f2, (hb.cell (p := ⟨b, 0, none⟩) (by show b < _; omega)).trans h.c0, (fz _ (by omega)).trans h.f0, (hb.cell (p := ⟨b + 1, 0, none⟩) (by show b + 1 < _; omega)).trans h.c1, (fz _ (by omega)).trans h.f1, Nat.le_trans hs hb.size⟩
/-- One part more lies in the row. -/
theorem query_Parse.Inv.next {k b : Nat} {pre : List ByteArray} {x : ByteArray} {A B : World} {acc : List S35} {v v1 : Value} {p : S35} (h : query_Parse.Inv k b pre A) (hadv : ∀ rest, query_Parse.go k ((pre ++ [x]) ++ rest) [] = query_Parse.go k rest (acc ++ [p]))
  (hR3 : Kd.R k35 35 A b (fun q => b + 6 ≤ q) v acc) (hR4 : Kd.R k35 35 B b (fun q => b + 6 ≤ q) v1 (acc ++ [p])) (hg : A.grownBy B v.ownBlock) :
  query_Parse.Inv k b (pre ++ [x]) (B.setCell ⟨b + 2, 0, none⟩ v1) ∧ Keeps3 (b + 3) A (B.setCell ⟨b + 2, 0, none⟩ v1) ∧ KeepsFrom (b + 6) A (B.setCell ⟨b + 2, 0, none⟩ v1) := by
 have hs := h.sz
 obtain ⟨_, v0, _, h2, _⟩ := h.ex
 have lo : ∀ q, q < b + 6 → B.heap[q]? = A.heap[q]? := fun q hq => hg.block q (by omega) (fun e => by have := (R_own_cells hR3 e).1; omega)
 have ce : ∀ q, q < b + 6 → B.cell? ⟨q, 0, none⟩ = A.cell? ⟨q, 0, none⟩ := fun q hq => World.cell?_of_block (a := ⟨q, 0, none⟩) (lo q hq)
 have fz : ∀ q, q < b + 6 → B.frozen? ⟨q, 0, none⟩ = A.frozen? ⟨q, 0, none⟩ := fun q hq => World.frozen?_of_block (a := ⟨q, 0, none⟩) (lo q hq)
 have far : ∀ q, q ≠ b + 2 → (B.setCell ⟨b + 2, 0, none⟩ v1).cell? ⟨q, 0, none⟩ = B.cell? ⟨q, 0, none⟩ := fun q hq => World.cell?_setCell_far B ⟨b + 2, 0, none⟩ ⟨q, 0, none⟩ v1 (by simp; omega)
 refine ⟨⟨⟨_, v1, hadv, World.cell?_setCell_same' B ⟨b + 2, 0, none⟩ v1 (by rw [ce _ (by omega), h2]; rfl), Kd.R_far hR4 (fun q hq => by show q ≠ b + 2; omega) v1⟩, ?_, (far _ (by omega)).trans ((ce _ (by omega)).trans h.c0), ?_, (far _ (by omega)).trans ((ce _ (by omega)).trans h.c1), ?_, ?_⟩, ?_, ?_⟩
 ·rw [World.frozen?_setCell, fz _ (by omega)]; exact h.f2
 ·rw [World.frozen?_setCell, fz _ (by omega)]; exact h.f0
 ·rw [World.frozen?_setCell, fz _ (by omega)]; exact h.f1
 ·have := hg.size; simp; omega
 ·intro q h1 h3
  rw [Below.heap_setCell B ⟨b + 2, 0, none⟩ v1 q (by show q ≠ b + 2; omega)]
  exact lo q (by omega)
 ·refine KeepsFrom.trans (Y := B) ⟨hg.size, fun q o _ hq hn => ?_⟩ ((KeepsOthers.setCell B ⟨b + 2, 0, none⟩ v1).from _)
  rw [hg.block q (Array.getElem?_eq_some_iff.1 hq).1 (fun e => by
   obtain ⟨_, cells, u, hc⟩ := R_own_cells hR3 e
   rw [hq] at hc
   cases hc
   cases hn)]
  exact hq
section
attribute [local go_sem] Oper.semAt_some
set_option maxHeartbeats 8000000 in
set_option maxRecDepth 100000 in
theorem query_Parse.calls (k : Nat) (a0 : ByteArray) (r1 : List S35) (r2 : Int) (w : World) (h : query_Parse.f k a0 = some (r1, r2)) :
  Calls Tryd.prog 54 #[.string a0] w fun e w' => ∃ v0_ : Value, e = .returned (.tuple #[v0_, .int .i64 r2]) ∧ Kd.R k35 35 w' w.heap.size (fun _ => True) v0_ r1 ∧ Below w.heap.size w w' := by
 refine (callsIn_wide (n := 4)).1 ?_
 refine callsIn_of_wp_marks Tryd.func54 rfl trivial ?_ rfl
 simp only [Tryd.ntmps54, List.size_toArray, List.length_cons, List.length_nil, Nat.reduceAdd, Nat.reduceSub, Array.replicate_succ, Array.replicate_zero, List.push_toArray, List.append_toArray, List.nil_append, List.cons_append]
 unfold query_Parse.f at h
 by_cases h0 : a0.toList = ([] : List UInt8)
 ·rw [if_pos h0] at h
  have hq := Option.some.inj h
  simp only [Prod.mk.injEq] at hq
  obtain ⟨rfl, rfl⟩ := hq
  have hb0 : (a0.toList == ([] : List UInt8)) = true := beq_iff_eq.2 h0
  clear h h0
  gi_wp2
  have z0 := new_l w (.slice none 0 0) 24
  have z1 := new_l (w.alloc (.cells #[.slice none 0 0] 24)) (.int .i64 0) 27
  have y0 := kept_l (.cells #[.int .i64 0] 27) z0.1
  simp only [World.size_alloc] at z1
  show LeavesIn _ _ _ _ _ _ _ _ _
  refine ⟨.tuple #[.slice none 0 0, .int .i64 0], ?_, ⟨_, rfl, Kd.R_nil _ _ _ _ _, ((Below.refl _ w).alloc (Nat.le_refl _) _).alloc (by simp) _⟩⟩
  simp [results, Tryd.f54, go_sem, y0, z1.1]
 ·rw [if_neg h0] at h
  have hb0 : (a0.toList == ([] : List UInt8)) = false := beq_eq_false_iff_ne.2 h0
  by_cases hl : a0.size ≤ 140737488355328
  ·rw [if_pos hl] at h
   obtain ⟨o, hgo, hend⟩ := Option.bind_eq_some_iff.1 h
   clear h h0
   gi_wp2_with (refine ⟨trivial, ?_⟩; gi_at_call 34; refine (callsIn_wide.2 (seq_at _ _ _)).mono ?_; rintro e w' ⟨n, rfl, rfl⟩)
   obtain ⟨V, hV⟩ : ∃ V, V = ((w.alloc (.cells #[.slice none 0 0] 24)).alloc (.cells #[.int .i64 0] 27)).alloc (.cells #[.slice none 0 0] 24) := ⟨_, rfl⟩
   have z0 := new_l w (.slice none 0 0) 24
   have z1 := new_l (w.alloc (.cells #[.slice none 0 0] 24)) (.int .i64 0) 27
   have z2 := new_l ((w.alloc (.cells #[.slice none 0 0] 24)).alloc (.cells #[.int .i64 0] 27)) (.slice none 0 0) 24
   have y0 := kept_l (.cells #[.int .i64 0] 27) z0.1
   have g0 := kept_f (.cells #[.int .i64 0] 27) z0.1 z0.2
   have x0 := kept_l (.cells #[.slice none 0 0] 24) y0
   have e0 := kept_f (.cells #[.slice none 0 0] 24) y0 g0
   simp only [World.size_alloc] at z1 z2
   have x1 := kept_l (.cells #[.slice none 0 0] 24) z1.1
   have e1 := kept_f (.cells #[.slice none 0 0] 24) z1.1 z1.2
   rw [← hV] at x0 e0 x1 e1 z2
   have hsV : V.heap.size = w.heap.size + 3 := by rw [hV]; simp
   have hBV : Below w.heap.size w V := by rw [hV]; exact ((((Below.refl _ w).alloc (Nat.le_refl _) _).alloc (by simp) _).alloc (by simp; omega) _)
   (try simp only [World.size_alloc])
   (try rw [← hV])
   obtain ⟨W0, hW0⟩ : ∃ W0, W0 = (((V.alloc (.cells #[.string a0] 9)).alloc (.cells #[.string ⟨#[38]⟩] 9)).alloc (.cells #[.int .i64 0] 3)).drewN n := ⟨_, rfl⟩
   have hs0 : W0.heap.size = w.heap.size + 6 := by rw [hW0]; simp; omega
   have q0 := new_l V (.string a0) 9
   have q1 := new_l (V.alloc (.cells #[.string a0] 9)) (.string ⟨#[38]⟩) 9
   have q2 := new_l ((V.alloc (.cells #[.string a0] 9)).alloc (.cells #[.string ⟨#[38]⟩] 9)) (.int .i64 0) 3
   simp only [World.size_alloc, hsV] at q0 q1 q2
   have hVW : Below V.heap.size V W0 := by rw [hW0]; exact (((((Below.refl _ V).alloc (Nat.le_refl _) _).alloc (by simp) _).alloc (by simp; omega) _)).trans ⟨rfl, rfl, rfl, Nat.le_refl _, fun _ _ => rfl⟩
   have b0 : Boxes3 (w.heap.size + 3) a0 ⟨#[38]⟩ W0 := by
    rw [hW0]
    have y2 := kept_l (.cells #[.string ⟨#[38]⟩] 9) q0.1
    exact ⟨kept_l _ y2, kept_f _ y2 (kept_f _ q0.1 q0.2), kept_l _ q1.1, q2.1⟩
   have hB0 : Below w.heap.size w W0 := hBV.trans (hVW.mono hBV.size)
   have fz : ∀ q, q < V.heap.size → W0.frozen? ⟨q, 0, none⟩ = V.frozen? ⟨q, 0, none⟩ := fun q hq => World.frozen?_of_block (a := ⟨q, 0, none⟩) (hVW.block _ hq)
   have hI0 : query_Parse.Inv k w.heap.size [] W0 :=
    ⟨⟨[], .slice none 0 0, fun rest => rfl, (hVW.cell (p := ⟨w.heap.size + 2, 0, none⟩) (by show _ + 2 < _; omega)).trans z2.1, Kd.R_nil _ _ _ _ _⟩, (fz _ (by omega)).trans z2.2, (hVW.cell (p := ⟨w.heap.size, 0, none⟩) (by show w.heap.size < _; omega)).trans x0, (fz _ (by omega)).trans e0, (hVW.cell (p := ⟨w.heap.size + 1, 0, none⟩) (by show _ + 1 < _; omega)).trans x1, (fz _ (by omega)).trans e1, by omega⟩
   rw [← hW0]
   simp only [Nat.add_assoc, Nat.reduceAdd]
   refine wpIn_range_cell rfl (by omega) (gf := 76) (lb := #[.pointer (some ⟨w.heap.size + 4, 0, none⟩), .pointer (some ⟨w.heap.size + 3, 0, none⟩), .pointer (some ⟨w.heap.size + 5, 0, none⟩)]) rfl trivial (enters_of Tryd.func76 kr_ rfl)
    (seq1_stops 38 a0 hl (w.heap.size + 3) W0 (by omega) b0) (fun h k i h1 h2 => (k i h1 h2).trans (h i h1 h2)) (fun W l o o' hl _ _ _ k h1 h2 => World.putObj_heap_other (by omega)) (Below.refl _ _) (fun _ => rfl)
    (fun pre W => query_Parse.Inv k w.heap.size pre W ∧ Below w.heap.size w W)
    (fun pre W => (o = none ∧ W.cell? ⟨w.heap.size, 0, none⟩ = some (.slice none 0 0) ∧ W.cell? ⟨w.heap.size + 1, 0, none⟩ = some (.int .i64 2)) ∧ Below w.heap.size w W)
    (OwnFrom.and (Own.from (fun s A B row hs hg hr => hs.grown hg hr) _) (ownFrom_below (Nat.le_refl _) (by omega)))
    (OwnFrom.and (Own.from (fun s A B row hs hg hr => ⟨hs.1, Go.cell_kept hs.2.1 hg hr, Go.cell_kept hs.2.2 hg hr⟩) _) (ownFrom_below (Nat.le_refl _) (by omega)))
    (fun s A v hs => ⟨hs.1.box v, hs.2.setCell (p := ⟨w.heap.size + 3, 0, none⟩) (by simp) _⟩)
    (fun _ _ _ => trivial)
    ⟨hI0, hB0⟩
    (fun x => { tmps := #[.string a0, undef, .pointer (some ⟨w.heap.size, 0, none⟩), .pointer (some ⟨w.heap.size + 1, 0, none⟩), .pointer (some ⟨w.heap.size + 2, 0, none⟩), .string x, undef, undef, undef, undef, undef, undef, undef, .string a0, .bool false, .string a0, .func (.func 76) #[] #[.pointer (some ⟨w.heap.size + 4, 0, none⟩), .pointer (some ⟨w.heap.size + 3, 0, none⟩), .pointer (some ⟨w.heap.size + 5, 0, none⟩)], .string x, undef, undef, undef, undef, undef, undef, undef, undef, undef, undef, undef, undef, undef, undef, undef, undef, undef, undef, undef, undef, undef, undef, undef, undef, undef, undef, undef, undef, undef, undef, undef, undef], defers := [] }) ?assign ?body ?done ?stop
   case assign =>
    intro l x W K hK
    gi_wp2
    exact hK
   case body =>
    rintro l pre x W ⟨hI, hB⟩ ⟨rest, hrest⟩
    obtain ⟨acc, v, hadv, hc2, hR⟩ := hI.ex
    have HR := Aside0.mk hR
    have HC2 := Aside0.mk hc2
    have hsz := hI.sz
    have hg : query_Parse.go k (x :: rest) acc = some o := by
     rw [← hadv, ← hgo, ← hrest, List.append_assoc]
     rfl
    simp only [query_Parse.go] at hg
    obtain ⟨⟨p1, p2, p3⟩, hcut, hg⟩ := Option.bind_eq_some_iff.1 hg
    obtain ⟨⟨a1, ab⟩, hra, hg⟩ := Option.bind_eq_some_iff.1 hg
    obtain ⟨⟨b1, bb⟩, hrb, hg⟩ := Option.bind_eq_some_iff.1 hg
    simp only at hra hrb hg
    have HI := Aside0.mk hI
    have HB := Aside0.mk hB
    have HCUT := Aside0.mk hcut
    have HRA := Aside0.mk hra
    have HRB := Aside0.mk hrb
    have HG := Aside0.mk hg
    have HADV := Aside0.mk hadv
    have HGO := Aside0.mk hgo
    have HEND := Aside0.mk hend
    have HSZ := Aside0.mk hsz
    clear hI hB hcut hra hrb hg hadv hgo hend hsz hc2 hR
    cases ab with
    | false =>
     gi_wp2_with (first | (refine ⟨trivial, ?_⟩; gi_at_call 53; with_reducible refine (CallsIn.inRound l (callsIn_wide.2 (strings_Cut.calls k x ⟨#[61]⟩ p1 p2 p3 _ HCUT.out))).mono ?_; rintro e w1 ⟨rfl, hd1⟩; replace hd1 : Below _ _ _ := (by first | exact hd1.below | exact hd1); have HD1 := Aside0.mk hd1; clear hd1) | (refine ⟨trivial, ?_⟩; gi_at_call 79; with_reducible refine (CallsIn.inRound l (callsIn_wide.2 (query_read.calls k p1 a1 false _ HRA.out))).mono ?_; rintro e w2 ⟨rfl, hd2⟩; replace hd2 : Below _ _ _ := (by first | exact hd2.below | exact hd2); have HD2 := Aside0.mk hd2; clear hd2) | (refine ⟨trivial, ?_⟩; gi_at_call 79; with_reducible refine (CallsIn.inRound l (callsIn_wide.2 (query_read.calls k p2 b1 bb _ HRB.out))).mono ?_; rintro e w3 ⟨rfl, hd3⟩; replace hd3 : Below _ _ _ := (by first | exact hd3.below | exact hd3); have HD := am_ ((HD1.out.trans (HD2.out.mono HD1.out.size)).trans (hd3.mono (Nat.le_trans HD1.out.size HD2.out.size))); have HI3 := am_ (HI.out.below HD.out); clear hd3; have hf0 := HI3.out.f0; have hc0 := HI3.out.c0; have hf1 := HI3.out.f1; have hc1 := HI3.out.c1))
     have hk3 : KeepsFrom (w.heap.size + 6) W w3 := ⟨HD.out.size, fun q o' _ hq _ => (HD.out.block q (Array.getElem?_eq_some_iff.1 hq).1).trans hq⟩
     exact ⟨(hk3.trans ((KeepsOthers.setCell w3 _ _).from _)).trans ((KeepsOthers.setCell _ _ _).from _), (Option.some.inj (show some none = some o from (if_neg (by decide)).symm.trans HG.out)).symm, ((HB.out.trans (HD.out.mono HB.out.size)).setCell (p := ⟨w.heap.size, 0, none⟩) (by simp) _).setCell (p := ⟨w.heap.size + 1, 0, none⟩) (by simp) _⟩
    | true =>
     have HG2 := am_ (show _ = some o from (if_pos rfl).symm.trans HG.out)
     cases bb with
     | false =>
      gi_wp2_with (first | (refine ⟨trivial, ?_⟩; gi_at_call 53; with_reducible refine (CallsIn.inRound l (callsIn_wide.2 (strings_Cut.calls k x ⟨#[61]⟩ p1 p2 p3 _ HCUT.out))).mono ?_; rintro e w1 ⟨rfl, hd1⟩; replace hd1 : Below _ _ _ := (by first | exact hd1.below | exact hd1); have HD1 := Aside0.mk hd1; clear hd1) | (refine ⟨trivial, ?_⟩; gi_at_call 79; with_reducible refine (CallsIn.inRound l (callsIn_wide.2 (query_read.calls k p1 a1 true _ HRA.out))).mono ?_; rintro e w2 ⟨rfl, hd2⟩; replace hd2 : Below _ _ _ := (by first | exact hd2.below | exact hd2); have HD2 := Aside0.mk hd2; clear hd2) | (refine ⟨trivial, ?_⟩; gi_at_call 79; with_reducible refine (CallsIn.inRound l (callsIn_wide.2 (query_read.calls k p2 b1 false _ HRB.out))).mono ?_; rintro e w3 ⟨rfl, hd3⟩; replace hd3 : Below _ _ _ := (by first | exact hd3.below | exact hd3); have HD := am_ ((HD1.out.trans (HD2.out.mono HD1.out.size)).trans (hd3.mono (Nat.le_trans HD1.out.size HD2.out.size))); have HI3 := am_ (HI.out.below HD.out); clear hd3; have hf0 := HI3.out.f0; have hc0 := HI3.out.c0; have hf1 := HI3.out.f1; have hc1 := HI3.out.c1))
      have hk3 : KeepsFrom (w.heap.size + 6) W w3 := ⟨HD.out.size, fun q o' _ hq _ => (HD.out.block q (Array.getElem?_eq_some_iff.1 hq).1).trans hq⟩
      exact ⟨(hk3.trans ((KeepsOthers.setCell w3 _ _).from _)).trans ((KeepsOthers.setCell _ _ _).from _), (Option.some.inj (show some none = some o from (if_neg (by decide)).symm.trans HG2.out)).symm, ((HB.out.trans (HD.out.mono HB.out.size)).setCell (p := ⟨w.heap.size, 0, none⟩) (by simp) _).setCell (p := ⟨w.heap.size + 1, 0, none⟩) (by simp) _⟩
     | true =>
      have HG3 := am_ (show _ = some o from (if_pos rfl).symm.trans HG2.out)
      by_cases hlen : acc.length < 4398046511104
      ·have HLEN := am_ (show (acc.length + 1) * 32 ≤ 140737488355328 by omega)
       have HADV2 := am_ (show ∀ rest, query_Parse.go k ((pre ++ [x]) ++ rest) [] = query_Parse.go k rest (acc ++ [⟨a1, b1⟩]) from fun rest => by
        rw [List.append_assoc, HADV.out]
        show query_Parse.go k (x :: rest) acc = _
        simp only [query_Parse.go, HCUT.out, HRA.out, HRB.out, Option.bind_some, if_true]
        rw [if_pos hlen])
       clear hlen
       gi_wp2_with (first | (refine ⟨trivial, ?_⟩; gi_at_call 53; with_reducible refine (CallsIn.inRound l (callsIn_wide.2 (strings_Cut.calls k x ⟨#[61]⟩ p1 p2 p3 _ HCUT.out))).mono ?_; rintro e w1 ⟨rfl, hd1⟩; replace hd1 : Below _ _ _ := (by first | exact hd1.below | exact hd1); have HD1 := Aside0.mk hd1; clear hd1) | (refine ⟨trivial, ?_⟩; gi_at_call 79; with_reducible refine (CallsIn.inRound l (callsIn_wide.2 (query_read.calls k p1 a1 true _ HRA.out))).mono ?_; rintro e w2 ⟨rfl, hd2⟩; replace hd2 : Below _ _ _ := (by first | exact hd2.below | exact hd2); have HD2 := Aside0.mk hd2; clear hd2) | (refine ⟨trivial, ?_⟩; gi_at_call 79; with_reducible refine (CallsIn.inRound l (callsIn_wide.2 (query_read.calls k p2 b1 true _ HRB.out))).mono ?_; rintro e w3 ⟨rfl, hd3⟩; replace hd3 : Below _ _ _ := (by first | exact hd3.below | exact hd3); have HD := am_ ((HD1.out.trans (HD2.out.mono HD1.out.size)).trans (hd3.mono (Nat.le_trans HD1.out.size HD2.out.size))); have HI3 := am_ (HI.out.below HD.out); clear hd3; have hc2 : w3.cell? ⟨w.heap.size + 2, 0, none⟩ = some v := (HD.out.cell (p := ⟨w.heap.size + 2, 0, none⟩) (by have := HSZ.out; show w.heap.size + 2 < _; omega)).trans HC2.out; have HR3 := am_ (Kd.R_below HR.out HD.out); have HBW := am_ (HB.out.trans (HD.out.mono HB.out.size)); skip) | ((with_reducible refine gateIn_builtin (b := .append) (xs := #[.tmp 40, .tmp 44]) rfl ?_); refine in_list (fun c h => by cases h) rfl ?_; refine Kd.R_append k35 (w0 := w) w.heap.size rfl (.tmp 40) (.tmp 44) 24 35 (.agg #[(.string ⟨#[]⟩), (.string ⟨#[]⟩)]) 32 rfl Tryd.underlying24 info35 rfl (by decide) (by omega) v acc ⟨a1, b1⟩ [.string a1, .string b1] (fun q => w.heap.size + 6 ≤ q) (fun _ => False) rfl rfl (k35_mkM _ _ _ _) (fun _ h => h.elim) (fun q hq => Nat.le_trans HI3.out.sz hq) HR3.out HBW.out HBW.out.size HLEN.out ?_; intro v1 w4 hR4 hb4 hg4 _; obtain ⟨A4, c4, rfl⟩ := Kd.R_slice hR4; have HN := am_ (query_Parse.Inv.next (x := x) HI3.out HADV2.out HR3.out hR4 hg4); have HBF := Aside0.mk hb4; have hc2' : w4.cell? ⟨w.heap.size + 2, 0, none⟩ = some v := (World.cell?_of_block (a := ⟨w.heap.size + 2, 0, none⟩) (hg4.block (w.heap.size + 2) (by have := HI3.out.sz; omega) (fun e => by have := (R_own_cells HR3.out e).1; omega))).trans hc2; have hf2' : w4.frozen? ⟨w.heap.size + 2, 0, none⟩ = false := (World.frozen?_of_block (a := ⟨w.heap.size + 2, 0, none⟩) (hg4.block (w.heap.size + 2) (by have := HI3.out.sz; omega) (fun e => by have := (R_own_cells HR3.out e).1; omega))).trans HI3.out.f2; clear hR4 hb4 hg4; refine inK_nil ?_))
       have hk3 : KeepsFrom (w.heap.size + 6) W w3 := ⟨HD.out.size, fun q o' _ hq _ => (HD.out.block q (Array.getElem?_eq_some_iff.1 hq).1).trans hq⟩
       have hk4 : Keeps3 (w.heap.size + 3) W w3 := fun q h1 h2 => HD.out.block q (by have := HSZ.out; omega)
       have hl1 : (acc ++ [(⟨a1, b1⟩ : S35)]).length = acc.length + 1 := by rw [List.length_append]; rfl
       have HN2 := HN.out
       rw [hl1] at HN2
       exact ⟨hk3.trans HN2.2.2, fun q h1 h2 => (HN2.2.1 q h1 h2).trans (hk4 q h1 h2), HN2.1, HBF.out.setCell (p := ⟨w.heap.size + 2, 0, none⟩) (by simp) _⟩
      ·have := HG3.out
       rw [if_neg hlen] at this
       cases this
   case done =>
    rintro D ys W hD rfl ⟨hI, hB⟩ hK
    obtain ⟨acc, v, hadv, hc2, hR⟩ := hI.ex
    have hf0 := hI.f0
    have hc0 := hI.c0
    have hf1 := hI.f1
    have hc1 := hI.c1
    have hsz := hI.sz
    have ho : o = some acc := by
     have h2 := hadv []
     rw [List.append_nil, hgo] at h2
     exact Option.some.inj h2
    subst ho
    obtain ⟨m, hm, hend2⟩ := Option.bind_eq_some_iff.1 hend
    obtain ⟨A4, c4, rfl, hcap, hC⟩ := Kd.R_reads hR
    have hD2 : ∀ {X : World}, Below W.heap.size W X → X.heap[D]? = some (.deferred (some [])) := fun h => (h.block D (Array.getElem?_eq_some_iff.1 hK).1).trans hK
    cases m with
    | true =>
     rw [if_pos rfl] at hend2
     have hq := Option.some.inj hend2
     simp only [Prod.mk.injEq] at hq
     obtain ⟨rfl, rfl⟩ := hq
     gi_wp2_with (refine ⟨trivial, ?_⟩; gi_at_call 37; with_reducible refine (callsIn_wide.2 (query_May.calls k A4 c4 acc true _ hC hcap hm)).mono ?_; rintro e w1 ⟨rfl, hd⟩; replace hd : Below _ _ _ := (by first | exact hd.below | exact hd); have HI1 := am_ (hI.below hd); have hR1 := Kd.R_below hR hd; have hB1 := hB.trans (hd.mono hB.size); have hK1 := hD2 hd; have hc0 := HI1.out.c0; have hf0 := HI1.out.f0; have hc1 := HI1.out.c1; have hf1 := HI1.out.f1; have hc2 : w1.cell? ⟨w.heap.size + 2, 0, none⟩ = some (.slice A4 acc.length c4) := (hd.cell (p := ⟨w.heap.size + 2, 0, none⟩) (by show w.heap.size + 2 < _; omega)).trans hc2; clear hd)
     obtain ⟨X, hX⟩ : ∃ X, X = (w1.setCell ⟨w.heap.size, 0, none⟩ (.slice A4 acc.length c4)).setCell ⟨w.heap.size + 1, 0, none⟩ (.int .i64 0) := ⟨_, rfl⟩
     have hKX : X.heap[D]? = some (.deferred (some [])) := by rw [hX]; exact (KeepsOthers.setCell _ _ _).same D _ ((KeepsOthers.setCell _ _ _).same D _ hK1 rfl) rfl
     have hA : X.cell? ⟨w.heap.size, 0, none⟩ = some (.slice A4 acc.length c4) := by rw [hX]; exact (World.cell?_setCell_far _ ⟨w.heap.size + 1, 0, none⟩ ⟨w.heap.size, 0, none⟩ _ (by simp)).trans (World.cell?_setCell_same' w1 ⟨w.heap.size, 0, none⟩ _ (by rw [hc0]; rfl))
     have hBc : X.cell? ⟨w.heap.size + 1, 0, none⟩ = some (.int .i64 0) := by rw [hX]; exact World.cell?_setCell_same' _ ⟨w.heap.size + 1, 0, none⟩ _ (by rw [World.cell?_setCell_far w1 ⟨w.heap.size, 0, none⟩ ⟨w.heap.size + 1, 0, none⟩ _ (by simp), hc1]; rfl)
     have hBX : Below w.heap.size w X := by rw [hX]; exact (hB1.setCell (p := ⟨w.heap.size, 0, none⟩) (by simp) _).setCell (p := ⟨w.heap.size + 1, 0, none⟩) (by simp) _
     have hRX : Kd.R k35 35 X w.heap.size (fun q => w.heap.size + 6 ≤ q) (.slice A4 acc.length c4) acc := by rw [hX]; exact Kd.R_far (Kd.R_far hR1 (fun q hq => by show q ≠ w.heap.size; omega) _) (fun q hq => by show q ≠ w.heap.size + 1; omega) _
     rw [← hX]
     refine ⟨by simp, .inl ⟨_, _, rfl, run_takeDeferred hKX, ?_⟩⟩
     have hc5 := Go.cell_kept hA (grownBy_putObj' _ D (.deferred none)) (fun r e => by cases e; exact ⟨_, hKX, rfl⟩)
     have hc6 := Go.cell_kept hBc (grownBy_putObj' _ D (.deferred none)) (fun r e => by cases e; exact ⟨_, hKX, rfl⟩)
     refine ⟨.tuple #[.slice A4 acc.length c4, .int .i64 0], ?_, _, rfl, R_put_walk (Kd.R_mono hRX (fun _ _ => trivial)) hKX rfl, hBX.trans (belowK_b (w := w) (Nat.le_refl _) X D _ _ (by omega) hKX rfl rfl)⟩
     simp [results, Tryd.f54, go_sem, hc5, hc6]
    | false =>
     rw [if_neg (by decide)] at hend2
     have hq := Option.some.inj hend2
     simp only [Prod.mk.injEq] at hq
     obtain ⟨rfl, rfl⟩ := hq
     gi_wp2_with (refine ⟨trivial, ?_⟩; gi_at_call 37; with_reducible refine (callsIn_wide.2 (query_May.calls k A4 c4 acc false _ hC hcap hm)).mono ?_; rintro e w1 ⟨rfl, hd⟩; replace hd : Below _ _ _ := (by first | exact hd.below | exact hd); have HI1 := am_ (hI.below hd); have hB1 := hB.trans (hd.mono hB.size); have hK1 := hD2 hd; have hc0 := HI1.out.c0; have hf0 := HI1.out.f0; have hc1 := HI1.out.c1; have hf1 := HI1.out.f1; have hc2 : w1.cell? ⟨w.heap.size + 2, 0, none⟩ = some (.slice A4 acc.length c4) := (hd.cell (p := ⟨w.heap.size + 2, 0, none⟩) (by show w.heap.size + 2 < _; omega)).trans hc2; clear hd)
     obtain ⟨X, hX⟩ : ∃ X, X = (w1.setCell ⟨w.heap.size, 0, none⟩ (.slice none 0 0)).setCell ⟨w.heap.size + 1, 0, none⟩ (.int .i64 2) := ⟨_, rfl⟩
     have hKX : X.heap[D]? = some (.deferred (some [])) := by rw [hX]; exact (KeepsOthers.setCell _ _ _).same D _ ((KeepsOthers.setCell _ _ _).same D _ hK1 rfl) rfl
     have hA : X.cell? ⟨w.heap.size, 0, none⟩ = some (.slice none 0 0) := by rw [hX]; exact (World.cell?_setCell_far _ ⟨w.heap.size + 1, 0, none⟩ ⟨w.heap.size, 0, none⟩ _ (by simp)).trans (World.cell?_setCell_same' w1 ⟨w.heap.size, 0, none⟩ _ (by rw [hc0]; rfl))
     have hBc : X.cell? ⟨w.heap.size + 1, 0, none⟩ = some (.int .i64 2) := by rw [hX]; exact World.cell?_setCell_same' _ ⟨w.heap.size + 1, 0, none⟩ _ (by rw [World.cell?_setCell_far w1 ⟨w.heap.size, 0, none⟩ ⟨w.heap.size + 1, 0, none⟩ _ (by simp), hc1]; rfl)
     have hBX : Below w.heap.size w X := by rw [hX]; exact (hB1.setCell (p := ⟨w.heap.size, 0, none⟩) (by simp) _).setCell (p := ⟨w.heap.size + 1, 0, none⟩) (by simp) _
     rw [← hX]
     refine ⟨by simp, .inl ⟨_, _, rfl, run_takeDeferred hKX, ?_⟩⟩
     have hc5 := Go.cell_kept hA (grownBy_putObj' _ D (.deferred none)) (fun r e => by cases e; exact ⟨_, hKX, rfl⟩)
     have hc6 := Go.cell_kept hBc (grownBy_putObj' _ D (.deferred none)) (fun r e => by cases e; exact ⟨_, hKX, rfl⟩)
     refine ⟨.tuple #[.slice none 0 0, .int .i64 2], ?_, _, rfl, Kd.R_nil _ _ _ _ _, hBX.trans (belowK_b (w := w) (Nat.le_refl _) X D _ _ (by omega) hKX rfl rfl)⟩
     simp [results, Tryd.f54, go_sem, hc5, hc6]
   case stop =>
    rintro D pre W hD hpre ⟨⟨rfl, hc0, hc1⟩, hB⟩ hK
    have hq := Option.some.inj (show some (([] : List S35), (2 : Int)) = some (r1, r2) from hend)
    simp only [Prod.mk.injEq] at hq
    obtain ⟨rfl, rfl⟩ := hq
    gi_wp2
    refine ⟨by simp, .inl ⟨_, _, rfl, run_takeDeferred hK, ?_⟩⟩
    have hc5 := Go.cell_kept hc0 (grownBy_putObj' _ D (.deferred none)) (fun r e => by cases e; exact ⟨_, hK, rfl⟩)
    have hc6 := Go.cell_kept hc1 (grownBy_putObj' _ D (.deferred none)) (fun r e => by cases e; exact ⟨_, hK, rfl⟩)
    refine ⟨.tuple #[.slice none 0 0, .int .i64 2], ?_, _, rfl, Kd.R_nil _ _ _ _ _, hB.trans (belowK_b (w := w) (Nat.le_refl _) W D _ _ (by omega) hK rfl rfl)⟩
    simp [results, Tryd.f54, go_sem, hc5, hc6]
  ·rw [if_neg hl] at h; cases h
end

/-! ### head_first: function 35 -/
def head_first.j0 : Nat → ByteArray → ByteArray → Bool → ByteArray → ByteArray → ByteArray → Option (ByteArray × ByteArray × ByteArray × (List (S35)) × (List (S35)) × Bool)
 | 0, _, _, _, _, _, _ => none
 | k + 1, x4, x7, x33, x156000, x156001, x156002 => if x33 = true then (some (x156000, x156001, x156002, ([] : List (S35)), ([] : List (S35)), false)) else ((strings_Cut.f k x7 (⟨#[63]⟩ : ByteArray)).bind fun bt163 => ((query_Parse.f k bt163.2.1).bind fun bt166 => (if bt166.2 = 0 then ((path_Is.f bt163.1).bind fun t170 => (if t170 = true then (if bt163.2.2 = true then (if bt163.2.1.toList = ([] : List UInt8) then (some (x156000, x156001, x156002, ([] : List (S35)), ([] : List (S35)), false)) else (some (x4, (⟨#[]⟩ : ByteArray), bt163.1, bt166.1, ([] : List (S35)), true))) else (some (x4, (⟨#[]⟩ : ByteArray), bt163.1, bt166.1, ([] : List (S35)), true))) else (some (x156000, x156001, x156002, ([] : List (S35)), ([] : List (S35)), false)))) else (some (x156000, x156001, x156002, ([] : List (S35)), ([] : List (S35)), false)))))
def head_first.f (k : Nat) (a0 : ByteArray) : Option (ByteArray × ByteArray × ByteArray × (List (S35)) × (List (S35)) × Bool) := (strings_Cut.f k a0 (⟨#[32]⟩ : ByteArray)).bind fun bt156 => ((strings_Cut.f k bt156.2.1 (⟨#[32]⟩ : ByteArray)).bind fun bt159 => (if bt159.2.1.toList = ([72, 84, 84, 80, 47, 49, 46, 49] : List UInt8) then ((rule_Method.f bt156.1).bind fun t162 => (head_first.j0 k bt156.1 bt159.1 (!t162) (⟨#[]⟩ : ByteArray) (⟨#[]⟩ : ByteArray) (⟨#[]⟩ : ByteArray))) else (head_first.j0 k bt156.1 bt159.1 true (⟨#[]⟩ : ByteArray) (⟨#[]⟩ : ByteArray) (⟨#[]⟩ : ByteArray))))
theorem head_first.mono_l : ∀ k, (∀ y0 y1 y2 y3 y4 y5, LeO (head_first.j0 k y0 y1 y2 y3 y4 y5) (head_first.j0 (k + 1) y0 y1 y2 y3 y4 y5))
 | 0 => fun _ _ _ _ _ _ r h => by simp [head_first.j0] at h
 | k + 1 => by
  have ih0 := head_first.mono_l k
  ·intro y0 y1 y2 y3 y4 y5
   unfold head_first.j0
   repeat' first
   | (with_reducible exact ih0 _ _ _ _ _ _)
   | (with_reducible exact query_Parse.mono _ _)
   | (with_reducible exact strings_Cut.mono _ _ _)
   | (with_reducible exact LeO.refl _)
   | (with_reducible exact LeO.none _)
   | (with_reducible refine LeO.ite ?_ ?_)
   | (with_reducible refine LeO.bind ?_ (fun _ => ?_))
   | exact ih0 _ _ _ _ _ _
   | exact query_Parse.mono _ _
   | exact strings_Cut.mono _ _ _
   | exact LeO.none _
   | refine LeO.ite ?_ ?_
   | refine LeO.bind ?_ (fun _ => ?_)
theorem head_first.mono : ∀ a0 k, LeO (head_first.f k a0) (head_first.f (k + 1) a0) := by
 intro a0 k
 have ih0 := head_first.mono_l k
 unfold head_first.f
 repeat' first
   | (with_reducible exact ih0 _ _ _ _ _ _)
   | (with_reducible exact query_Parse.mono _ _)
   | (with_reducible exact strings_Cut.mono _ _ _)
   | (with_reducible exact LeO.refl _)
   | (with_reducible exact LeO.none _)
   | (with_reducible refine LeO.ite ?_ ?_)
   | (with_reducible refine LeO.bind ?_ (fun _ => ?_))
   | exact ih0 _ _ _ _ _ _
   | exact query_Parse.mono _ _
   | exact strings_Cut.mono _ _ _
   | exact LeO.none _
   | refine LeO.ite ?_ ?_
   | refine LeO.bind ?_ (fun _ => ?_)
set_option maxHeartbeats 8000000 in
set_option maxRecDepth 100000 in
theorem head_first.calls (k : Nat) (a0 : ByteArray) (r1 : ByteArray) (r2 : ByteArray) (r3 : ByteArray) (r4 : List (S35)) (r5 : List (S35)) (r6 : Bool) (w : World) (h : head_first.f k a0 = some (r1, r2, r3, r4, r5, r6)) :
  Calls Tryd.prog 35 #[.string a0] w fun e w' => ∃ v3_ v4_ : Value, e = .returned (.tuple #[.agg #[.string r1, .string r2, .string r3, v3_, v4_], .bool r6]) ∧ Kd.R k35 35 w' w.heap.size (fun k_ => some k_ ≠ (v4_ : Value).ownBlock) v3_ r4 ∧ Kd.R k35 35 w' w.heap.size (fun k_ => some k_ ≠ (v3_ : Value).ownBlock) v4_ r5 ∧ Below w.heap.size w w' := by
 have hu26 := Tryd.underlying26
 have HB := am_ (Below.refl w.heap.size w)
 have H : ((strings_Cut.f k a0 (⟨#[32]⟩ : ByteArray)).bind fun bt156 => ((strings_Cut.f k bt156.2.1 (⟨#[32]⟩ : ByteArray)).bind fun bt159 => (if bt159.2.1.toList = ([72, 84, 84, 80, 47, 49, 46, 49] : List UInt8) then ((rule_Method.f bt156.1).bind fun t162 => (head_first.j0 k bt156.1 bt159.1 (!t162) (⟨#[]⟩ : ByteArray) (⟨#[]⟩ : ByteArray) (⟨#[]⟩ : ByteArray))) else (head_first.j0 k bt156.1 bt159.1 true (⟨#[]⟩ : ByteArray) (⟨#[]⟩ : ByteArray) (⟨#[]⟩ : ByteArray))))) = some (r1, r2, r3, r4, r5, r6) := h
 clear h
 replace H := Option.bind_eq_some_iff.mp H
 obtain ⟨⟨t156, t157, t158⟩, A20, H⟩ := H
 replace H : ((strings_Cut.f k t157 (⟨#[32]⟩ : ByteArray)).bind fun bt159 => (if bt159.2.1.toList = ([72, 84, 84, 80, 47, 49, 46, 49] : List UInt8) then ((rule_Method.f t156).bind fun t162 => (head_first.j0 k t156 bt159.1 (!t162) (⟨#[]⟩ : ByteArray) (⟨#[]⟩ : ByteArray) (⟨#[]⟩ : ByteArray))) else (head_first.j0 k t156 bt159.1 true (⟨#[]⟩ : ByteArray) (⟨#[]⟩ : ByteArray) (⟨#[]⟩ : ByteArray)))) = some (r1, r2, r3, r4, r5, r6) := H
 have A2 := Aside0.mk A20
 clear A20
 replace H := Option.bind_eq_some_iff.mp H
 obtain ⟨⟨t159, t160, t161⟩, A30, H⟩ := H
 replace H : (if t160.toList = ([72, 84, 84, 80, 47, 49, 46, 49] : List UInt8) then ((rule_Method.f t156).bind fun t162 => (head_first.j0 k t156 t159 (!t162) (⟨#[]⟩ : ByteArray) (⟨#[]⟩ : ByteArray) (⟨#[]⟩ : ByteArray))) else (head_first.j0 k t156 t159 true (⟨#[]⟩ : ByteArray) (⟨#[]⟩ : ByteArray) (⟨#[]⟩ : ByteArray))) = some (r1, r2, r3, r4, r5, r6) := H
 have A3 := Aside0.mk A30
 clear A30
 have HC4 := Aside0.mk H
 clear H
 go_enter Tryd.func35, Tryd.ntmps35
 go_upto_region 3 with (first | ((with_reducible refine gate_dst (N := 2) rfl ?_); refine box_event ?hg (N := 2) ?hd (cs := #[.string (⟨#[]⟩ : ByteArray), .string (⟨#[]⟩ : ByteArray), .string (⟨#[]⟩ : ByteArray), .slice none 0 0, .slice none 0 0]) (t := 26) ?hr ?_; (case hd => rfl); (case hg => rfl); (case hr => first | (go_simp; done) | (go_simp; rfl)); intro gb155 hg w5 hbox hb; have n0_ := am_ (below_step (bel_ HB.out) hb); have n1_ := am_ (hbox); have n2_ := am_ ((by rw [hg]; exact (below_size (bel_ HB.out)) : w.heap.size ≤ gb155)); have n3_ := am_ ((by rw [hg]; exact (below_size (bel_ HB.out)) : w.heap.size ≤ gb155)); clear HB; have HB := n0_; have BK155 := n1_; have GW155 := n2_; have GE155 := n3_; clear n0_ n1_ n2_ n3_ hb hbox hg) | ((with_reducible refine gate_callee (f := 53) rfl ?_); refine goesL_ (some 17) rfl rfl Tryd.func53 kr_ rfl #[.string a0, .string (⟨#[32]⟩ : ByteArray)] rfl rl_ ?_; (with_reducible refine (strings_Cut.calls k a0 (⟨#[32]⟩ : ByteArray) t156 t157 t158 _ A2.out).mono ?_); rintro e w' ⟨rfl, ⟨nd, rfl⟩⟩; refine ⟨_, rfl, ?_⟩) | ((with_reducible refine gate_callee (f := 53) rfl ?_); refine goesL_ (some 23) rfl rfl Tryd.func53 kr_ rfl #[.string t157, .string (⟨#[32]⟩ : ByteArray)] rfl rl_ ?_; (with_reducible refine (strings_Cut.calls k t157 (⟨#[32]⟩ : ByteArray) t159 t160 t161 _ A3.out).mono ?_); rintro e w' ⟨rfl, ⟨nd, rfl⟩⟩; refine ⟨_, rfl, ?_⟩))
 (try simp only [Act.put, List.setIfInBounds_toArray, List.set_cons_zero, List.set_cons_succ])
 go_cut [33] (fun v33 wc => ∃ (kq : Nat) (x33_3 : Bool), v33 = .bool x33_3 ∧ Aside0 (head_first.j0 kq t156 t159 x33_3 (⟨#[]⟩ : ByteArray) (⟨#[]⟩ : ByteArray) (⟨#[]⟩ : ByteArray) = some (r1, r2, r3, r4, r5, r6)) ∧ Aside0 (kq ≤ k) ∧ Aside0 (wc.heap[gb155]? = some (.cells #[.string (⟨#[]⟩ : ByteArray), .string (⟨#[]⟩ : ByteArray), .string (⟨#[]⟩ : ByteArray), (.slice none 0 0), (.slice none 0 0)] 26 (0, 0))) ∧ Aside0 (Below w.heap.size w wc))
 case first =>
  have H := HC4.out
  clear HC4
  by_cases c6 : t160.toList = ([72, 84, 84, 80, 47, 49, 46, 49] : List UInt8)
  ·rw [if_pos c6] at H
   have c6b0 : (t160.toList == ([72, 84, 84, 80, 47, 49, 46, 49] : List UInt8)) = true := beq_iff_eq.mpr c6
   have c6b1 : (t160.toList != ([72, 84, 84, 80, 47, 49, 46, 49] : List UInt8)) = false := bne_eq_false_iff_eq.mpr c6
   clear c6
   (first | rw [c6b0] | rw [c6b1] | rw [c6b2] | (simp only [i64_w, i32_w]; rw [c6b0]) | skip)
   replace H := Option.bind_eq_some_iff.mp H
   obtain ⟨t162, A70, H⟩ := H
   replace H : (head_first.j0 k t156 t159 (!t162) (⟨#[]⟩ : ByteArray) (⟨#[]⟩ : ByteArray) (⟨#[]⟩ : ByteArray)) = some (r1, r2, r3, r4, r5, r6) := H
   have A7 := Aside0.mk A70
   clear A70
   have H' := Aside0.mk H
   clear H
   go_wp2_with (first | (go_at_call 24; (with_reducible refine (rule_Method.calls t156 t162 _ A7.out).mono ?_); rintro e w8 ⟨rfl, hb⟩; have n0_ := am_ (blk_below (g := gb155) (o := .cells #[.string (⟨#[]⟩ : ByteArray), .string (⟨#[]⟩ : ByteArray), .string (⟨#[]⟩ : ByteArray), .slice none 0 0, .slice none 0 0] 26 (0, 0)) (blk_ BK155.out) hb); have n1_ := am_ (below_step (bel_ HB.out) hb); clear BK155 HB; have BK155 := n0_; have HB := n1_; clear n0_ n1_; (try clear hb); (try clear hb2); (try clear hk); (try clear hi)))
   go_meet
   case rel => exact ⟨_, (!t162), sd_, H', ⟨by first | omega | exact Nat.le_refl _⟩, ⟨by (with_reducible repeat (first | refine blk_drewN ?_ _ | refine blk_drew ?_ | refine blk_alloc ?_ _)); exact BK155.out⟩, ⟨bel_ HB.out⟩⟩
  ·rw [if_neg c6] at H
   have c6b0 : (t160.toList == ([72, 84, 84, 80, 47, 49, 46, 49] : List UInt8)) = false := beq_eq_false_iff_ne.mpr c6
   have c6b1 : (t160.toList != ([72, 84, 84, 80, 47, 49, 46, 49] : List UInt8)) = true := bne_iff_ne.mpr c6
   (first | rw [c6b0] | rw [c6b1] | rw [c6b2] | (simp only [i64_w, i32_w]; rw [c6b0]) | skip)
   have H' := Aside0.mk H
   clear H
   go_wp2
   go_meet
   case rel => exact ⟨_, (true), sd_, H', ⟨by first | omega | exact Nat.le_refl _⟩, ⟨by (with_reducible repeat (first | refine blk_drewN ?_ _ | refine blk_drew ?_ | refine blk_alloc ?_ _)); exact BK155.out⟩, ⟨bel_ HB.out⟩⟩
 case rest =>
  clear HC4
  try clear p2
  try clear c3
  try clear c5
  try clear c6
  try clear c6b0
  try clear c6b1
  try clear c6b2
  obtain ⟨kq, x33_3, rfl, HA, HJ3, BK155, HB⟩ := hcut
  cases kq with
  | zero => exact absurd HA.out (by simp [head_first.j0])
  | succ kj3 =>
   have H := HA.out
   clear HA
   simp only [head_first.j0] at H
   by_cases c9 : x33_3 = true
   ·subst c9
    have H1 : (some ((⟨#[]⟩ : ByteArray), (⟨#[]⟩ : ByteArray), (⟨#[]⟩ : ByteArray), ([] : List (S35)), ([] : List (S35)), false)) = some (r1, r2, r3, r4, r5, r6) := by rw [if_pos rfl] at H; exact H
    clear H
    have H := H1
    clear H1
    simp only [Option.some.injEq, Prod.mk.injEq] at H
    obtain ⟨rfl, rfl, rfl, rfl, rfl, rfl⟩ := H
    have hcz10_0 : wc.cell? ⟨gb155, 0, none⟩ = some (.string (⟨#[]⟩ : ByteArray)) := (blk_cell BK155.out 0).trans rfl
    have hcz10_1 : wc.cell? ⟨gb155, 1, none⟩ = some (.string (⟨#[]⟩ : ByteArray)) := (blk_cell BK155.out 1).trans rfl
    have hcz10_2 : wc.cell? ⟨gb155, 2, none⟩ = some (.string (⟨#[]⟩ : ByteArray)) := (blk_cell BK155.out 2).trans rfl
    have hcz10_3 : wc.cell? ⟨gb155, 3, none⟩ = some (.slice none 0 0) := (blk_cell BK155.out 3).trans rfl
    have hcz10_4 : wc.cell? ⟨gb155, 4, none⟩ = some (.slice none 0 0) := (blk_cell BK155.out 4).trans rfl
    have hfz10_0 := blk_frozen BK155.out 0
    have hfz10_1 := blk_frozen BK155.out 1
    have hfz10_2 := blk_frozen BK155.out 2
    have hfz10_3 := blk_frozen BK155.out 3
    have hfz10_4 := blk_frozen BK155.out 4
    go_wp2
    refine bodyPost_ret (results_ct rfl _ _ gb155 26 #[.string (⟨#[]⟩ : ByteArray), .string (⟨#[]⟩ : ByteArray), .string (⟨#[]⟩ : ByteArray), .slice none 0 0, .slice none 0 0] (0, 0) _ rfl (by (with_reducible repeat (first | refine blk_drewN ?_ _ | refine blk_drew ?_ | refine blk_alloc ?_ _)); refine blk_put (cs := #[.string (⟨#[]⟩ : ByteArray), .string (⟨#[]⟩ : ByteArray), .string (⟨#[]⟩ : ByteArray), .slice none 0 0, .slice none 0 0]) ?_ 4 _ rfl; (with_reducible repeat (first | refine blk_drewN ?_ _ | refine blk_drew ?_ | refine blk_alloc ?_ _)); refine blk_put (cs := #[.string (⟨#[]⟩ : ByteArray), .string (⟨#[]⟩ : ByteArray), .string (⟨#[]⟩ : ByteArray), .slice none 0 0, .slice none 0 0]) ?_ 3 _ rfl; (with_reducible repeat (first | refine blk_drewN ?_ _ | refine blk_drew ?_ | refine blk_alloc ?_ _)); refine blk_put (cs := #[.string (⟨#[]⟩ : ByteArray), .string (⟨#[]⟩ : ByteArray), .string (⟨#[]⟩ : ByteArray), .slice none 0 0, .slice none 0 0]) ?_ 2 _ rfl; (with_reducible repeat (first | refine blk_drewN ?_ _ | refine blk_drew ?_ | refine blk_alloc ?_ _)); refine blk_put (cs := #[.string (⟨#[]⟩ : ByteArray), .string (⟨#[]⟩ : ByteArray), .string (⟨#[]⟩ : ByteArray), .slice none 0 0, .slice none 0 0]) ?_ 1 _ rfl; (with_reducible repeat (first | refine blk_drewN ?_ _ | refine blk_drew ?_ | refine blk_alloc ?_ _)); refine blk_put (cs := #[.string (⟨#[]⟩ : ByteArray), .string (⟨#[]⟩ : ByteArray), .string (⟨#[]⟩ : ByteArray), .slice none 0 0, .slice none 0 0]) ?_ 0 _ rfl; (with_reducible repeat (first | refine blk_drewN ?_ _ | refine blk_drew ?_ | refine blk_alloc ?_ _)); exact BK155.out) Tryd.underlying26 rfl kr_) rfl ?_
    exact ⟨_, _, by first | rfl | (simp [errW_none, errW_some] <;> rfl) | (simp [*, errW_none, errW_some] <;> rfl), by first | exact Kd.R_nil _ _ _ _ _ | exact Kd.N_nil _ _ _ _ _ | exact Kd.V_nil _ _ _ _ _ | exact Kd.Q_nil _ _ _ _ _ | exact Kd.S_nil _ _ _ _ _, by first | exact Kd.R_nil _ _ _ _ _ | exact Kd.N_nil _ _ _ _ _ | exact Kd.V_nil _ _ _ _ _ | exact Kd.Q_nil _ _ _ _ _ | exact Kd.S_nil _ _ _ _ _, bel_ HB.out⟩
   ·replace c9 := Bool.eq_false_iff.mpr c9
    subst c9
    have H1 : ((strings_Cut.f kj3 t159 (⟨#[63]⟩ : ByteArray)).bind fun bt163 => ((query_Parse.f kj3 bt163.2.1).bind fun bt166 => (if bt166.2 = 0 then ((path_Is.f bt163.1).bind fun t170 => (if t170 = true then (if bt163.2.2 = true then (if bt163.2.1.toList = ([] : List UInt8) then (some ((⟨#[]⟩ : ByteArray), (⟨#[]⟩ : ByteArray), (⟨#[]⟩ : ByteArray), ([] : List (S35)), ([] : List (S35)), false)) else (some (t156, (⟨#[]⟩ : ByteArray), bt163.1, bt166.1, ([] : List (S35)), true))) else (some (t156, (⟨#[]⟩ : ByteArray), bt163.1, bt166.1, ([] : List (S35)), true))) else (some ((⟨#[]⟩ : ByteArray), (⟨#[]⟩ : ByteArray), (⟨#[]⟩ : ByteArray), ([] : List (S35)), ([] : List (S35)), false)))) else (some ((⟨#[]⟩ : ByteArray), (⟨#[]⟩ : ByteArray), (⟨#[]⟩ : ByteArray), ([] : List (S35)), ([] : List (S35)), false))))) = some (r1, r2, r3, r4, r5, r6) := by rw [if_neg (show ¬ (false = true) by decide)] at H; exact H
    clear H
    have H := H1
    clear H1
    replace H := Option.bind_eq_some_iff.mp H
    obtain ⟨⟨t163, t164, t165⟩, A110, H⟩ := H
    replace H : ((query_Parse.f kj3 t164).bind fun bt166 => (if bt166.2 = 0 then ((path_Is.f t163).bind fun t170 => (if t170 = true then (if t165 = true then (if t164.toList = ([] : List UInt8) then (some ((⟨#[]⟩ : ByteArray), (⟨#[]⟩ : ByteArray), (⟨#[]⟩ : ByteArray), ([] : List (S35)), ([] : List (S35)), false)) else (some (t156, (⟨#[]⟩ : ByteArray), t163, bt166.1, ([] : List (S35)), true))) else (some (t156, (⟨#[]⟩ : ByteArray), t163, bt166.1, ([] : List (S35)), true))) else (some ((⟨#[]⟩ : ByteArray), (⟨#[]⟩ : ByteArray), (⟨#[]⟩ : ByteArray), ([] : List (S35)), ([] : List (S35)), false)))) else (some ((⟨#[]⟩ : ByteArray), (⟨#[]⟩ : ByteArray), (⟨#[]⟩ : ByteArray), ([] : List (S35)), ([] : List (S35)), false)))) = some (r1, r2, r3, r4, r5, r6) := H
    have A11 := Aside0.mk A110
    clear A110
    replace H := Option.bind_eq_some_iff.mp H
    obtain ⟨⟨t166, t167⟩, A120, H⟩ := H
    replace H : (if t167 = 0 then ((path_Is.f t163).bind fun t170 => (if t170 = true then (if t165 = true then (if t164.toList = ([] : List UInt8) then (some ((⟨#[]⟩ : ByteArray), (⟨#[]⟩ : ByteArray), (⟨#[]⟩ : ByteArray), ([] : List (S35)), ([] : List (S35)), false)) else (some (t156, (⟨#[]⟩ : ByteArray), t163, t166, ([] : List (S35)), true))) else (some (t156, (⟨#[]⟩ : ByteArray), t163, t166, ([] : List (S35)), true))) else (some ((⟨#[]⟩ : ByteArray), (⟨#[]⟩ : ByteArray), (⟨#[]⟩ : ByteArray), ([] : List (S35)), ([] : List (S35)), false)))) else (some ((⟨#[]⟩ : ByteArray), (⟨#[]⟩ : ByteArray), (⟨#[]⟩ : ByteArray), ([] : List (S35)), ([] : List (S35)), false))) = some (r1, r2, r3, r4, r5, r6) := H
    have A12 := Aside0.mk A120
    clear A120
    by_cases c13 : t167 = 0
    ·rw [if_pos c13] at H
     have c13b0 : (t167 == 0) = true := beq_iff_eq.mpr c13
     have c13b1 : (t167 != 0) = false := bne_eq_false_iff_eq.mpr c13
     clear c13
     replace H := Option.bind_eq_some_iff.mp H
     obtain ⟨t170, A140, H⟩ := H
     replace H : (if t170 = true then (if t165 = true then (if t164.toList = ([] : List UInt8) then (some ((⟨#[]⟩ : ByteArray), (⟨#[]⟩ : ByteArray), (⟨#[]⟩ : ByteArray), ([] : List (S35)), ([] : List (S35)), false)) else (some (t156, (⟨#[]⟩ : ByteArray), t163, t166, ([] : List (S35)), true))) else (some (t156, (⟨#[]⟩ : ByteArray), t163, t166, ([] : List (S35)), true))) else (some ((⟨#[]⟩ : ByteArray), (⟨#[]⟩ : ByteArray), (⟨#[]⟩ : ByteArray), ([] : List (S35)), ([] : List (S35)), false))) = some (r1, r2, r3, r4, r5, r6) := H
     have A14 := Aside0.mk A140
     clear A140
     by_cases c15 : t170 = true
     ·subst c15
      have H1 : (if t165 = true then (if t164.toList = ([] : List UInt8) then (some ((⟨#[]⟩ : ByteArray), (⟨#[]⟩ : ByteArray), (⟨#[]⟩ : ByteArray), ([] : List (S35)), ([] : List (S35)), false)) else (some (t156, (⟨#[]⟩ : ByteArray), t163, t166, ([] : List (S35)), true))) else (some (t156, (⟨#[]⟩ : ByteArray), t163, t166, ([] : List (S35)), true))) = some (r1, r2, r3, r4, r5, r6) := by rw [if_pos rfl] at H; exact H
      clear H
      have H := H1
      clear H1
      by_cases c16 : t165 = true
      ·subst c16
       have H1 : (if t164.toList = ([] : List UInt8) then (some ((⟨#[]⟩ : ByteArray), (⟨#[]⟩ : ByteArray), (⟨#[]⟩ : ByteArray), ([] : List (S35)), ([] : List (S35)), false)) else (some (t156, (⟨#[]⟩ : ByteArray), t163, t166, ([] : List (S35)), true))) = some (r1, r2, r3, r4, r5, r6) := by rw [if_pos rfl] at H; exact H
       clear H
       have H := H1
       clear H1
       by_cases c17 : t164.toList = ([] : List UInt8)
       ·rw [if_pos c17] at H
        have c17b0 : (t164.toList == ([] : List UInt8)) = true := beq_iff_eq.mpr c17
        have c17b1 : (t164.toList != ([] : List UInt8)) = false := bne_eq_false_iff_eq.mpr c17
        clear c17
        simp only [Option.some.injEq, Prod.mk.injEq] at H
        obtain ⟨rfl, rfl, rfl, rfl, rfl, rfl⟩ := H
        go_wp2_with (first | ((with_reducible refine gate_callee (f := 53) rfl ?_); refine goesL_ (some 37) rfl rfl Tryd.func53 kr_ rfl #[.string t159, .string (⟨#[63]⟩ : ByteArray)] rfl rl_ ?_; (with_reducible refine (strings_Cut.calls kj3 t159 (⟨#[63]⟩ : ByteArray) t163 t164 true _ A11.out).mono ?_); rintro e w' ⟨rfl, ⟨nd, rfl⟩⟩; refine ⟨_, rfl, ?_⟩; (try (rw [drewN_self wc]; generalize hq_ : World.drewN wc _ = wc; have n0_ : Aside0 (wc.heap[gb155]? = some (.cells #[.string (⟨#[]⟩ : ByteArray), .string (⟨#[]⟩ : ByteArray), .string (⟨#[]⟩ : ByteArray), .slice none 0 0, .slice none 0 0] 26 (0, 0))) := ⟨by rw [← hq_]; exact (blk_ BK155.out)⟩; have n1_ : Aside0 (Below w.heap.size w wc) := ⟨by rw [← hq_]; exact (bel_ HB.out)⟩; clear BK155 HB hq_; have BK155 := n0_; have HB := n1_; clear n0_ n1_))) | ((with_reducible refine gate_callee (f := 54) rfl ?_); refine goesL_ (some 43) rfl rfl Tryd.func54 kr_ rfl #[.string t164] rfl rl_ ?_; (with_reducible refine (query_Parse.calls kj3 t164 t166 t167 _ A12.out).mono ?_); rintro e w18 ⟨v168, rfl, ho0, hb⟩; refine ⟨_, rfl, ?_⟩; have n0_ := am_ (Kd.R_lower ho0 (below_size (bel_ HB.out))); have n1_ := am_ (blk_below (g := gb155) (o := .cells #[.string (⟨#[]⟩ : ByteArray), .string (⟨#[]⟩ : ByteArray), .string (⟨#[]⟩ : ByteArray), .slice none 0 0, .slice none 0 0] 26 (0, 0)) (blk_ BK155.out) hb); have n2_ := am_ (below_step (bel_ HB.out) hb); clear BK155 HB; have HO169 := n0_; have BK155 := n1_; have HB := n2_; clear n0_ n1_ n2_; (try clear hb); (try clear hb2); (try clear hk); (try clear hi); (try clear ho0)) | (go_at_call 25; (with_reducible refine (path_Is.calls t163 true _ A14.out).mono ?_); rintro e w19 ⟨rfl, hb⟩; have n0_ := am_ (Kd.R_below (R_ HO169.out) hb); have n1_ := am_ (blk_below (g := gb155) (o := .cells #[.string (⟨#[]⟩ : ByteArray), .string (⟨#[]⟩ : ByteArray), .string (⟨#[]⟩ : ByteArray), .slice none 0 0, .slice none 0 0] 26 (0, 0)) (blk_ BK155.out) hb); have n2_ := am_ (below_step (bel_ HB.out) hb); clear HO169 BK155 HB; have HO169 := n0_; have BK155 := n1_; have HB := n2_; clear n0_ n1_ n2_; (try clear hb); (try clear hb2); (try clear hk); (try clear hi); have hcz20_0 : w19.cell? ⟨gb155, 0, none⟩ = some (.string (⟨#[]⟩ : ByteArray)) := (blk_cell BK155.out 0).trans rfl; have hcz20_1 : w19.cell? ⟨gb155, 1, none⟩ = some (.string (⟨#[]⟩ : ByteArray)) := (blk_cell BK155.out 1).trans rfl; have hcz20_2 : w19.cell? ⟨gb155, 2, none⟩ = some (.string (⟨#[]⟩ : ByteArray)) := (blk_cell BK155.out 2).trans rfl; have hcz20_3 : w19.cell? ⟨gb155, 3, none⟩ = some (.slice none 0 0) := (blk_cell BK155.out 3).trans rfl; have hcz20_4 : w19.cell? ⟨gb155, 4, none⟩ = some (.slice none 0 0) := (blk_cell BK155.out 4).trans rfl; have hfz20_0 := blk_frozen BK155.out 0; have hfz20_1 := blk_frozen BK155.out 1; have hfz20_2 := blk_frozen BK155.out 2; have hfz20_3 := blk_frozen BK155.out 3; have hfz20_4 := blk_frozen BK155.out 4))
        refine bodyPost_ret (results_ct rfl _ _ gb155 26 #[.string (⟨#[]⟩ : ByteArray), .string (⟨#[]⟩ : ByteArray), .string (⟨#[]⟩ : ByteArray), .slice none 0 0, .slice none 0 0] (0, 0) _ rfl (by (with_reducible repeat (first | refine blk_drewN ?_ _ | refine blk_drew ?_ | refine blk_alloc ?_ _)); refine blk_put (cs := #[.string (⟨#[]⟩ : ByteArray), .string (⟨#[]⟩ : ByteArray), .string (⟨#[]⟩ : ByteArray), .slice none 0 0, .slice none 0 0]) ?_ 4 _ rfl; (with_reducible repeat (first | refine blk_drewN ?_ _ | refine blk_drew ?_ | refine blk_alloc ?_ _)); refine blk_put (cs := #[.string (⟨#[]⟩ : ByteArray), .string (⟨#[]⟩ : ByteArray), .string (⟨#[]⟩ : ByteArray), .slice none 0 0, .slice none 0 0]) ?_ 3 _ rfl; (with_reducible repeat (first | refine blk_drewN ?_ _ | refine blk_drew ?_ | refine blk_alloc ?_ _)); refine blk_put (cs := #[.string (⟨#[]⟩ : ByteArray), .string (⟨#[]⟩ : ByteArray), .string (⟨#[]⟩ : ByteArray), .slice none 0 0, .slice none 0 0]) ?_ 2 _ rfl; (with_reducible repeat (first | refine blk_drewN ?_ _ | refine blk_drew ?_ | refine blk_alloc ?_ _)); refine blk_put (cs := #[.string (⟨#[]⟩ : ByteArray), .string (⟨#[]⟩ : ByteArray), .string (⟨#[]⟩ : ByteArray), .slice none 0 0, .slice none 0 0]) ?_ 1 _ rfl; (with_reducible repeat (first | refine blk_drewN ?_ _ | refine blk_drew ?_ | refine blk_alloc ?_ _)); refine blk_put (cs := #[.string (⟨#[]⟩ : ByteArray), .string (⟨#[]⟩ : ByteArray), .string (⟨#[]⟩ : ByteArray), .slice none 0 0, .slice none 0 0]) ?_ 0 _ rfl; (with_reducible repeat (first | refine blk_drewN ?_ _ | refine blk_drew ?_ | refine blk_alloc ?_ _)); exact BK155.out) Tryd.underlying26 rfl kr_) rfl ?_
        exact ⟨_, _, by first | rfl | (simp [errW_none, errW_some] <;> rfl) | (simp [*, errW_none, errW_some] <;> rfl), by first | exact Kd.R_nil _ _ _ _ _ | exact Kd.N_nil _ _ _ _ _ | exact Kd.V_nil _ _ _ _ _ | exact Kd.Q_nil _ _ _ _ _ | exact Kd.S_nil _ _ _ _ _, by first | exact Kd.R_nil _ _ _ _ _ | exact Kd.N_nil _ _ _ _ _ | exact Kd.V_nil _ _ _ _ _ | exact Kd.Q_nil _ _ _ _ _ | exact Kd.S_nil _ _ _ _ _, bel_ HB.out⟩
       ·rw [if_neg c17] at H
        have c17b0 : (t164.toList == ([] : List UInt8)) = false := beq_eq_false_iff_ne.mpr c17
        have c17b1 : (t164.toList != ([] : List UInt8)) = true := bne_iff_ne.mpr c17
        simp only [Option.some.injEq, Prod.mk.injEq] at H
        obtain ⟨rfl, rfl, rfl, rfl, rfl, rfl⟩ := H
        go_wp2_with (first | ((with_reducible refine gate_callee (f := 53) rfl ?_); refine goesL_ (some 37) rfl rfl Tryd.func53 kr_ rfl #[.string t159, .string (⟨#[63]⟩ : ByteArray)] rfl rl_ ?_; (with_reducible refine (strings_Cut.calls kj3 t159 (⟨#[63]⟩ : ByteArray) t163 t164 true _ A11.out).mono ?_); rintro e w' ⟨rfl, ⟨nd, rfl⟩⟩; refine ⟨_, rfl, ?_⟩; (try (rw [drewN_self wc]; generalize hq_ : World.drewN wc _ = wc; have n0_ : Aside0 (wc.heap[gb155]? = some (.cells #[.string (⟨#[]⟩ : ByteArray), .string (⟨#[]⟩ : ByteArray), .string (⟨#[]⟩ : ByteArray), .slice none 0 0, .slice none 0 0] 26 (0, 0))) := ⟨by rw [← hq_]; exact (blk_ BK155.out)⟩; have n1_ : Aside0 (Below w.heap.size w wc) := ⟨by rw [← hq_]; exact (bel_ HB.out)⟩; clear BK155 HB hq_; have BK155 := n0_; have HB := n1_; clear n0_ n1_))) | ((with_reducible refine gate_callee (f := 54) rfl ?_); refine goesL_ (some 43) rfl rfl Tryd.func54 kr_ rfl #[.string t164] rfl rl_ ?_; (with_reducible refine (query_Parse.calls kj3 t164 t166 t167 _ A12.out).mono ?_); rintro e w21 ⟨v168, rfl, ho0, hb⟩; refine ⟨_, rfl, ?_⟩; have n0_ := am_ (Kd.R_lower ho0 (below_size (bel_ HB.out))); have n1_ := am_ (blk_below (g := gb155) (o := .cells #[.string (⟨#[]⟩ : ByteArray), .string (⟨#[]⟩ : ByteArray), .string (⟨#[]⟩ : ByteArray), .slice none 0 0, .slice none 0 0] 26 (0, 0)) (blk_ BK155.out) hb); have n2_ := am_ (below_step (bel_ HB.out) hb); clear BK155 HB; have HO169 := n0_; have BK155 := n1_; have HB := n2_; clear n0_ n1_ n2_; (try clear hb); (try clear hb2); (try clear hk); (try clear hi); (try clear ho0)) | (go_at_call 25; (with_reducible refine (path_Is.calls t163 true _ A14.out).mono ?_); rintro e w22 ⟨rfl, hb⟩; have n0_ := am_ (Kd.R_below (R_ HO169.out) hb); have n1_ := am_ (blk_below (g := gb155) (o := .cells #[.string (⟨#[]⟩ : ByteArray), .string (⟨#[]⟩ : ByteArray), .string (⟨#[]⟩ : ByteArray), .slice none 0 0, .slice none 0 0] 26 (0, 0)) (blk_ BK155.out) hb); have n2_ := am_ (below_step (bel_ HB.out) hb); clear HO169 BK155 HB; have HO169 := n0_; have BK155 := n1_; have HB := n2_; clear n0_ n1_ n2_; (try clear hb); (try clear hb2); (try clear hk); (try clear hi); obtain ⟨Ao23, co23, eo23⟩ := Kd.R_slice HO169.out; subst eo23; have hcz24_0 : w22.cell? ⟨gb155, 0, none⟩ = some (.string (⟨#[]⟩ : ByteArray)) := (blk_cell BK155.out 0).trans rfl; have hcz24_1 : w22.cell? ⟨gb155, 1, none⟩ = some (.string (⟨#[]⟩ : ByteArray)) := (blk_cell BK155.out 1).trans rfl; have hcz24_2 : w22.cell? ⟨gb155, 2, none⟩ = some (.string (⟨#[]⟩ : ByteArray)) := (blk_cell BK155.out 2).trans rfl; have hcz24_3 : w22.cell? ⟨gb155, 3, none⟩ = some (.slice none 0 0) := (blk_cell BK155.out 3).trans rfl; have hcz24_4 : w22.cell? ⟨gb155, 4, none⟩ = some (.slice none 0 0) := (blk_cell BK155.out 4).trans rfl; have hfz24_0 := blk_frozen BK155.out 0; have hfz24_1 := blk_frozen BK155.out 1; have hfz24_2 := blk_frozen BK155.out 2; have hfz24_3 := blk_frozen BK155.out 3; have hfz24_4 := blk_frozen BK155.out 4))
        refine bodyPost_ret (results_ct rfl _ _ gb155 26 #[.string t156, .string (⟨#[]⟩ : ByteArray), .string t163, .slice Ao23 t166.length co23, .slice none 0 0] (0, 0) _ rfl (by (with_reducible repeat (first | refine blk_drewN ?_ _ | refine blk_drew ?_ | refine blk_alloc ?_ _)); refine blk_put (cs := #[.string t156, .string (⟨#[]⟩ : ByteArray), .string t163, .slice Ao23 t166.length co23, .slice none 0 0]) ?_ 4 _ rfl; (with_reducible repeat (first | refine blk_drewN ?_ _ | refine blk_drew ?_ | refine blk_alloc ?_ _)); refine blk_put (cs := #[.string t156, .string (⟨#[]⟩ : ByteArray), .string t163, .slice none 0 0, .slice none 0 0]) ?_ 3 _ rfl; (with_reducible repeat (first | refine blk_drewN ?_ _ | refine blk_drew ?_ | refine blk_alloc ?_ _)); refine blk_put (cs := #[.string t156, .string (⟨#[]⟩ : ByteArray), .string (⟨#[]⟩ : ByteArray), .slice none 0 0, .slice none 0 0]) ?_ 2 _ rfl; (with_reducible repeat (first | refine blk_drewN ?_ _ | refine blk_drew ?_ | refine blk_alloc ?_ _)); refine blk_put (cs := #[.string t156, .string (⟨#[]⟩ : ByteArray), .string (⟨#[]⟩ : ByteArray), .slice none 0 0, .slice none 0 0]) ?_ 1 _ rfl; (with_reducible repeat (first | refine blk_drewN ?_ _ | refine blk_drew ?_ | refine blk_alloc ?_ _)); refine blk_put (cs := #[.string (⟨#[]⟩ : ByteArray), .string (⟨#[]⟩ : ByteArray), .string (⟨#[]⟩ : ByteArray), .slice none 0 0, .slice none 0 0]) ?_ 0 _ rfl; (with_reducible repeat (first | refine blk_drewN ?_ _ | refine blk_drew ?_ | refine blk_alloc ?_ _)); exact BK155.out) Tryd.underlying26 rfl kr_) rfl ?_
        exact ⟨_, _, by first | rfl | (simp [errW_none, errW_some] <;> rfl) | (simp [*, errW_none, errW_some] <;> rfl), by (with_reducible repeat (first | apply Kd.R_alloc | apply Kd.R_drewN | apply Kd.R_drew)); exact Kd.R_mono (Kd.R_far (p := ⟨gb155, 4, none⟩) (Kd.R_far (p := ⟨gb155, 3, none⟩) (Kd.R_far (p := ⟨gb155, 2, none⟩) (Kd.R_far (p := ⟨gb155, 1, none⟩) (Kd.R_far (p := ⟨gb155, 0, none⟩) (Kd.R_types HO169.out BK155.out (by decide)) (fun _ hk => hk.2) (.string t156)) (fun _ hk => hk.2) (.string (⟨#[]⟩ : ByteArray))) (fun _ hk => hk.2) (.string t163)) (fun _ hk => hk.2) (.slice Ao23 t166.length co23)) (fun _ hk => hk.2) (.slice none 0 0)) (fun _ hk => (by simp [Value.ownBlock])), by first | exact Kd.R_nil _ _ _ _ _ | exact Kd.N_nil _ _ _ _ _ | exact Kd.V_nil _ _ _ _ _ | exact Kd.Q_nil _ _ _ _ _ | exact Kd.S_nil _ _ _ _ _, bel_ HB.out⟩
      ·replace c16 := Bool.eq_false_iff.mpr c16
       subst c16
       have H1 : (some (t156, (⟨#[]⟩ : ByteArray), t163, t166, ([] : List (S35)), true)) = some (r1, r2, r3, r4, r5, r6) := by rw [if_neg (show ¬ (false = true) by decide)] at H; exact H
       clear H
       have H := H1
       clear H1
       simp only [Option.some.injEq, Prod.mk.injEq] at H
       obtain ⟨rfl, rfl, rfl, rfl, rfl, rfl⟩ := H
       go_wp2_with (first | ((with_reducible refine gate_callee (f := 53) rfl ?_); refine goesL_ (some 37) rfl rfl Tryd.func53 kr_ rfl #[.string t159, .string (⟨#[63]⟩ : ByteArray)] rfl rl_ ?_; (with_reducible refine (strings_Cut.calls kj3 t159 (⟨#[63]⟩ : ByteArray) t163 t164 false _ A11.out).mono ?_); rintro e w' ⟨rfl, ⟨nd, rfl⟩⟩; refine ⟨_, rfl, ?_⟩; (try (rw [drewN_self wc]; generalize hq_ : World.drewN wc _ = wc; have n0_ : Aside0 (wc.heap[gb155]? = some (.cells #[.string (⟨#[]⟩ : ByteArray), .string (⟨#[]⟩ : ByteArray), .string (⟨#[]⟩ : ByteArray), .slice none 0 0, .slice none 0 0] 26 (0, 0))) := ⟨by rw [← hq_]; exact (blk_ BK155.out)⟩; have n1_ : Aside0 (Below w.heap.size w wc) := ⟨by rw [← hq_]; exact (bel_ HB.out)⟩; clear BK155 HB hq_; have BK155 := n0_; have HB := n1_; clear n0_ n1_))) | ((with_reducible refine gate_callee (f := 54) rfl ?_); refine goesL_ (some 43) rfl rfl Tryd.func54 kr_ rfl #[.string t164] rfl rl_ ?_; (with_reducible refine (query_Parse.calls kj3 t164 t166 t167 _ A12.out).mono ?_); rintro e w25 ⟨v168, rfl, ho0, hb⟩; refine ⟨_, rfl, ?_⟩; have n0_ := am_ (Kd.R_lower ho0 (below_size (bel_ HB.out))); have n1_ := am_ (blk_below (g := gb155) (o := .cells #[.string (⟨#[]⟩ : ByteArray), .string (⟨#[]⟩ : ByteArray), .string (⟨#[]⟩ : ByteArray), .slice none 0 0, .slice none 0 0] 26 (0, 0)) (blk_ BK155.out) hb); have n2_ := am_ (below_step (bel_ HB.out) hb); clear BK155 HB; have HO169 := n0_; have BK155 := n1_; have HB := n2_; clear n0_ n1_ n2_; (try clear hb); (try clear hb2); (try clear hk); (try clear hi); (try clear ho0)) | (go_at_call 25; (with_reducible refine (path_Is.calls t163 true _ A14.out).mono ?_); rintro e w26 ⟨rfl, hb⟩; have n0_ := am_ (Kd.R_below (R_ HO169.out) hb); have n1_ := am_ (blk_below (g := gb155) (o := .cells #[.string (⟨#[]⟩ : ByteArray), .string (⟨#[]⟩ : ByteArray), .string (⟨#[]⟩ : ByteArray), .slice none 0 0, .slice none 0 0] 26 (0, 0)) (blk_ BK155.out) hb); have n2_ := am_ (below_step (bel_ HB.out) hb); clear HO169 BK155 HB; have HO169 := n0_; have BK155 := n1_; have HB := n2_; clear n0_ n1_ n2_; (try clear hb); (try clear hb2); (try clear hk); (try clear hi); obtain ⟨Ao27, co27, eo27⟩ := Kd.R_slice HO169.out; subst eo27; have hcz28_0 : w26.cell? ⟨gb155, 0, none⟩ = some (.string (⟨#[]⟩ : ByteArray)) := (blk_cell BK155.out 0).trans rfl; have hcz28_1 : w26.cell? ⟨gb155, 1, none⟩ = some (.string (⟨#[]⟩ : ByteArray)) := (blk_cell BK155.out 1).trans rfl; have hcz28_2 : w26.cell? ⟨gb155, 2, none⟩ = some (.string (⟨#[]⟩ : ByteArray)) := (blk_cell BK155.out 2).trans rfl; have hcz28_3 : w26.cell? ⟨gb155, 3, none⟩ = some (.slice none 0 0) := (blk_cell BK155.out 3).trans rfl; have hcz28_4 : w26.cell? ⟨gb155, 4, none⟩ = some (.slice none 0 0) := (blk_cell BK155.out 4).trans rfl; have hfz28_0 := blk_frozen BK155.out 0; have hfz28_1 := blk_frozen BK155.out 1; have hfz28_2 := blk_frozen BK155.out 2; have hfz28_3 := blk_frozen BK155.out 3; have hfz28_4 := blk_frozen BK155.out 4))
       refine bodyPost_ret (results_ct rfl _ _ gb155 26 #[.string t156, .string (⟨#[]⟩ : ByteArray), .string t163, .slice Ao27 t166.length co27, .slice none 0 0] (0, 0) _ rfl (by (with_reducible repeat (first | refine blk_drewN ?_ _ | refine blk_drew ?_ | refine blk_alloc ?_ _)); refine blk_put (cs := #[.string t156, .string (⟨#[]⟩ : ByteArray), .string t163, .slice Ao27 t166.length co27, .slice none 0 0]) ?_ 4 _ rfl; (with_reducible repeat (first | refine blk_drewN ?_ _ | refine blk_drew ?_ | refine blk_alloc ?_ _)); refine blk_put (cs := #[.string t156, .string (⟨#[]⟩ : ByteArray), .string t163, .slice none 0 0, .slice none 0 0]) ?_ 3 _ rfl; (with_reducible repeat (first | refine blk_drewN ?_ _ | refine blk_drew ?_ | refine blk_alloc ?_ _)); refine blk_put (cs := #[.string t156, .string (⟨#[]⟩ : ByteArray), .string (⟨#[]⟩ : ByteArray), .slice none 0 0, .slice none 0 0]) ?_ 2 _ rfl; (with_reducible repeat (first | refine blk_drewN ?_ _ | refine blk_drew ?_ | refine blk_alloc ?_ _)); refine blk_put (cs := #[.string t156, .string (⟨#[]⟩ : ByteArray), .string (⟨#[]⟩ : ByteArray), .slice none 0 0, .slice none 0 0]) ?_ 1 _ rfl; (with_reducible repeat (first | refine blk_drewN ?_ _ | refine blk_drew ?_ | refine blk_alloc ?_ _)); refine blk_put (cs := #[.string (⟨#[]⟩ : ByteArray), .string (⟨#[]⟩ : ByteArray), .string (⟨#[]⟩ : ByteArray), .slice none 0 0, .slice none 0 0]) ?_ 0 _ rfl; (with_reducible repeat (first | refine blk_drewN ?_ _ | refine blk_drew ?_ | refine blk_alloc ?_ _)); exact BK155.out) Tryd.underlying26 rfl kr_) rfl ?_
       exact ⟨_, _, by first | rfl | (simp [errW_none, errW_some] <;> rfl) | (simp [*, errW_none, errW_some] <;> rfl), by (with_reducible repeat (first | apply Kd.R_alloc | apply Kd.R_drewN | apply Kd.R_drew)); exact Kd.R_mono (Kd.R_far (p := ⟨gb155, 4, none⟩) (Kd.R_far (p := ⟨gb155, 3, none⟩) (Kd.R_far (p := ⟨gb155, 2, none⟩) (Kd.R_far (p := ⟨gb155, 1, none⟩) (Kd.R_far (p := ⟨gb155, 0, none⟩) (Kd.R_types HO169.out BK155.out (by decide)) (fun _ hk => hk.2) (.string t156)) (fun _ hk => hk.2) (.string (⟨#[]⟩ : ByteArray))) (fun _ hk => hk.2) (.string t163)) (fun _ hk => hk.2) (.slice Ao27 t166.length co27)) (fun _ hk => hk.2) (.slice none 0 0)) (fun _ hk => (by simp [Value.ownBlock])), by first | exact Kd.R_nil _ _ _ _ _ | exact Kd.N_nil _ _ _ _ _ | exact Kd.V_nil _ _ _ _ _ | exact Kd.Q_nil _ _ _ _ _ | exact Kd.S_nil _ _ _ _ _, bel_ HB.out⟩
     ·replace c15 := Bool.eq_false_iff.mpr c15
      subst c15
      have H1 : (some ((⟨#[]⟩ : ByteArray), (⟨#[]⟩ : ByteArray), (⟨#[]⟩ : ByteArray), ([] : List (S35)), ([] : List (S35)), false)) = some (r1, r2, r3, r4, r5, r6) := by rw [if_neg (show ¬ (false = true) by decide)] at H; exact H
      clear H
      have H := H1
      clear H1
      simp only [Option.some.injEq, Prod.mk.injEq] at H
      obtain ⟨rfl, rfl, rfl, rfl, rfl, rfl⟩ := H
      go_wp2_with (first | ((with_reducible refine gate_callee (f := 53) rfl ?_); refine goesL_ (some 37) rfl rfl Tryd.func53 kr_ rfl #[.string t159, .string (⟨#[63]⟩ : ByteArray)] rfl rl_ ?_; (with_reducible refine (strings_Cut.calls kj3 t159 (⟨#[63]⟩ : ByteArray) t163 t164 t165 _ A11.out).mono ?_); rintro e w' ⟨rfl, ⟨nd, rfl⟩⟩; refine ⟨_, rfl, ?_⟩; (try (rw [drewN_self wc]; generalize hq_ : World.drewN wc _ = wc; have n0_ : Aside0 (wc.heap[gb155]? = some (.cells #[.string (⟨#[]⟩ : ByteArray), .string (⟨#[]⟩ : ByteArray), .string (⟨#[]⟩ : ByteArray), .slice none 0 0, .slice none 0 0] 26 (0, 0))) := ⟨by rw [← hq_]; exact (blk_ BK155.out)⟩; have n1_ : Aside0 (Below w.heap.size w wc) := ⟨by rw [← hq_]; exact (bel_ HB.out)⟩; clear BK155 HB hq_; have BK155 := n0_; have HB := n1_; clear n0_ n1_))) | ((with_reducible refine gate_callee (f := 54) rfl ?_); refine goesL_ (some 43) rfl rfl Tryd.func54 kr_ rfl #[.string t164] rfl rl_ ?_; (with_reducible refine (query_Parse.calls kj3 t164 t166 t167 _ A12.out).mono ?_); rintro e w29 ⟨v168, rfl, ho0, hb⟩; refine ⟨_, rfl, ?_⟩; have n0_ := am_ (Kd.R_lower ho0 (below_size (bel_ HB.out))); have n1_ := am_ (blk_below (g := gb155) (o := .cells #[.string (⟨#[]⟩ : ByteArray), .string (⟨#[]⟩ : ByteArray), .string (⟨#[]⟩ : ByteArray), .slice none 0 0, .slice none 0 0] 26 (0, 0)) (blk_ BK155.out) hb); have n2_ := am_ (below_step (bel_ HB.out) hb); clear BK155 HB; have HO169 := n0_; have BK155 := n1_; have HB := n2_; clear n0_ n1_ n2_; (try clear hb); (try clear hb2); (try clear hk); (try clear hi); (try clear ho0)) | (go_at_call 25; (with_reducible refine (path_Is.calls t163 false _ A14.out).mono ?_); rintro e w30 ⟨rfl, hb⟩; have n0_ := am_ (Kd.R_below (R_ HO169.out) hb); have n1_ := am_ (blk_below (g := gb155) (o := .cells #[.string (⟨#[]⟩ : ByteArray), .string (⟨#[]⟩ : ByteArray), .string (⟨#[]⟩ : ByteArray), .slice none 0 0, .slice none 0 0] 26 (0, 0)) (blk_ BK155.out) hb); have n2_ := am_ (below_step (bel_ HB.out) hb); clear HO169 BK155 HB; have HO169 := n0_; have BK155 := n1_; have HB := n2_; clear n0_ n1_ n2_; (try clear hb); (try clear hb2); (try clear hk); (try clear hi); have hcz31_0 : w30.cell? ⟨gb155, 0, none⟩ = some (.string (⟨#[]⟩ : ByteArray)) := (blk_cell BK155.out 0).trans rfl; have hcz31_1 : w30.cell? ⟨gb155, 1, none⟩ = some (.string (⟨#[]⟩ : ByteArray)) := (blk_cell BK155.out 1).trans rfl; have hcz31_2 : w30.cell? ⟨gb155, 2, none⟩ = some (.string (⟨#[]⟩ : ByteArray)) := (blk_cell BK155.out 2).trans rfl; have hcz31_3 : w30.cell? ⟨gb155, 3, none⟩ = some (.slice none 0 0) := (blk_cell BK155.out 3).trans rfl; have hcz31_4 : w30.cell? ⟨gb155, 4, none⟩ = some (.slice none 0 0) := (blk_cell BK155.out 4).trans rfl; have hfz31_0 := blk_frozen BK155.out 0; have hfz31_1 := blk_frozen BK155.out 1; have hfz31_2 := blk_frozen BK155.out 2; have hfz31_3 := blk_frozen BK155.out 3; have hfz31_4 := blk_frozen BK155.out 4))
      refine bodyPost_ret (results_ct rfl _ _ gb155 26 #[.string (⟨#[]⟩ : ByteArray), .string (⟨#[]⟩ : ByteArray), .string (⟨#[]⟩ : ByteArray), .slice none 0 0, .slice none 0 0] (0, 0) _ rfl (by (with_reducible repeat (first | refine blk_drewN ?_ _ | refine blk_drew ?_ | refine blk_alloc ?_ _)); refine blk_put (cs := #[.string (⟨#[]⟩ : ByteArray), .string (⟨#[]⟩ : ByteArray), .string (⟨#[]⟩ : ByteArray), .slice none 0 0, .slice none 0 0]) ?_ 4 _ rfl; (with_reducible repeat (first | refine blk_drewN ?_ _ | refine blk_drew ?_ | refine blk_alloc ?_ _)); refine blk_put (cs := #[.string (⟨#[]⟩ : ByteArray), .string (⟨#[]⟩ : ByteArray), .string (⟨#[]⟩ : ByteArray), .slice none 0 0, .slice none 0 0]) ?_ 3 _ rfl; (with_reducible repeat (first | refine blk_drewN ?_ _ | refine blk_drew ?_ | refine blk_alloc ?_ _)); refine blk_put (cs := #[.string (⟨#[]⟩ : ByteArray), .string (⟨#[]⟩ : ByteArray), .string (⟨#[]⟩ : ByteArray), .slice none 0 0, .slice none 0 0]) ?_ 2 _ rfl; (with_reducible repeat (first | refine blk_drewN ?_ _ | refine blk_drew ?_ | refine blk_alloc ?_ _)); refine blk_put (cs := #[.string (⟨#[]⟩ : ByteArray), .string (⟨#[]⟩ : ByteArray), .string (⟨#[]⟩ : ByteArray), .slice none 0 0, .slice none 0 0]) ?_ 1 _ rfl; (with_reducible repeat (first | refine blk_drewN ?_ _ | refine blk_drew ?_ | refine blk_alloc ?_ _)); refine blk_put (cs := #[.string (⟨#[]⟩ : ByteArray), .string (⟨#[]⟩ : ByteArray), .string (⟨#[]⟩ : ByteArray), .slice none 0 0, .slice none 0 0]) ?_ 0 _ rfl; (with_reducible repeat (first | refine blk_drewN ?_ _ | refine blk_drew ?_ | refine blk_alloc ?_ _)); exact BK155.out) Tryd.underlying26 rfl kr_) rfl ?_
      exact ⟨_, _, by first | rfl | (simp [errW_none, errW_some] <;> rfl) | (simp [*, errW_none, errW_some] <;> rfl), by first | exact Kd.R_nil _ _ _ _ _ | exact Kd.N_nil _ _ _ _ _ | exact Kd.V_nil _ _ _ _ _ | exact Kd.Q_nil _ _ _ _ _ | exact Kd.S_nil _ _ _ _ _, by first | exact Kd.R_nil _ _ _ _ _ | exact Kd.N_nil _ _ _ _ _ | exact Kd.V_nil _ _ _ _ _ | exact Kd.Q_nil _ _ _ _ _ | exact Kd.S_nil _ _ _ _ _, bel_ HB.out⟩
    ·rw [if_neg c13] at H
     have c13b0 : (t167 == 0) = false := beq_eq_false_iff_ne.mpr c13
     have c13b1 : (t167 != 0) = true := bne_iff_ne.mpr c13
     simp only [Option.some.injEq, Prod.mk.injEq] at H
     obtain ⟨rfl, rfl, rfl, rfl, rfl, rfl⟩ := H
     go_wp2_with (first | ((with_reducible refine gate_callee (f := 53) rfl ?_); refine goesL_ (some 37) rfl rfl Tryd.func53 kr_ rfl #[.string t159, .string (⟨#[63]⟩ : ByteArray)] rfl rl_ ?_; (with_reducible refine (strings_Cut.calls kj3 t159 (⟨#[63]⟩ : ByteArray) t163 t164 t165 _ A11.out).mono ?_); rintro e w' ⟨rfl, ⟨nd, rfl⟩⟩; refine ⟨_, rfl, ?_⟩; (try (rw [drewN_self wc]; generalize hq_ : World.drewN wc _ = wc; have n0_ : Aside0 (wc.heap[gb155]? = some (.cells #[.string (⟨#[]⟩ : ByteArray), .string (⟨#[]⟩ : ByteArray), .string (⟨#[]⟩ : ByteArray), .slice none 0 0, .slice none 0 0] 26 (0, 0))) := ⟨by rw [← hq_]; exact (blk_ BK155.out)⟩; have n1_ : Aside0 (Below w.heap.size w wc) := ⟨by rw [← hq_]; exact (bel_ HB.out)⟩; clear BK155 HB hq_; have BK155 := n0_; have HB := n1_; clear n0_ n1_))) | ((with_reducible refine gate_callee (f := 54) rfl ?_); refine goesL_ (some 43) rfl rfl Tryd.func54 kr_ rfl #[.string t164] rfl rl_ ?_; (with_reducible refine (query_Parse.calls kj3 t164 t166 t167 _ A12.out).mono ?_); rintro e w32 ⟨v168, rfl, ho0, hb⟩; refine ⟨_, rfl, ?_⟩; have n0_ := am_ (Kd.R_lower ho0 (below_size (bel_ HB.out))); have n1_ := am_ (blk_below (g := gb155) (o := .cells #[.string (⟨#[]⟩ : ByteArray), .string (⟨#[]⟩ : ByteArray), .string (⟨#[]⟩ : ByteArray), .slice none 0 0, .slice none 0 0] 26 (0, 0)) (blk_ BK155.out) hb); have n2_ := am_ (below_step (bel_ HB.out) hb); clear BK155 HB; have HO169 := n0_; have BK155 := n1_; have HB := n2_; clear n0_ n1_ n2_; (try clear hb); (try clear hb2); (try clear hk); (try clear hi); (try clear ho0); have hcz33_0 : w32.cell? ⟨gb155, 0, none⟩ = some (.string (⟨#[]⟩ : ByteArray)) := (blk_cell BK155.out 0).trans rfl; have hcz33_1 : w32.cell? ⟨gb155, 1, none⟩ = some (.string (⟨#[]⟩ : ByteArray)) := (blk_cell BK155.out 1).trans rfl; have hcz33_2 : w32.cell? ⟨gb155, 2, none⟩ = some (.string (⟨#[]⟩ : ByteArray)) := (blk_cell BK155.out 2).trans rfl; have hcz33_3 : w32.cell? ⟨gb155, 3, none⟩ = some (.slice none 0 0) := (blk_cell BK155.out 3).trans rfl; have hcz33_4 : w32.cell? ⟨gb155, 4, none⟩ = some (.slice none 0 0) := (blk_cell BK155.out 4).trans rfl; have hfz33_0 := blk_frozen BK155.out 0; have hfz33_1 := blk_frozen BK155.out 1; have hfz33_2 := blk_frozen BK155.out 2; have hfz33_3 := blk_frozen BK155.out 3; have hfz33_4 := blk_frozen BK155.out 4))
     refine bodyPost_ret (results_ct rfl _ _ gb155 26 #[.string (⟨#[]⟩ : ByteArray), .string (⟨#[]⟩ : ByteArray), .string (⟨#[]⟩ : ByteArray), .slice none 0 0, .slice none 0 0] (0, 0) _ rfl (by (with_reducible repeat (first | refine blk_drewN ?_ _ | refine blk_drew ?_ | refine blk_alloc ?_ _)); refine blk_put (cs := #[.string (⟨#[]⟩ : ByteArray), .string (⟨#[]⟩ : ByteArray), .string (⟨#[]⟩ : ByteArray), .slice none 0 0, .slice none 0 0]) ?_ 4 _ rfl; (with_reducible repeat (first | refine blk_drewN ?_ _ | refine blk_drew ?_ | refine blk_alloc ?_ _)); refine blk_put (cs := #[.string (⟨#[]⟩ : ByteArray), .string (⟨#[]⟩ : ByteArray), .string (⟨#[]⟩ : ByteArray), .slice none 0 0, .slice none 0 0]) ?_ 3 _ rfl; (with_reducible repeat (first | refine blk_drewN ?_ _ | refine blk_drew ?_ | refine blk_alloc ?_ _)); refine blk_put (cs := #[.string (⟨#[]⟩ : ByteArray), .string (⟨#[]⟩ : ByteArray), .string (⟨#[]⟩ : ByteArray), .slice none 0 0, .slice none 0 0]) ?_ 2 _ rfl; (with_reducible repeat (first | refine blk_drewN ?_ _ | refine blk_drew ?_ | refine blk_alloc ?_ _)); refine blk_put (cs := #[.string (⟨#[]⟩ : ByteArray), .string (⟨#[]⟩ : ByteArray), .string (⟨#[]⟩ : ByteArray), .slice none 0 0, .slice none 0 0]) ?_ 1 _ rfl; (with_reducible repeat (first | refine blk_drewN ?_ _ | refine blk_drew ?_ | refine blk_alloc ?_ _)); refine blk_put (cs := #[.string (⟨#[]⟩ : ByteArray), .string (⟨#[]⟩ : ByteArray), .string (⟨#[]⟩ : ByteArray), .slice none 0 0, .slice none 0 0]) ?_ 0 _ rfl; (with_reducible repeat (first | refine blk_drewN ?_ _ | refine blk_drew ?_ | refine blk_alloc ?_ _)); exact BK155.out) Tryd.underlying26 rfl kr_) rfl ?_
     exact ⟨_, _, by first | rfl | (simp [errW_none, errW_some] <;> rfl) | (simp [*, errW_none, errW_some] <;> rfl), by first | exact Kd.R_nil _ _ _ _ _ | exact Kd.N_nil _ _ _ _ _ | exact Kd.V_nil _ _ _ _ _ | exact Kd.Q_nil _ _ _ _ _ | exact Kd.S_nil _ _ _ _ _, by first | exact Kd.R_nil _ _ _ _ _ | exact Kd.N_nil _ _ _ _ _ | exact Kd.V_nil _ _ _ _ _ | exact Kd.Q_nil _ _ _ _ _ | exact Kd.S_nil _ _ _ _ _, bel_ HB.out⟩

/-! ### pairs_Token: function 27 -/
def pairs_Token.l0 : Nat → ByteArray → Int → Int → Option (Bool)
 | 0, _, _, _ => none
 | k + 1, x0, x6, x7 => if x7 < x6 then (if 0 ≤ x7 then (if x7 < (x0.size : Int) then (if (Go.bits .or .u8 (bt x0 x7) 32) ≥ 97 then (if (Go.bits .or .u8 (bt x0 x7) 32) ≤ 122 then (pairs_Token.l0 k x0 x6 (wrap64 (x7 + 1))) else (if (bt x0 x7) ≥ 48 then (if (bt x0 x7) ≤ 57 then (pairs_Token.l0 k x0 x6 (wrap64 (x7 + 1))) else ((strings_IndexByte.f (⟨#[33, 35, 36, 37, 38, 39, 42, 43, 45, 46, 94, 95, 96, 124, 126]⟩ : ByteArray) (bt x0 x7)).bind fun t171 => (if t171 ≥ 0 then (pairs_Token.l0 k x0 x6 (wrap64 (x7 + 1))) else (some false)))) else ((strings_IndexByte.f (⟨#[33, 35, 36, 37, 38, 39, 42, 43, 45, 46, 94, 95, 96, 124, 126]⟩ : ByteArray) (bt x0 x7)).bind fun t172 => (if t172 ≥ 0 then (pairs_Token.l0 k x0 x6 (wrap64 (x7 + 1))) else (some false))))) else (if (bt x0 x7) ≥ 48 then (if (bt x0 x7) ≤ 57 then (pairs_Token.l0 k x0 x6 (wrap64 (x7 + 1))) else ((strings_IndexByte.f (⟨#[33, 35, 36, 37, 38, 39, 42, 43, 45, 46, 94, 95, 96, 124, 126]⟩ : ByteArray) (bt x0 x7)).bind fun t173 => (if t173 ≥ 0 then (pairs_Token.l0 k x0 x6 (wrap64 (x7 + 1))) else (some false)))) else ((strings_IndexByte.f (⟨#[33, 35, 36, 37, 38, 39, 42, 43, 45, 46, 94, 95, 96, 124, 126]⟩ : ByteArray) (bt x0 x7)).bind fun t174 => (if t174 ≥ 0 then (pairs_Token.l0 k x0 x6 (wrap64 (x7 + 1))) else (some false))))) else (none)) else (none)) else (if x0.toList = ([] : List UInt8) then (some false) else (some (decide ((x0.size : Int) ≤ 40))))
def pairs_Token.f (k : Nat) (a0 : ByteArray) : Option (Bool) := pairs_Token.l0 k a0 (a0.size : Int) 0
theorem pairs_Token.mono_l : ∀ k, (∀ y0 y1 y2, LeO (pairs_Token.l0 k y0 y1 y2) (pairs_Token.l0 (k + 1) y0 y1 y2))
 | 0 => fun _ _ _ r h => by simp [pairs_Token.l0] at h
 | k + 1 => by
  have ih0 := pairs_Token.mono_l k
  ·intro y0 y1 y2
   unfold pairs_Token.l0
   repeat' first
   | (with_reducible exact ih0 _ _ _)
   | (with_reducible exact LeO.refl _)
   | (with_reducible exact LeO.none _)
   | (with_reducible refine LeO.ite ?_ ?_)
   | (with_reducible refine LeO.bind ?_ (fun _ => ?_))
   | exact ih0 _ _ _
   | exact LeO.none _
   | refine LeO.ite ?_ ?_
   | refine LeO.bind ?_ (fun _ => ?_)
theorem pairs_Token.mono : ∀ a0 k, LeO (pairs_Token.f k a0) (pairs_Token.f (k + 1) a0) := by
 intro a0 k
 have ih0 := pairs_Token.mono_l k
 unfold pairs_Token.f
 repeat' first
   | (with_reducible exact ih0 _ _ _)
   | (with_reducible exact LeO.refl _)
   | (with_reducible exact LeO.none _)
   | (with_reducible refine LeO.ite ?_ ?_)
   | (with_reducible refine LeO.bind ?_ (fun _ => ?_))
   | exact ih0 _ _ _
   | exact LeO.none _
   | refine LeO.ite ?_ ?_
   | refine LeO.bind ?_ (fun _ => ?_)
set_option maxHeartbeats 8000000 in
set_option maxRecDepth 100000 in
theorem pairs_Token.calls (k : Nat) (a0 : ByteArray) (r : Bool) (w : World) (h : pairs_Token.f k a0 = some r) :
  Calls Tryd.prog 27 #[.string a0] w fun e w' => e = .returned (.bool r) ∧ Drawn0 w w' := by
 have H : (pairs_Token.l0 k a0 (a0.size : Int) 0) = some r := h
 clear h
 have H' := Aside0.mk H
 clear H
 go_enter Tryd.func27, Tryd.ntmps27
 go_wp2
 go_loopg [7] k (fun kq v7 w' => ∃ (x7_1 : Int), v7 = .int .i64 x7_1 ∧ Aside0 (pairs_Token.l0 kq a0 (a0.size : Int) x7_1 = some r) ∧ Aside0 (kq ≤ k) ∧ Drawn0 w w')
 case atStart => exact ⟨(0), sd_, H', ⟨Nat.le_refl _⟩, by repeat (first | exact Drawn0.refl _ | apply Drawn0.step)⟩
 case round =>
  clear H'
  obtain ⟨x7_1, rfl, HA, HK1, ⟨m1, rfl⟩⟩ := hrel
  cases gk with
  | zero => exact absurd HA.out (by simp [pairs_Token.l0])
  | succ k1 =>
   have H := HA.out
   clear HA
   simp only [pairs_Token.l0] at H
   by_cases c2 : x7_1 < (a0.size : Int)
   ·rw [if_pos c2] at H
    have c2b0 : decide (x7_1 < (a0.size : Int)) = true := decide_eq_true c2
    clear c2
    by_cases c3 : 0 ≤ x7_1
    ·rw [if_pos c3] at H
     have c3b0 : decide (0 ≤ x7_1) = true := decide_eq_true c3
     clear c3
     by_cases c4 : x7_1 < (a0.size : Int)
     ·rw [if_pos c4] at H
      have c4b0 : decide (x7_1 < (a0.size : Int)) = true := decide_eq_true c4
      clear c4
      by_cases c6 : (Go.bits .or .u8 (bt a0 x7_1) 32) ≥ 97
      ·rw [if_pos c6] at H
       have c6b0 : decide (97 ≤ (Go.bits .or .u8 (bt a0 x7_1) 32)) = true := decide_eq_true c6
       clear c6
       by_cases c7 : (Go.bits .or .u8 (bt a0 x7_1) 32) ≤ 122
       ·rw [if_pos c7] at H
        have c7b0 : decide ((Go.bits .or .u8 (bt a0 x7_1) 32) ≤ 122) = true := decide_eq_true c7
        clear c7
        have H' := Aside0.mk H
        clear H
        have p5 : 0 ≤ (x7_1 : Int) := of_decide_eq_true as_
        have q5 : x7_1 < (a0.size : Int) := of_decide_eq_true as_
        have hx5 := bt_at a0 x7_1
        replace p5 := eq_true p5
        replace q5 := eq_true q5
        go_wp2
        go_roundg k1
        case measure => have := HK1.out; omega
        case rel => exact ⟨(wrap64 (x7_1 + 1)), sd_, H', ⟨by have := HK1.out; omega⟩, by repeat (first | exact Drawn0.refl _ | apply Drawn0.step)⟩
       ·rw [if_neg c7] at H
        have c7b0 : decide ((Go.bits .or .u8 (bt a0 x7_1) 32) ≤ 122) = false := decide_eq_false c7
        clear c7
        by_cases c9 : (bt a0 x7_1) ≥ 48
        ·rw [if_pos c9] at H
         have c9b0 : decide (48 ≤ (bt a0 x7_1)) = true := decide_eq_true c9
         clear c9
         by_cases c11 : (bt a0 x7_1) ≤ 57
         ·rw [if_pos c11] at H
          have c11b0 : decide ((bt a0 x7_1) ≤ 57) = true := decide_eq_true c11
          clear c11
          have H' := Aside0.mk H
          clear H
          have p5 : 0 ≤ (x7_1 : Int) := of_decide_eq_true as_
          have q5 : x7_1 < (a0.size : Int) := of_decide_eq_true as_
          have hx5 := bt_at a0 x7_1
          replace p5 := eq_true p5
          replace q5 := eq_true q5
          have p8 : 0 ≤ (x7_1 : Int) := of_decide_eq_true as_
          have q8 : x7_1 < (a0.size : Int) := of_decide_eq_true as_
          have hx8 := bt_at a0 x7_1
          replace p8 := eq_true p8
          replace q8 := eq_true q8
          have p10 : 0 ≤ (x7_1 : Int) := of_decide_eq_true as_
          have q10 : x7_1 < (a0.size : Int) := of_decide_eq_true as_
          have hx10 := bt_at a0 x7_1
          replace p10 := eq_true p10
          replace q10 := eq_true q10
          go_wp2
          go_roundg k1
          case measure => have := HK1.out; omega
          case rel => exact ⟨(wrap64 (x7_1 + 1)), sd_, H', ⟨by have := HK1.out; omega⟩, by repeat (first | exact Drawn0.refl _ | apply Drawn0.step)⟩
         ·rw [if_neg c11] at H
          have c11b0 : decide ((bt a0 x7_1) ≤ 57) = false := decide_eq_false c11
          clear c11
          replace H := Option.bind_eq_some_iff.mp H
          obtain ⟨t171, A130, H⟩ := H
          replace H : (if t171 ≥ 0 then (pairs_Token.l0 k1 a0 (a0.size : Int) (wrap64 (x7_1 + 1))) else (some false)) = some r := H
          have A13 := Aside0.mk A130
          clear A130
          by_cases c14 : t171 ≥ 0
          ·rw [if_pos c14] at H
           have c14b0 : decide (0 ≤ t171) = true := decide_eq_true c14
           clear c14
           have H' := Aside0.mk H
           clear H
           have p5 : 0 ≤ (x7_1 : Int) := of_decide_eq_true as_
           have q5 : x7_1 < (a0.size : Int) := of_decide_eq_true as_
           have hx5 := bt_at a0 x7_1
           replace p5 := eq_true p5
           replace q5 := eq_true q5
           have p8 : 0 ≤ (x7_1 : Int) := of_decide_eq_true as_
           have q8 : x7_1 < (a0.size : Int) := of_decide_eq_true as_
           have hx8 := bt_at a0 x7_1
           replace p8 := eq_true p8
           replace q8 := eq_true q8
           have p10 : 0 ≤ (x7_1 : Int) := of_decide_eq_true as_
           have q10 : x7_1 < (a0.size : Int) := of_decide_eq_true as_
           have hx10 := bt_at a0 x7_1
           replace p10 := eq_true p10
           replace q10 := eq_true q10
           have p12 : 0 ≤ (x7_1 : Int) := of_decide_eq_true as_
           have q12 : x7_1 < (a0.size : Int) := of_decide_eq_true as_
           have hx12 := bt_at a0 x7_1
           replace p12 := eq_true p12
           replace q12 := eq_true q12
           go_wp2_with (first | (go_at_call 46; (with_reducible refine (strings_IndexByte.calls (⟨#[33, 35, 36, 37, 38, 39, 42, 43, 45, 46, 94, 95, 96, 124, 126]⟩ : ByteArray) (bt a0 x7_1) t171 _ A13.out).mono ?_); rintro e w' ⟨rfl, ⟨nd, rfl⟩⟩))
           go_roundg k1
           case measure => have := HK1.out; omega
           case rel => exact ⟨(wrap64 (x7_1 + 1)), sd_, H', ⟨by have := HK1.out; omega⟩, by repeat (first | exact Drawn0.refl _ | apply Drawn0.step)⟩
          ·rw [if_neg c14] at H
           have c14b0 : decide (0 ≤ t171) = false := decide_eq_false c14
           clear c14
           obtain rfl := Option.some.inj H
           have p5 : 0 ≤ (x7_1 : Int) := of_decide_eq_true as_
           have q5 : x7_1 < (a0.size : Int) := of_decide_eq_true as_
           have hx5 := bt_at a0 x7_1
           replace p5 := eq_true p5
           replace q5 := eq_true q5
           have p8 : 0 ≤ (x7_1 : Int) := of_decide_eq_true as_
           have q8 : x7_1 < (a0.size : Int) := of_decide_eq_true as_
           have hx8 := bt_at a0 x7_1
           replace p8 := eq_true p8
           replace q8 := eq_true q8
           have p10 : 0 ≤ (x7_1 : Int) := of_decide_eq_true as_
           have q10 : x7_1 < (a0.size : Int) := of_decide_eq_true as_
           have hx10 := bt_at a0 x7_1
           replace p10 := eq_true p10
           replace q10 := eq_true q10
           have p12 : 0 ≤ (x7_1 : Int) := of_decide_eq_true as_
           have q12 : x7_1 < (a0.size : Int) := of_decide_eq_true as_
           have hx12 := bt_at a0 x7_1
           replace p12 := eq_true p12
           replace q12 := eq_true q12
           go_wp2_with (first | (go_at_call 46; (with_reducible refine (strings_IndexByte.calls (⟨#[33, 35, 36, 37, 38, 39, 42, 43, 45, 46, 94, 95, 96, 124, 126]⟩ : ByteArray) (bt a0 x7_1) t171 _ A13.out).mono ?_); rintro e w' ⟨rfl, ⟨nd, rfl⟩⟩))
           go_ret
           exact ⟨by first | rfl | (simp; done) | (simp [*]; done) | (simp [bne_nil_isEmpty, beq_nil_isEmpty]; done) | (simp [*, bne_nil_isEmpty, beq_nil_isEmpty]; done), by repeat (first | exact Drawn0.refl _ | apply Drawn0.step)⟩
        ·rw [if_neg c9] at H
         have c9b0 : decide (48 ≤ (bt a0 x7_1)) = false := decide_eq_false c9
         clear c9
         replace H := Option.bind_eq_some_iff.mp H
         obtain ⟨t172, A160, H⟩ := H
         replace H : (if t172 ≥ 0 then (pairs_Token.l0 k1 a0 (a0.size : Int) (wrap64 (x7_1 + 1))) else (some false)) = some r := H
         have A16 := Aside0.mk A160
         clear A160
         by_cases c17 : t172 ≥ 0
         ·rw [if_pos c17] at H
          have c17b0 : decide (0 ≤ t172) = true := decide_eq_true c17
          clear c17
          have H' := Aside0.mk H
          clear H
          have p5 : 0 ≤ (x7_1 : Int) := of_decide_eq_true as_
          have q5 : x7_1 < (a0.size : Int) := of_decide_eq_true as_
          have hx5 := bt_at a0 x7_1
          replace p5 := eq_true p5
          replace q5 := eq_true q5
          have p8 : 0 ≤ (x7_1 : Int) := of_decide_eq_true as_
          have q8 : x7_1 < (a0.size : Int) := of_decide_eq_true as_
          have hx8 := bt_at a0 x7_1
          replace p8 := eq_true p8
          replace q8 := eq_true q8
          have p15 : 0 ≤ (x7_1 : Int) := of_decide_eq_true as_
          have q15 : x7_1 < (a0.size : Int) := of_decide_eq_true as_
          have hx15 := bt_at a0 x7_1
          replace p15 := eq_true p15
          replace q15 := eq_true q15
          go_wp2_with (first | (go_at_call 46; (with_reducible refine (strings_IndexByte.calls (⟨#[33, 35, 36, 37, 38, 39, 42, 43, 45, 46, 94, 95, 96, 124, 126]⟩ : ByteArray) (bt a0 x7_1) t172 _ A16.out).mono ?_); rintro e w' ⟨rfl, ⟨nd, rfl⟩⟩))
          go_roundg k1
          case measure => have := HK1.out; omega
          case rel => exact ⟨(wrap64 (x7_1 + 1)), sd_, H', ⟨by have := HK1.out; omega⟩, by repeat (first | exact Drawn0.refl _ | apply Drawn0.step)⟩
         ·rw [if_neg c17] at H
          have c17b0 : decide (0 ≤ t172) = false := decide_eq_false c17
          clear c17
          obtain rfl := Option.some.inj H
          have p5 : 0 ≤ (x7_1 : Int) := of_decide_eq_true as_
          have q5 : x7_1 < (a0.size : Int) := of_decide_eq_true as_
          have hx5 := bt_at a0 x7_1
          replace p5 := eq_true p5
          replace q5 := eq_true q5
          have p8 : 0 ≤ (x7_1 : Int) := of_decide_eq_true as_
          have q8 : x7_1 < (a0.size : Int) := of_decide_eq_true as_
          have hx8 := bt_at a0 x7_1
          replace p8 := eq_true p8
          replace q8 := eq_true q8
          have p15 : 0 ≤ (x7_1 : Int) := of_decide_eq_true as_
          have q15 : x7_1 < (a0.size : Int) := of_decide_eq_true as_
          have hx15 := bt_at a0 x7_1
          replace p15 := eq_true p15
          replace q15 := eq_true q15
          go_wp2_with (first | (go_at_call 46; (with_reducible refine (strings_IndexByte.calls (⟨#[33, 35, 36, 37, 38, 39, 42, 43, 45, 46, 94, 95, 96, 124, 126]⟩ : ByteArray) (bt a0 x7_1) t172 _ A16.out).mono ?_); rintro e w' ⟨rfl, ⟨nd, rfl⟩⟩))
          go_ret
          exact ⟨by first | rfl | (simp; done) | (simp [*]; done) | (simp [bne_nil_isEmpty, beq_nil_isEmpty]; done) | (simp [*, bne_nil_isEmpty, beq_nil_isEmpty]; done), by repeat (first | exact Drawn0.refl _ | apply Drawn0.step)⟩
      ·rw [if_neg c6] at H
       have c6b0 : decide (97 ≤ (Go.bits .or .u8 (bt a0 x7_1) 32)) = false := decide_eq_false c6
       clear c6
       by_cases c19 : (bt a0 x7_1) ≥ 48
       ·rw [if_pos c19] at H
        have c19b0 : decide (48 ≤ (bt a0 x7_1)) = true := decide_eq_true c19
        clear c19
        by_cases c21 : (bt a0 x7_1) ≤ 57
        ·rw [if_pos c21] at H
         have c21b0 : decide ((bt a0 x7_1) ≤ 57) = true := decide_eq_true c21
         clear c21
         have H' := Aside0.mk H
         clear H
         have p5 : 0 ≤ (x7_1 : Int) := of_decide_eq_true as_
         have q5 : x7_1 < (a0.size : Int) := of_decide_eq_true as_
         have hx5 := bt_at a0 x7_1
         replace p5 := eq_true p5
         replace q5 := eq_true q5
         have p18 : 0 ≤ (x7_1 : Int) := of_decide_eq_true as_
         have q18 : x7_1 < (a0.size : Int) := of_decide_eq_true as_
         have hx18 := bt_at a0 x7_1
         replace p18 := eq_true p18
         replace q18 := eq_true q18
         have p20 : 0 ≤ (x7_1 : Int) := of_decide_eq_true as_
         have q20 : x7_1 < (a0.size : Int) := of_decide_eq_true as_
         have hx20 := bt_at a0 x7_1
         replace p20 := eq_true p20
         replace q20 := eq_true q20
         go_wp2
         go_roundg k1
         case measure => have := HK1.out; omega
         case rel => exact ⟨(wrap64 (x7_1 + 1)), sd_, H', ⟨by have := HK1.out; omega⟩, by repeat (first | exact Drawn0.refl _ | apply Drawn0.step)⟩
        ·rw [if_neg c21] at H
         have c21b0 : decide ((bt a0 x7_1) ≤ 57) = false := decide_eq_false c21
         clear c21
         replace H := Option.bind_eq_some_iff.mp H
         obtain ⟨t173, A230, H⟩ := H
         replace H : (if t173 ≥ 0 then (pairs_Token.l0 k1 a0 (a0.size : Int) (wrap64 (x7_1 + 1))) else (some false)) = some r := H
         have A23 := Aside0.mk A230
         clear A230
         by_cases c24 : t173 ≥ 0
         ·rw [if_pos c24] at H
          have c24b0 : decide (0 ≤ t173) = true := decide_eq_true c24
          clear c24
          have H' := Aside0.mk H
          clear H
          have p5 : 0 ≤ (x7_1 : Int) := of_decide_eq_true as_
          have q5 : x7_1 < (a0.size : Int) := of_decide_eq_true as_
          have hx5 := bt_at a0 x7_1
          replace p5 := eq_true p5
          replace q5 := eq_true q5
          have p18 : 0 ≤ (x7_1 : Int) := of_decide_eq_true as_
          have q18 : x7_1 < (a0.size : Int) := of_decide_eq_true as_
          have hx18 := bt_at a0 x7_1
          replace p18 := eq_true p18
          replace q18 := eq_true q18
          have p20 : 0 ≤ (x7_1 : Int) := of_decide_eq_true as_
          have q20 : x7_1 < (a0.size : Int) := of_decide_eq_true as_
          have hx20 := bt_at a0 x7_1
          replace p20 := eq_true p20
          replace q20 := eq_true q20
          have p22 : 0 ≤ (x7_1 : Int) := of_decide_eq_true as_
          have q22 : x7_1 < (a0.size : Int) := of_decide_eq_true as_
          have hx22 := bt_at a0 x7_1
          replace p22 := eq_true p22
          replace q22 := eq_true q22
          go_wp2_with (first | (go_at_call 46; (with_reducible refine (strings_IndexByte.calls (⟨#[33, 35, 36, 37, 38, 39, 42, 43, 45, 46, 94, 95, 96, 124, 126]⟩ : ByteArray) (bt a0 x7_1) t173 _ A23.out).mono ?_); rintro e w' ⟨rfl, ⟨nd, rfl⟩⟩))
          go_roundg k1
          case measure => have := HK1.out; omega
          case rel => exact ⟨(wrap64 (x7_1 + 1)), sd_, H', ⟨by have := HK1.out; omega⟩, by repeat (first | exact Drawn0.refl _ | apply Drawn0.step)⟩
         ·rw [if_neg c24] at H
          have c24b0 : decide (0 ≤ t173) = false := decide_eq_false c24
          clear c24
          obtain rfl := Option.some.inj H
          have p5 : 0 ≤ (x7_1 : Int) := of_decide_eq_true as_
          have q5 : x7_1 < (a0.size : Int) := of_decide_eq_true as_
          have hx5 := bt_at a0 x7_1
          replace p5 := eq_true p5
          replace q5 := eq_true q5
          have p18 : 0 ≤ (x7_1 : Int) := of_decide_eq_true as_
          have q18 : x7_1 < (a0.size : Int) := of_decide_eq_true as_
          have hx18 := bt_at a0 x7_1
          replace p18 := eq_true p18
          replace q18 := eq_true q18
          have p20 : 0 ≤ (x7_1 : Int) := of_decide_eq_true as_
          have q20 : x7_1 < (a0.size : Int) := of_decide_eq_true as_
          have hx20 := bt_at a0 x7_1
          replace p20 := eq_true p20
          replace q20 := eq_true q20
          have p22 : 0 ≤ (x7_1 : Int) := of_decide_eq_true as_
          have q22 : x7_1 < (a0.size : Int) := of_decide_eq_true as_
          have hx22 := bt_at a0 x7_1
          replace p22 := eq_true p22
          replace q22 := eq_true q22
          go_wp2_with (first | (go_at_call 46; (with_reducible refine (strings_IndexByte.calls (⟨#[33, 35, 36, 37, 38, 39, 42, 43, 45, 46, 94, 95, 96, 124, 126]⟩ : ByteArray) (bt a0 x7_1) t173 _ A23.out).mono ?_); rintro e w' ⟨rfl, ⟨nd, rfl⟩⟩))
          go_ret
          exact ⟨by first | rfl | (simp; done) | (simp [*]; done) | (simp [bne_nil_isEmpty, beq_nil_isEmpty]; done) | (simp [*, bne_nil_isEmpty, beq_nil_isEmpty]; done), by repeat (first | exact Drawn0.refl _ | apply Drawn0.step)⟩
       ·rw [if_neg c19] at H
        have c19b0 : decide (48 ≤ (bt a0 x7_1)) = false := decide_eq_false c19
        clear c19
        replace H := Option.bind_eq_some_iff.mp H
        obtain ⟨t174, A260, H⟩ := H
        replace H : (if t174 ≥ 0 then (pairs_Token.l0 k1 a0 (a0.size : Int) (wrap64 (x7_1 + 1))) else (some false)) = some r := H
        have A26 := Aside0.mk A260
        clear A260
        by_cases c27 : t174 ≥ 0
        ·rw [if_pos c27] at H
         have c27b0 : decide (0 ≤ t174) = true := decide_eq_true c27
         clear c27
         have H' := Aside0.mk H
         clear H
         have p5 : 0 ≤ (x7_1 : Int) := of_decide_eq_true as_
         have q5 : x7_1 < (a0.size : Int) := of_decide_eq_true as_
         have hx5 := bt_at a0 x7_1
         replace p5 := eq_true p5
         replace q5 := eq_true q5
         have p18 : 0 ≤ (x7_1 : Int) := of_decide_eq_true as_
         have q18 : x7_1 < (a0.size : Int) := of_decide_eq_true as_
         have hx18 := bt_at a0 x7_1
         replace p18 := eq_true p18
         replace q18 := eq_true q18
         have p25 : 0 ≤ (x7_1 : Int) := of_decide_eq_true as_
         have q25 : x7_1 < (a0.size : Int) := of_decide_eq_true as_
         have hx25 := bt_at a0 x7_1
         replace p25 := eq_true p25
         replace q25 := eq_true q25
         go_wp2_with (first | (go_at_call 46; (with_reducible refine (strings_IndexByte.calls (⟨#[33, 35, 36, 37, 38, 39, 42, 43, 45, 46, 94, 95, 96, 124, 126]⟩ : ByteArray) (bt a0 x7_1) t174 _ A26.out).mono ?_); rintro e w' ⟨rfl, ⟨nd, rfl⟩⟩))
         go_roundg k1
         case measure => have := HK1.out; omega
         case rel => exact ⟨(wrap64 (x7_1 + 1)), sd_, H', ⟨by have := HK1.out; omega⟩, by repeat (first | exact Drawn0.refl _ | apply Drawn0.step)⟩
        ·rw [if_neg c27] at H
         have c27b0 : decide (0 ≤ t174) = false := decide_eq_false c27
         clear c27
         obtain rfl := Option.some.inj H
         have p5 : 0 ≤ (x7_1 : Int) := of_decide_eq_true as_
         have q5 : x7_1 < (a0.size : Int) := of_decide_eq_true as_
         have hx5 := bt_at a0 x7_1
         replace p5 := eq_true p5
         replace q5 := eq_true q5
         have p18 : 0 ≤ (x7_1 : Int) := of_decide_eq_true as_
         have q18 : x7_1 < (a0.size : Int) := of_decide_eq_true as_
         have hx18 := bt_at a0 x7_1
         replace p18 := eq_true p18
         replace q18 := eq_true q18
         have p25 : 0 ≤ (x7_1 : Int) := of_decide_eq_true as_
         have q25 : x7_1 < (a0.size : Int) := of_decide_eq_true as_
         have hx25 := bt_at a0 x7_1
         replace p25 := eq_true p25
         replace q25 := eq_true q25
         go_wp2_with (first | (go_at_call 46; (with_reducible refine (strings_IndexByte.calls (⟨#[33, 35, 36, 37, 38, 39, 42, 43, 45, 46, 94, 95, 96, 124, 126]⟩ : ByteArray) (bt a0 x7_1) t174 _ A26.out).mono ?_); rintro e w' ⟨rfl, ⟨nd, rfl⟩⟩))
         go_ret
         exact ⟨by first | rfl | (simp; done) | (simp [*]; done) | (simp [bne_nil_isEmpty, beq_nil_isEmpty]; done) | (simp [*, bne_nil_isEmpty, beq_nil_isEmpty]; done), by repeat (first | exact Drawn0.refl _ | apply Drawn0.step)⟩
     ·rw [if_neg c4] at H
      exact absurd H (by simp)
    ·rw [if_neg c3] at H
     exact absurd H (by simp)
   ·rw [if_neg c2] at H
    have c2b0 : decide (x7_1 < (a0.size : Int)) = false := decide_eq_false c2
    clear c2
    by_cases c28 : a0.toList = ([] : List UInt8)
    ·rw [if_pos c28] at H
     have c28b0 : (a0.toList == ([] : List UInt8)) = true := beq_iff_eq.mpr c28
     have c28b1 : (a0.toList != ([] : List UInt8)) = false := bne_eq_false_iff_eq.mpr c28
     clear c28
     obtain rfl := Option.some.inj H
     go_wp2
     go_ret
     exact ⟨by first | rfl | (simp; done) | (simp [*]; done) | (simp [bne_nil_isEmpty, beq_nil_isEmpty]; done) | (simp [*, bne_nil_isEmpty, beq_nil_isEmpty]; done), by repeat (first | exact Drawn0.refl _ | apply Drawn0.step)⟩
    ·rw [if_neg c28] at H
     have c28b0 : (a0.toList == ([] : List UInt8)) = false := beq_eq_false_iff_ne.mpr c28
     have c28b1 : (a0.toList != ([] : List UInt8)) = true := bne_iff_ne.mpr c28
     obtain rfl := Option.some.inj H
     go_wp2
     go_ret
     exact ⟨by first | rfl | (simp; done) | (simp [*]; done) | (simp [bne_nil_isEmpty, beq_nil_isEmpty]; done) | (simp [*, bne_nil_isEmpty, beq_nil_isEmpty]; done), by repeat (first | exact Drawn0.refl _ | apply Drawn0.step)⟩

/-! ### pairs_Value: function 28 -/
def pairs_Value.l0 : Nat → ByteArray → Int → Int → Option (Bool)
 | 0, _, _, _ => none
 | k + 1, x0, x5, x6 => if x6 < x5 then (if 0 ≤ x6 then (if x6 < (x0.size : Int) then (if (bt x0 x6) < 32 then (some false) else (if (bt x0 x6) > 126 then (some false) else (pairs_Value.l0 k x0 x5 (wrap64 (x6 + 1))))) else (none)) else (none)) else (if (x0.size : Int) ≤ 40 then ((strings_Trim.f x0 (⟨#[32]⟩ : ByteArray)).bind fun t175 => (some (t175.toList == x0.toList))) else (some false))
def pairs_Value.f (k : Nat) (a0 : ByteArray) : Option (Bool) := pairs_Value.l0 k a0 (a0.size : Int) 0
theorem pairs_Value.mono_l : ∀ k, (∀ y0 y1 y2, LeO (pairs_Value.l0 k y0 y1 y2) (pairs_Value.l0 (k + 1) y0 y1 y2))
 | 0 => fun _ _ _ r h => by simp [pairs_Value.l0] at h
 | k + 1 => by
  have ih0 := pairs_Value.mono_l k
  ·intro y0 y1 y2
   unfold pairs_Value.l0
   repeat' first
   | (with_reducible exact ih0 _ _ _)
   | (with_reducible exact LeO.refl _)
   | (with_reducible exact LeO.none _)
   | (with_reducible refine LeO.ite ?_ ?_)
   | (with_reducible refine LeO.bind ?_ (fun _ => ?_))
   | exact ih0 _ _ _
   | exact LeO.none _
   | refine LeO.ite ?_ ?_
   | refine LeO.bind ?_ (fun _ => ?_)
theorem pairs_Value.mono : ∀ a0 k, LeO (pairs_Value.f k a0) (pairs_Value.f (k + 1) a0) := by
 intro a0 k
 have ih0 := pairs_Value.mono_l k
 unfold pairs_Value.f
 repeat' first
   | (with_reducible exact ih0 _ _ _)
   | (with_reducible exact LeO.refl _)
   | (with_reducible exact LeO.none _)
   | (with_reducible refine LeO.ite ?_ ?_)
   | (with_reducible refine LeO.bind ?_ (fun _ => ?_))
   | exact ih0 _ _ _
   | exact LeO.none _
   | refine LeO.ite ?_ ?_
   | refine LeO.bind ?_ (fun _ => ?_)
set_option maxHeartbeats 8000000 in
set_option maxRecDepth 100000 in
theorem pairs_Value.calls (k : Nat) (a0 : ByteArray) (r : Bool) (w : World) (h : pairs_Value.f k a0 = some r) :
  Calls Tryd.prog 28 #[.string a0] w fun e w' => e = .returned (.bool r) ∧ Below w.heap.size w w' := by
 have HB := am_ (Below.refl w.heap.size w)
 have H : (pairs_Value.l0 k a0 (a0.size : Int) 0) = some r := h
 clear h
 have H' := Aside0.mk H
 clear H
 go_enter Tryd.func28, Tryd.ntmps28
 go_wp2
 go_loopg [6] k (fun kq v6 w' => ∃ (x6_1 : Int), v6 = .int .i64 x6_1 ∧ Aside0 (pairs_Value.l0 kq a0 (a0.size : Int) x6_1 = some r) ∧ Aside0 (kq ≤ k) ∧ Aside0 (Below w.heap.size w w'))
 case atStart => exact ⟨(0), sd_, H', ⟨Nat.le_refl _⟩, ⟨bel_ HB.out⟩⟩
 case round =>
  clear H'
  obtain ⟨x6_1, rfl, HA, HK1, HB⟩ := hrel
  cases gk with
  | zero => exact absurd HA.out (by simp [pairs_Value.l0])
  | succ k1 =>
   have H := HA.out
   clear HA
   simp only [pairs_Value.l0] at H
   by_cases c2 : x6_1 < (a0.size : Int)
   ·rw [if_pos c2] at H
    have c2b0 : decide (x6_1 < (a0.size : Int)) = true := decide_eq_true c2
    clear c2
    by_cases c3 : 0 ≤ x6_1
    ·rw [if_pos c3] at H
     have c3b0 : decide (0 ≤ x6_1) = true := decide_eq_true c3
     clear c3
     by_cases c4 : x6_1 < (a0.size : Int)
     ·rw [if_pos c4] at H
      have c4b0 : decide (x6_1 < (a0.size : Int)) = true := decide_eq_true c4
      clear c4
      by_cases c6 : (bt a0 x6_1) < 32
      ·rw [if_pos c6] at H
       have c6b0 : decide ((bt a0 x6_1) < 32) = true := decide_eq_true c6
       clear c6
       obtain rfl := Option.some.inj H
       have p5 : 0 ≤ (x6_1 : Int) := of_decide_eq_true as_
       have q5 : x6_1 < (a0.size : Int) := of_decide_eq_true as_
       have hx5 := bt_at a0 x6_1
       replace p5 := eq_true p5
       replace q5 := eq_true q5
       go_wp2
       go_ret
       exact ⟨fi_, bel_ HB.out⟩
      ·rw [if_neg c6] at H
       have c6b0 : decide ((bt a0 x6_1) < 32) = false := decide_eq_false c6
       clear c6
       by_cases c8 : (bt a0 x6_1) > 126
       ·rw [if_pos c8] at H
        have c8b0 : decide (126 < (bt a0 x6_1)) = true := decide_eq_true c8
        clear c8
        obtain rfl := Option.some.inj H
        have p5 : 0 ≤ (x6_1 : Int) := of_decide_eq_true as_
        have q5 : x6_1 < (a0.size : Int) := of_decide_eq_true as_
        have hx5 := bt_at a0 x6_1
        replace p5 := eq_true p5
        replace q5 := eq_true q5
        have p7 : 0 ≤ (x6_1 : Int) := of_decide_eq_true as_
        have q7 : x6_1 < (a0.size : Int) := of_decide_eq_true as_
        have hx7 := bt_at a0 x6_1
        replace p7 := eq_true p7
        replace q7 := eq_true q7
        go_wp2
        go_ret
        exact ⟨fi_, bel_ HB.out⟩
       ·rw [if_neg c8] at H
        have c8b0 : decide (126 < (bt a0 x6_1)) = false := decide_eq_false c8
        clear c8
        have H' := Aside0.mk H
        clear H
        have p5 : 0 ≤ (x6_1 : Int) := of_decide_eq_true as_
        have q5 : x6_1 < (a0.size : Int) := of_decide_eq_true as_
        have hx5 := bt_at a0 x6_1
        replace p5 := eq_true p5
        replace q5 := eq_true q5
        have p7 : 0 ≤ (x6_1 : Int) := of_decide_eq_true as_
        have q7 : x6_1 < (a0.size : Int) := of_decide_eq_true as_
        have hx7 := bt_at a0 x6_1
        replace p7 := eq_true p7
        replace q7 := eq_true q7
        go_wp2
        go_roundg k1
        case measure => have := HK1.out; omega
        case rel => exact ⟨(wrap64 (x6_1 + 1)), sd_, H', ⟨by have := HK1.out; omega⟩, ⟨bel_ HB.out⟩⟩
     ·rw [if_neg c4] at H
      exact absurd H (by simp)
    ·rw [if_neg c3] at H
     exact absurd H (by simp)
   ·rw [if_neg c2] at H
    have c2b0 : decide (x6_1 < (a0.size : Int)) = false := decide_eq_false c2
    clear c2
    by_cases c9 : (a0.size : Int) ≤ 40
    ·rw [if_pos c9] at H
     have c9b0 : decide ((a0.size : Int) ≤ 40) = true := decide_eq_true c9
     have c9b1 : decide (a0.size ≤ 40) = true := decide_eq_true (by omega)
     clear c9
     replace H := Option.bind_eq_some_iff.mp H
     obtain ⟨t175, A100, H⟩ := H
     replace H : (some (t175.toList == a0.toList)) = some r := H
     have A10 := Aside0.mk A100
     clear A100
     obtain rfl := Option.some.inj H
     go_wp2_with (first | (go_at_call 47; (with_reducible refine (strings_Trim.calls a0 (⟨#[32]⟩ : ByteArray) t175 _ A10.out).mono ?_); rintro e w11 ⟨rfl, hb⟩; have n0_ := am_ (below_step (bel_ HB.out) hb); clear HB; have HB := n0_; clear n0_; (try clear hb); (try clear hb2); (try clear hk); (try clear hi)))
     go_ret
     exact ⟨fi_, bel_ HB.out⟩
    ·rw [if_neg c9] at H
     have c9b0 : decide ((a0.size : Int) ≤ 40) = false := decide_eq_false c9
     have c9b1 : decide (a0.size ≤ 40) = false := decide_eq_false (by omega)
     clear c9
     obtain rfl := Option.some.inj H
     go_wp2
     go_ret
     exact ⟨fi_, bel_ HB.out⟩

end Go.Proofs.YtpmllmfamjpinaaDoor.P
