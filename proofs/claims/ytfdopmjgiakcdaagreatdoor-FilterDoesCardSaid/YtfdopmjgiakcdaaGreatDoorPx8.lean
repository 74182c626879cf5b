-- written by wip/tool/hprint.py of this repo: the kit's print, with contracts by hand joined; Lean checks it.
import Derived.Test.YtfdopmjgiakcdaaGreatDoorPx0
import Derived.Test.YtfdopmjgiakcdaaGreatDoorPx6
import Derived.Test.YtfdopmjgiakcdaaGreatDoorPx7
namespace Go.Proofs.YtfdopmjgiakcdaaGreatDoor.P
open Go.RowKit Go.Proofs.YtfdopmjgiakcdaaGreatDoorW.PrintWords Go.Proofs.YtfdopmjgiakcdaaGreatDoorW.PrintLast Go.Proofs.YtfdopmjgiakcdaaGreatDoorW.PrintMore
attribute [local go_sem] max2_int min2_int max_two min_two max_three min_three max_four min_four   -- for this text's walks alone
set_option linter.unusedVariables false
set_option linter.unusedSimpArgs false

/-! ### filter_Do: function 17 -/
/-- One filter at work: method, host, path, head; none: refused with that error. -/
def filter_step.f (k : Nat) (a1_0 : Int) (a1_1 : ByteArray) (f : S26) (st : ByteArray × ByteArray × List (S59)) : Option ((ByteArray × ByteArray × List (S59)) × Int) :=
 if f.f0 = 1 then (pairs_Set.f st.2.2 f.f1 f.f2).bind fun l => some ((st.1, st.2.1, l), 0)
 else if f.f0 = 2 then (pairs_Add.f st.2.2 f.f1 f.f2).bind fun l => some ((st.1, st.2.1, l), 0)
 else if f.f0 = 3 then (pairs_Drop.f st.2.2 f.f1).bind fun l => some ((st.1, st.2.1, l), 0)
 else if f.f0 = 4 then some (st, 0)
 else if f.f0 = 5 then (filter_becomes.f k f.f0 f.f1 f.f2 f.f3 f.f4 f.f5 f.f6 f.f7 a1_0 a1_1 st.2.1).bind fun z => some ((if f.f3.toList = [] then st.1 else f.f3, z.1, st.2.2), z.2)
 else none
def filter_Do.go (k : Nat) (a1_0 : Int) (a1_1 : ByteArray) (m : ByteArray) (q : List (S59)) : (ByteArray × ByteArray × List (S59)) → List (S26) → Option (ByteArray × ByteArray × ByteArray × List (S59) × List (S59) × Int)
 | st, [] => some (if st.2.2.length > 30 then ((⟨#[]⟩ : ByteArray), (⟨#[]⟩ : ByteArray), (⟨#[]⟩ : ByteArray), [], [], 5) else (m, st.1, st.2.1, q, st.2.2, 0))
 | st, f :: r => (filter_step.f k a1_0 a1_1 f st).bind fun z => if z.2 = 0 then filter_Do.go k a1_0 a1_1 m q z.1 r else some ((⟨#[]⟩ : ByteArray), (⟨#[]⟩ : ByteArray), (⟨#[]⟩ : ByteArray), [], [], z.2)
def filter_Do.f (k : Nat) (l0 : List (S26)) (a1_0 : Int) (a1_1 : ByteArray) (a2_0 : ByteArray) (a2_1 : ByteArray) (a2_2 : ByteArray) (l2_3 : List (S59)) (l2_4 : List (S59)) : Option (ByteArray × ByteArray × ByteArray × (List (S59)) × (List (S59)) × Int) :=
 (filter_All.f k l0).bind fun a => if a = true then (path_Holds.f k a1_0 a1_1 a2_2).bind fun b => if b = true then filter_Do.go k a1_0 a1_1 a2_0 l2_3 (a2_1, a2_2, l2_4) l0 else some ((⟨#[]⟩ : ByteArray), (⟨#[]⟩ : ByteArray), (⟨#[]⟩ : ByteArray), [], [], 1) else some ((⟨#[]⟩ : ByteArray), (⟨#[]⟩ : ByteArray), (⟨#[]⟩ : ByteArray), [], [], 1)
theorem filter_step.mono : ∀ a1_0 a1_1 f st k, LeO (filter_step.f k a1_0 a1_1 f st) (filter_step.f (k + 1) a1_0 a1_1 f st) := by
 intro a1_0 a1_1 f st k
 unfold filter_step.f
 exact LeO.ite (LeO.refl _) (LeO.ite (LeO.refl _) (LeO.ite (LeO.refl _) (LeO.ite (LeO.refl _) (LeO.ite (LeO.bind (filter_becomes.mono _ _ _ _ _ _ _ _ _ _ _ _) (fun _ => LeO.refl _)) (LeO.refl _)))))
theorem filter_Do.go_mono : ∀ a1_0 a1_1 m q r st k, LeO (filter_Do.go k a1_0 a1_1 m q st r) (filter_Do.go (k + 1) a1_0 a1_1 m q st r) := by
 intro a1_0 a1_1 m q r
 induction r with
 | nil => exact fun _ _ => LeO.refl _
 | cons f r ih =>
  intro st k
  unfold filter_Do.go
  exact LeO.bind (filter_step.mono _ _ _ _ _) (fun _ => LeO.ite (ih _ k) (LeO.refl _))
theorem filter_Do.mono : ∀ a0 a1 a2 a3 a4 a5 a6 a7 k, LeO (filter_Do.f k a0 a1 a2 a3 a4 a5 a6 a7) (filter_Do.f (k + 1) a0 a1 a2 a3 a4 a5 a6 a7) := by
 intro a0 a1 a2 a3 a4 a5 a6 a7 k
 unfold filter_Do.f
 exact LeO.bind (filter_All.mono _ _) (fun _ => LeO.ite (LeO.bind (path_Holds.mono _ _ _ _) (fun _ => LeO.ite (filter_Do.go_mono _ _ _ _ _ _ _) (LeO.refl _))) (LeO.refl _))
/-- How a function of the program reads: by its number. -/
def fnElem (v : Value) : Option (DataW Unit × List MemPlace) := match v with | .func (.func n) a b => if a.size = 0 ∧ b.size = 0 then some (.lit (.int .i64 n), []) else none | .nilFunc => some (.nil, []) | _ => none
theorem law3_ : Go.Maps.Keyed Tryz.prog 3 := Go.Maps.int_keyed Tryz.underlying3
def doesD : DataW Unit := ((((DataW.map []).put (.int .i64 1) (.lit (.int .i64 61))).put (.int .i64 2) (.lit (.int .i64 62))).put (.int .i64 3) (.lit (.int .i64 63))).put (.int .i64 4) (.lit (.int .i64 64)) |>.put (.int .i64 5) (.lit (.int .i64 65))
set_option maxHeartbeats 4000000 in
set_option maxRecDepth 100000 in
theorem filter_does.calls (w : World) : Calls Tryz.prog 40 #[] w fun e w' => ∃ g, e = .returned (.map (some g)) ∧ w.heap.size ≤ g ∧ Below w.heap.size w w' ∧ w'.ownsMap Tryz.prog 3 fnElem g 5 doesD := by
 have hmm := @run_makeMap Tryz.prog;have b0 := (Below.refl w.heap.size w).alloc (Nat.le_refl _) (.map #[] 0);have o0 := World.ownsMap_made w Tryz.prog 3 fnElem;obtain ⟨w1, r1, o1, g1⟩ := o0.update law3_ Tryz.underlying70 (by decide) (key := .int .i64 1) (val := .func (.func 61) #[] #[]) (kl := .int .i64 1) kr_ rfl;obtain ⟨w2, r2, o2, g2⟩ := o1.update law3_ Tryz.underlying70 (by decide) (key := .int .i64 2) (val := .func (.func 62) #[] #[]) (kl := .int .i64 2) kr_ rfl;obtain ⟨w3, r3, o3, g3⟩ := o2.update law3_ Tryz.underlying70 (by decide) (key := .int .i64 3) (val := .func (.func 63) #[] #[]) (kl := .int .i64 3) kr_ rfl;obtain ⟨w4, r4, o4, g4⟩ := o3.update law3_ Tryz.underlying70 (by decide) (key := .int .i64 4) (val := .func (.func 64) #[] #[]) (kl := .int .i64 4) kr_ rfl;obtain ⟨w5, r5, o5, g5⟩ := o4.update law3_ Tryz.underlying70 (by decide) (key := .int .i64 5) (val := .func (.func 65) #[] #[]) (kl := .int .i64 5) kr_ rfl;go_enter Tryz.func40, Tryz.ntmps40;go_wp2;go_ret;have hr : ∀ k, some w.heap.size = some k → w.heap.size ≤ k := fun k h => by cases h; exact Nat.le_refl _
 have b1 := b0.grown g1 b0.size hr;have b2 := b1.grown g2 b1.size hr;have b3 := b2.grown g3 b2.size hr;have b4 := b3.grown g4 b3.size hr;exact ⟨w.heap.size, rfl, Nat.le_refl _, b4.grown g5 b4.size hr, o5⟩
/-- What the map holds at a kind. -/
def doesAt (k : Int) : Option Nat := if k = 1 then some 61 else if k = 2 then some 62 else if k = 3 then some 63 else if k = 4 then some 64 else if k = 5 then some 65 else none
theorem fnElem_eq {v : Value} {n : Nat} {ps : List MemPlace} (h : fnElem v = some (.lit (.int .i64 n), ps)) : v = .func (.func n) #[] #[] ∧ ps = [] := by
 unfold fnElem at h
 split at h
 ·next m a b =>
  split at h
  ·next hs =>
   simp only [Option.some.injEq, Prod.mk.injEq] at h
   obtain ⟨h1, rfl⟩ := h
   have h2 : (m : Int) = (n : Int) := by injection h1 with h1; injection h1
   obtain rfl : m = n := Int.ofNat.inj h2
   obtain rfl := Array.eq_empty_of_size_eq_zero hs.1
   obtain rfl := Array.eq_empty_of_size_eq_zero hs.2
   exact ⟨rfl, rfl⟩
  ·cases h
 ·simp only [Option.some.injEq, Prod.mk.injEq] at h; cases h.1
 ·cases h
theorem fnElem_nil {v : Value} {ps : List MemPlace} (h : fnElem v = some (.nil, ps)) : v = .nilFunc := by
 unfold fnElem at h
 split at h
 ·split at h
  ·simp only [Option.some.injEq, Prod.mk.injEq] at h; cases h.1
  ·cases h
 ·rfl
 ·cases h
def doesV (k : Int) : Value := if k = 1 then .func (.func 61) #[] #[] else if k = 2 then .func (.func 62) #[] #[] else if k = 3 then .func (.func 63) #[] #[] else if k = 4 then .func (.func 64) #[] #[] else if k = 5 then .func (.func 65) #[] #[] else .nilFunc
theorem zeroF_ (w : World) : (zeroValue 72).run Tryz.prog w = .ok .nilFunc w := by go_simp
set_option maxRecDepth 100000 in
theorem does_lookup {w : World} {g : Nat} (h : w.ownsMap Tryz.prog 3 fnElem g 5 doesD) (k : Int) (hk : (Lit.int .i64 k).wf = true) : (Instr.lookup 70 (.map (some g)) (.int .i64 k) false).run Tryz.prog w = .ok (doesV k) w := by
 obtain ⟨v, ps, hrun, hv⟩ := h.lookup law3_ Tryz.underlying70 (zeroF_ w) (zd := .nil) (zp := []) rfl (key := .int .i64 k) (kl := .int .i64 k) (by
  unfold keyOf
  rw [Tryz.underlying3]
  show mapKey Tryz.prog 3 (.int .i64 k) = _
  unfold mapKey
  rw [Tryz.underlying3]
  exact if_pos ⟨rfl, hk⟩)
 rw [hrun]
 congr 1
 have hD : doesD = .map [(.int .i64 1, .lit (.int .i64 61)), (.int .i64 2, .lit (.int .i64 62)), (.int .i64 3, .lit (.int .i64 63)), (.int .i64 4, .lit (.int .i64 64)), (.int .i64 5, .lit (.int .i64 65))] := by kernel_rfl
 rw [hD] at hv
 unfold doesV
 by_cases h1 : k = 1
 ·subst h1; rw [if_pos rfl]; exact (fnElem_eq (n := 61) hv).1
 rw [if_neg h1]
 by_cases h2 : k = 2
 ·subst h2; rw [if_pos rfl]; exact (fnElem_eq (n := 62) hv).1
 rw [if_neg h2]
 by_cases h3 : k = 3
 ·subst h3; rw [if_pos rfl]; exact (fnElem_eq (n := 63) hv).1
 rw [if_neg h3]
 by_cases h4 : k = 4
 ·subst h4; rw [if_pos rfl]; exact (fnElem_eq (n := 64) hv).1
 rw [if_neg h4]
 by_cases h5 : k = 5
 ·subst h5; rw [if_pos rfl]; exact (fnElem_eq (n := 65) hv).1
 rw [if_neg h5]
 refine fnElem_nil (ps := ps) (hv.trans ?_)
 congr 2
 unfold DataW.atKey
 have e : ∀ a : Int, ¬ k = a → (Lit.int .i64 a).sameKey (Lit.int .i64 k) = false := fun a ha => by
  simp [Lit.sameKey]
  omega
 simp only [List.find?, e 1 h1, e 2 h2, e 3 h3, e 4 h4, e 5 h5]
set_option maxHeartbeats 8000000 in
set_option maxRecDepth 100000 in
theorem filter_step_set_at (gb : Nat) (m h p : ByteArray) (q : Value) (A4 : Option Addr) (c4 : Nat) (k : Int) (s : ByteArray) (y : S26) (l r : List (S59)) (W : World) (hb : W.heap[gb]? = some (.cells #[.string m, .string h, .string p, q, .slice A4 l.length c4, .int .i64 k, .string s] 69 (0, 0))) (hr : Kd.C k59 W A4 l.length l) (hc : l.length ≤ c4) (w0 : World) (hw0 : Below w0.heap.size w0 W) (hge : w0.heap.size ≤ gb) (hf : pairs_Set.f l y.f1 y.f2 = some r) :
  Calls Tryz.prog 61 #[.pointer (some ⟨gb, 0, none⟩), .agg #[.int .i64 y.f0, .string y.f1, .string y.f2, .string y.f3, .int .i64 y.f4, .string y.f5, .bool y.f6, .int .i64 y.f7]] W fun e w' => ∃ v : Value, e = .returned (.int .i64 0) ∧ w'.heap[gb]? = some (.cells #[.string m, .string h, .string p, q, v, .int .i64 k, .string s] 69 (0, 0)) ∧ Kd.V k59 59 w' 0 (fun k_ => W.heap.size ≤ k_) v r ∧ Kept W w' (fun k_ => k_ = gb) ∧ Below w0.heap.size w0 w' := by
 have hu26 := Tryz.underlying26
 have hu33 := Tryz.underlying33
 have hu69 := Tryz.underlying69
 have HR := am_ hr
 have HC := am_ hc
 have HF := am_ hf
 have BS := am_ hb
 have BS0 := am_ hb
 have HW0 := am_ hw0
 have HGE := am_ hge
 clear hr hc hf hb hw0 hge
 go_enter Tryz.func61, Tryz.ntmps61
 go_upto_region 1 with (first | ((with_reducible refine gate_dst (N := 3) rfl ?_); refine box_event ?hg (N := 3) ?hd (cs := #[.int .i64 y.f0, .string y.f1, .string y.f2, .string y.f3, .int .i64 y.f4, .string y.f5, .bool y.f6, .int .i64 y.f7]) (t := 26) ?hr ?_; (case hd => rfl); (case hg => rfl); (case hr => first | (go_simp; done) | (go_simp; rfl)); intro gx hg w3 hbox hb3; have HGX := am_ (show W.heap.size ≤ gx from hg ▸ Nat.le_refl _); have HB3 := am_ hb3; have BX := am_ hbox; have BS3 := am_ (blk_below BS.out hb3); clear BS hb3 hbox hg))
 have hca_0 : w3.cell? ⟨gx, 0, none⟩ = some (.int .i64 y.f0) := (blk_cell BX.out 0).trans rfl
 have hca_1 : w3.cell? ⟨gx, 1, none⟩ = some (.string y.f1) := (blk_cell BX.out 1).trans rfl
 have hca_2 : w3.cell? ⟨gx, 2, none⟩ = some (.string y.f2) := (blk_cell BX.out 2).trans rfl
 have hca_3 : w3.cell? ⟨gx, 3, none⟩ = some (.string y.f3) := (blk_cell BX.out 3).trans rfl
 have hca_4 : w3.cell? ⟨gx, 4, none⟩ = some (.int .i64 y.f4) := (blk_cell BX.out 4).trans rfl
 have hca_5 : w3.cell? ⟨gx, 5, none⟩ = some (.string y.f5) := (blk_cell BX.out 5).trans rfl
 have hca_6 : w3.cell? ⟨gx, 6, none⟩ = some (.bool y.f6) := (blk_cell BX.out 6).trans rfl
 have hca_7 : w3.cell? ⟨gx, 7, none⟩ = some (.int .i64 y.f7) := (blk_cell BX.out 7).trans rfl
 have hfa_0 := blk_frozen BX.out 0
 have hfa_1 := blk_frozen BX.out 1
 have hfa_2 := blk_frozen BX.out 2
 have hfa_3 := blk_frozen BX.out 3
 have hfa_4 := blk_frozen BX.out 4
 have hfa_5 := blk_frozen BX.out 5
 have hfa_6 := blk_frozen BX.out 6
 have hfa_7 := blk_frozen BX.out 7
 have hs4 : w3.cell? ⟨gb, 4, none⟩ = some (.slice A4 l.length c4) := (blk_cell BS3.out 4).trans rfl
 have hg4 := blk_frozen BS3.out 4
 have mixed : Tryz.prog.follows Departure.mixedOrders = true := by kernel_rfl
 go_region_with_o (go_at_call 84; refine (pairs_Set.calls A4 c4 l y.f1 y.f2 r _ (Kd.C_below HR.out (below_drew1 HB3.out)) HC.out HF.out).mono ?_; rintro e w4 ⟨v, rfl, hv, hb4⟩; obtain ⟨A5, c5, rfl⟩ := Kd.R_slice hv; have HV := am_ hv; have HB4 := am_ (below_step (below_drew1 HB3.out) hb4); have BS4 := am_ (blk_below (blk_drew BS3.out) hb4); have hs5 : w4.cell? ⟨gb, 4, none⟩ = some (.slice A4 l.length c4) := (blk_cell BS4.out 4).trans rfl; have hg5 := blk_frozen BS4.out 4; clear hv hb4)
 all_goals
  have BS5 := am_ (blk_put (cs' := #[.string m, .string h, .string p, q, .slice A5 r.length c5, .int .i64 k, .string s]) BS4.out 4 (.slice A5 r.length c5) rfl)
  have HV5 := am_ (Kd.V_far (p := ⟨gb, 4, none⟩) (Kd.R_V (base' := 0) (Kd.R_mono (Kd.R_bound HV.out) (ok' := fun k_ => W.heap.size ≤ k_) (fun _ hk => Nat.le_trans HB3.out.size hk.2.1))) (fun k_ hk => Nat.ne_of_gt (Nat.lt_of_lt_of_le (blk_lt BS0.out) hk)) (.slice A5 r.length c5))
  have HK5 := am_ (Kept.setCell (p := ⟨gb, 4, none⟩) (S := fun k_ => k_ = gb) (Kept.of_below HB4.out _) (.inl rfl) (.slice A5 r.length c5))
  go_wp2
  go_ret
  exact ⟨_, rfl, BS5.out, HV5.out, HK5.out, (below_step HW0.out HB4.out).setCell (p := ⟨gb, 4, none⟩) HGE.out _⟩
set_option maxHeartbeats 8000000 in
set_option maxRecDepth 100000 in
theorem filter_step_add_at (gb : Nat) (m h p : ByteArray) (q : Value) (A4 : Option Addr) (c4 : Nat) (k : Int) (s : ByteArray) (y : S26) (l r : List (S59)) (W : World) (hb : W.heap[gb]? = some (.cells #[.string m, .string h, .string p, q, .slice A4 l.length c4, .int .i64 k, .string s] 69 (0, 0))) (hr : Kd.C k59 W A4 l.length l) (hc : l.length ≤ c4) (w0 : World) (hw0 : Below w0.heap.size w0 W) (hge : w0.heap.size ≤ gb) (hf : pairs_Add.f l y.f1 y.f2 = some r) :
  Calls Tryz.prog 62 #[.pointer (some ⟨gb, 0, none⟩), .agg #[.int .i64 y.f0, .string y.f1, .string y.f2, .string y.f3, .int .i64 y.f4, .string y.f5, .bool y.f6, .int .i64 y.f7]] W fun e w' => ∃ v : Value, e = .returned (.int .i64 0) ∧ w'.heap[gb]? = some (.cells #[.string m, .string h, .string p, q, v, .int .i64 k, .string s] 69 (0, 0)) ∧ Kd.V k59 59 w' 0 (fun k_ => W.heap.size ≤ k_) v r ∧ Kept W w' (fun k_ => k_ = gb) ∧ Below w0.heap.size w0 w' := by
 have hu26 := Tryz.underlying26
 have hu33 := Tryz.underlying33
 have hu69 := Tryz.underlying69
 have HR := am_ hr
 have HC := am_ hc
 have HF := am_ hf
 have BS := am_ hb
 have BS0 := am_ hb
 have HW0 := am_ hw0
 have HGE := am_ hge
 clear hr hc hf hb hw0 hge
 go_enter Tryz.func62, Tryz.ntmps62
 go_upto_region 1 with (first | ((with_reducible refine gate_dst (N := 3) rfl ?_); refine box_event ?hg (N := 3) ?hd (cs := #[.int .i64 y.f0, .string y.f1, .string y.f2, .string y.f3, .int .i64 y.f4, .string y.f5, .bool y.f6, .int .i64 y.f7]) (t := 26) ?hr ?_; (case hd => rfl); (case hg => rfl); (case hr => first | (go_simp; done) | (go_simp; rfl)); intro gx hg w3 hbox hb3; have HGX := am_ (show W.heap.size ≤ gx from hg ▸ Nat.le_refl _); have HB3 := am_ hb3; have BX := am_ hbox; have BS3 := am_ (blk_below BS.out hb3); clear BS hb3 hbox hg))
 have hca_0 : w3.cell? ⟨gx, 0, none⟩ = some (.int .i64 y.f0) := (blk_cell BX.out 0).trans rfl
 have hca_1 : w3.cell? ⟨gx, 1, none⟩ = some (.string y.f1) := (blk_cell BX.out 1).trans rfl
 have hca_2 : w3.cell? ⟨gx, 2, none⟩ = some (.string y.f2) := (blk_cell BX.out 2).trans rfl
 have hca_3 : w3.cell? ⟨gx, 3, none⟩ = some (.string y.f3) := (blk_cell BX.out 3).trans rfl
 have hca_4 : w3.cell? ⟨gx, 4, none⟩ = some (.int .i64 y.f4) := (blk_cell BX.out 4).trans rfl
 have hca_5 : w3.cell? ⟨gx, 5, none⟩ = some (.string y.f5) := (blk_cell BX.out 5).trans rfl
 have hca_6 : w3.cell? ⟨gx, 6, none⟩ = some (.bool y.f6) := (blk_cell BX.out 6).trans rfl
 have hca_7 : w3.cell? ⟨gx, 7, none⟩ = some (.int .i64 y.f7) := (blk_cell BX.out 7).trans rfl
 have hfa_0 := blk_frozen BX.out 0
 have hfa_1 := blk_frozen BX.out 1
 have hfa_2 := blk_frozen BX.out 2
 have hfa_3 := blk_frozen BX.out 3
 have hfa_4 := blk_frozen BX.out 4
 have hfa_5 := blk_frozen BX.out 5
 have hfa_6 := blk_frozen BX.out 6
 have hfa_7 := blk_frozen BX.out 7
 have hs4 : w3.cell? ⟨gb, 4, none⟩ = some (.slice A4 l.length c4) := (blk_cell BS3.out 4).trans rfl
 have hg4 := blk_frozen BS3.out 4
 have mixed : Tryz.prog.follows Departure.mixedOrders = true := by kernel_rfl
 go_region_with_o (go_at_call 85; refine (pairs_Add.calls A4 c4 l y.f1 y.f2 r _ (Kd.C_below HR.out (below_drew1 HB3.out)) HC.out HF.out).mono ?_; rintro e w4 ⟨v, rfl, hv, hb4⟩; obtain ⟨A5, c5, rfl⟩ := Kd.R_slice hv; have HV := am_ hv; have HB4 := am_ (below_step (below_drew1 HB3.out) hb4); have BS4 := am_ (blk_below (blk_drew BS3.out) hb4); have hs5 : w4.cell? ⟨gb, 4, none⟩ = some (.slice A4 l.length c4) := (blk_cell BS4.out 4).trans rfl; have hg5 := blk_frozen BS4.out 4; clear hv hb4)
 all_goals
  have BS5 := am_ (blk_put (cs' := #[.string m, .string h, .string p, q, .slice A5 r.length c5, .int .i64 k, .string s]) BS4.out 4 (.slice A5 r.length c5) rfl)
  have HV5 := am_ (Kd.V_far (p := ⟨gb, 4, none⟩) (Kd.R_V (base' := 0) (Kd.R_mono (Kd.R_bound HV.out) (ok' := fun k_ => W.heap.size ≤ k_) (fun _ hk => Nat.le_trans HB3.out.size hk.2.1))) (fun k_ hk => Nat.ne_of_gt (Nat.lt_of_lt_of_le (blk_lt BS0.out) hk)) (.slice A5 r.length c5))
  have HK5 := am_ (Kept.setCell (p := ⟨gb, 4, none⟩) (S := fun k_ => k_ = gb) (Kept.of_below HB4.out _) (.inl rfl) (.slice A5 r.length c5))
  go_wp2
  go_ret
  exact ⟨_, rfl, BS5.out, HV5.out, HK5.out, (below_step HW0.out HB4.out).setCell (p := ⟨gb, 4, none⟩) HGE.out _⟩
set_option maxHeartbeats 8000000 in
set_option maxRecDepth 100000 in
theorem filter_step_drop_at (gb : Nat) (m h p : ByteArray) (q : Value) (A4 : Option Addr) (c4 : Nat) (k : Int) (s : ByteArray) (y : S26) (l r : List (S59)) (W : World) (hb : W.heap[gb]? = some (.cells #[.string m, .string h, .string p, q, .slice A4 l.length c4, .int .i64 k, .string s] 69 (0, 0))) (hr : Kd.C k59 W A4 l.length l) (hc : l.length ≤ c4) (w0 : World) (hw0 : Below w0.heap.size w0 W) (hge : w0.heap.size ≤ gb) (hf : pairs_Drop.f l y.f1 = some r) :
  Calls Tryz.prog 63 #[.pointer (some ⟨gb, 0, none⟩), .agg #[.int .i64 y.f0, .string y.f1, .string y.f2, .string y.f3, .int .i64 y.f4, .string y.f5, .bool y.f6, .int .i64 y.f7]] W fun e w' => ∃ v : Value, e = .returned (.int .i64 0) ∧ w'.heap[gb]? = some (.cells #[.string m, .string h, .string p, q, v, .int .i64 k, .string s] 69 (0, 0)) ∧ Kd.V k59 59 w' 0 (fun k_ => W.heap.size ≤ k_) v r ∧ Kept W w' (fun k_ => k_ = gb) ∧ Below w0.heap.size w0 w' := by
 have hu26 := Tryz.underlying26
 have hu33 := Tryz.underlying33
 have hu69 := Tryz.underlying69
 have HR := am_ hr
 have HC := am_ hc
 have HF := am_ hf
 have BS := am_ hb
 have BS0 := am_ hb
 have HW0 := am_ hw0
 have HGE := am_ hge
 clear hr hc hf hb hw0 hge
 go_enter Tryz.func63, Tryz.ntmps63
 go_upto_region 1 with (first | ((with_reducible refine gate_dst (N := 3) rfl ?_); refine box_event ?hg (N := 3) ?hd (cs := #[.int .i64 y.f0, .string y.f1, .string y.f2, .string y.f3, .int .i64 y.f4, .string y.f5, .bool y.f6, .int .i64 y.f7]) (t := 26) ?hr ?_; (case hd => rfl); (case hg => rfl); (case hr => first | (go_simp; done) | (go_simp; rfl)); intro gx hg w3 hbox hb3; have HGX := am_ (show W.heap.size ≤ gx from hg ▸ Nat.le_refl _); have HB3 := am_ hb3; have BX := am_ hbox; have BS3 := am_ (blk_below BS.out hb3); clear BS hb3 hbox hg))
 have hca_0 : w3.cell? ⟨gx, 0, none⟩ = some (.int .i64 y.f0) := (blk_cell BX.out 0).trans rfl
 have hca_1 : w3.cell? ⟨gx, 1, none⟩ = some (.string y.f1) := (blk_cell BX.out 1).trans rfl
 have hca_2 : w3.cell? ⟨gx, 2, none⟩ = some (.string y.f2) := (blk_cell BX.out 2).trans rfl
 have hca_3 : w3.cell? ⟨gx, 3, none⟩ = some (.string y.f3) := (blk_cell BX.out 3).trans rfl
 have hca_4 : w3.cell? ⟨gx, 4, none⟩ = some (.int .i64 y.f4) := (blk_cell BX.out 4).trans rfl
 have hca_5 : w3.cell? ⟨gx, 5, none⟩ = some (.string y.f5) := (blk_cell BX.out 5).trans rfl
 have hca_6 : w3.cell? ⟨gx, 6, none⟩ = some (.bool y.f6) := (blk_cell BX.out 6).trans rfl
 have hca_7 : w3.cell? ⟨gx, 7, none⟩ = some (.int .i64 y.f7) := (blk_cell BX.out 7).trans rfl
 have hfa_0 := blk_frozen BX.out 0
 have hfa_1 := blk_frozen BX.out 1
 have hfa_2 := blk_frozen BX.out 2
 have hfa_3 := blk_frozen BX.out 3
 have hfa_4 := blk_frozen BX.out 4
 have hfa_5 := blk_frozen BX.out 5
 have hfa_6 := blk_frozen BX.out 6
 have hfa_7 := blk_frozen BX.out 7
 have hs4 : w3.cell? ⟨gb, 4, none⟩ = some (.slice A4 l.length c4) := (blk_cell BS3.out 4).trans rfl
 have hg4 := blk_frozen BS3.out 4
 have mixed : Tryz.prog.follows Departure.mixedOrders = true := by kernel_rfl
 go_region_with_o (go_at_call 86; refine (pairs_Drop.calls A4 c4 l y.f1 r _ (Kd.C_below HR.out (below_drew1 HB3.out)) HC.out HF.out).mono ?_; rintro e w4 ⟨v, rfl, hv, hb4⟩; obtain ⟨A5, c5, rfl⟩ := Kd.R_slice hv; have HV := am_ hv; have HB4 := am_ (below_step (below_drew1 HB3.out) hb4); have BS4 := am_ (blk_below (blk_drew BS3.out) hb4); have hs5 : w4.cell? ⟨gb, 4, none⟩ = some (.slice A4 l.length c4) := (blk_cell BS4.out 4).trans rfl; have hg5 := blk_frozen BS4.out 4; clear hv hb4)
 all_goals
  have BS5 := am_ (blk_put (cs' := #[.string m, .string h, .string p, q, .slice A5 r.length c5, .int .i64 k, .string s]) BS4.out 4 (.slice A5 r.length c5) rfl)
  have HV5 := am_ (Kd.V_far (p := ⟨gb, 4, none⟩) (Kd.R_V (base' := 0) (Kd.R_mono (Kd.R_bound HV.out) (ok' := fun k_ => W.heap.size ≤ k_) (fun _ hk => Nat.le_trans HB3.out.size hk.2.1))) (fun k_ hk => Nat.ne_of_gt (Nat.lt_of_lt_of_le (blk_lt BS0.out) hk)) (.slice A5 r.length c5))
  have HK5 := am_ (Kept.setCell (p := ⟨gb, 4, none⟩) (S := fun k_ => k_ = gb) (Kept.of_below HB4.out _) (.inl rfl) (.slice A5 r.length c5))
  go_wp2
  go_ret
  exact ⟨_, rfl, BS5.out, HV5.out, HK5.out, (below_step HW0.out HB4.out).setCell (p := ⟨gb, 4, none⟩) HGE.out _⟩
set_option maxHeartbeats 8000000 in
set_option maxRecDepth 100000 in
theorem filter_step_away_at (gb : Nat) (y : S26) (W : World) :
  Calls Tryz.prog 64 #[.pointer (some ⟨gb, 0, none⟩), .agg #[.int .i64 y.f0, .string y.f1, .string y.f2, .string y.f3, .int .i64 y.f4, .string y.f5, .bool y.f6, .int .i64 y.f7]] W fun e w' => e = .returned (.int .i64 0) ∧ Below W.heap.size W w' := by
 have hu26 := Tryz.underlying26
 have BS := am_ (Nat.le_refl 0)
 go_enter Tryz.func64, Tryz.ntmps64
 go_upto_region 1 with (first | ((with_reducible refine gate_dst (N := 3) rfl ?_); refine box_event ?hg (N := 3) ?hd (cs := #[.int .i64 y.f0, .string y.f1, .string y.f2, .string y.f3, .int .i64 y.f4, .string y.f5, .bool y.f6, .int .i64 y.f7]) (t := 26) ?hr ?_; (case hd => rfl); (case hg => rfl); (case hr => first | (go_simp; done) | (go_simp; rfl)); intro gx hg w3 hbox hb3; have HB3 := am_ hb3; clear hb3 hbox hg))
 go_wp2
 go_ret
 exact ⟨rfl, HB3.out⟩
theorem cells7 {w : World} {g t : Nat} {c0 c1 c2 c3 c4 c5 c6 : Value} (h : w.heap[g]? = some (.cells #[c0, c1, c2, c3, c4, c5, c6] t (0, 0))) : w.cell? ⟨g, 0, none⟩ = some c0 ∧ w.cell? ⟨g, 1, none⟩ = some c1 ∧ w.cell? ⟨g, 2, none⟩ = some c2 ∧ w.cell? ⟨g, 3, none⟩ = some c3 ∧ w.cell? ⟨g, 4, none⟩ = some c4 ∧ w.cell? ⟨g, 5, none⟩ = some c5 ∧ w.cell? ⟨g, 6, none⟩ = some c6 ∧ ∀ i, w.frozen? ⟨g, i, none⟩ = false :=
 ⟨(blk_cell h 0).trans rfl, (blk_cell h 1).trans rfl, (blk_cell h 2).trans rfl, (blk_cell h 3).trans rfl, (blk_cell h 4).trans rfl, (blk_cell h 5).trans rfl, (blk_cell h 6).trans rfl, fun i => blk_frozen h i⟩
set_option maxHeartbeats 8000000 in
set_option maxRecDepth 100000 in
theorem filter_step_swap_at (kk gb : Nat) (m h p : ByteArray) (q hv : Value) (k : Int) (s : ByteArray) (y : S26) (h2 : ByteArray) (hh : h2 = if y.f3.toList = [] then h else y.f3) (r1 : ByteArray) (r2 : Int) (W : World) (hb : W.heap[gb]? = some (.cells #[.string m, .string h, .string p, q, hv, .int .i64 k, .string s] 69 (0, 0))) (w0 : World) (hw0 : Below w0.heap.size w0 W) (hge : w0.heap.size ≤ gb) (hf : filter_becomes.f kk y.f0 y.f1 y.f2 y.f3 y.f4 y.f5 y.f6 y.f7 k s p = some (r1, r2)) :
  Calls Tryz.prog 65 #[.pointer (some ⟨gb, 0, none⟩), .agg #[.int .i64 y.f0, .string y.f1, .string y.f2, .string y.f3, .int .i64 y.f4, .string y.f5, .bool y.f6, .int .i64 y.f7]] W fun e w' => e = .returned (.int .i64 r2) ∧ w'.heap[gb]? = some (.cells #[.string m, .string h2, .string r1, q, hv, .int .i64 k, .string s] 69 (0, 0)) ∧ Kept W w' (fun k_ => k_ = gb) ∧ Below w0.heap.size w0 w' := by
 have hu26 := Tryz.underlying26
 have hu30 := Tryz.underlying30
 have hu33 := Tryz.underlying33
 have hu69 := Tryz.underlying69
 have HF := am_ hf
 have BS := am_ hb
 have BS0 := am_ hb
 have HW0 := am_ hw0
 have HGE := am_ hge
 clear hf hb hw0 hge
 have mixed : Tryz.prog.follows Departure.mixedOrders = true := by kernel_rfl
 go_enter Tryz.func65, Tryz.ntmps65
 go_upto_region 1 with (first | ((with_reducible refine gate_dst (N := 3) rfl ?_); refine box_event ?hg (N := 3) ?hd (cs := #[.int .i64 y.f0, .string y.f1, .string y.f2, .string y.f3, .int .i64 y.f4, .string y.f5, .bool y.f6, .int .i64 y.f7]) (t := 26) ?hr ?_; (case hd => rfl); (case hg => rfl); (case hr => first | (go_simp; done) | (go_simp; rfl)); intro gx hg w3 hbox hb3; have HGX := am_ (show W.heap.size ≤ gx from hg ▸ Nat.le_refl _); have HB3 := am_ hb3; have BX := am_ hbox; have BS3 := am_ (blk_below BS.out hb3); clear BS hb3 hbox hg))
 have hca_0 : w3.cell? ⟨gx, 0, none⟩ = some (.int .i64 y.f0) := (blk_cell BX.out 0).trans rfl
 have hca_1 : w3.cell? ⟨gx, 1, none⟩ = some (.string y.f1) := (blk_cell BX.out 1).trans rfl
 have hca_2 : w3.cell? ⟨gx, 2, none⟩ = some (.string y.f2) := (blk_cell BX.out 2).trans rfl
 have hca_3 : w3.cell? ⟨gx, 3, none⟩ = some (.string y.f3) := (blk_cell BX.out 3).trans rfl
 have hca_4 : w3.cell? ⟨gx, 4, none⟩ = some (.int .i64 y.f4) := (blk_cell BX.out 4).trans rfl
 have hca_5 : w3.cell? ⟨gx, 5, none⟩ = some (.string y.f5) := (blk_cell BX.out 5).trans rfl
 have hca_6 : w3.cell? ⟨gx, 6, none⟩ = some (.bool y.f6) := (blk_cell BX.out 6).trans rfl
 have hca_7 : w3.cell? ⟨gx, 7, none⟩ = some (.int .i64 y.f7) := (blk_cell BX.out 7).trans rfl
 have hfa_0 := blk_frozen BX.out 0
 have hfa_1 := blk_frozen BX.out 1
 have hfa_2 := blk_frozen BX.out 2
 have hfa_3 := blk_frozen BX.out 3
 have hfa_4 := blk_frozen BX.out 4
 have hfa_5 := blk_frozen BX.out 5
 have hfa_6 := blk_frozen BX.out 6
 have hfa_7 := blk_frozen BX.out 7
 obtain ⟨hs0, hs1, hs2, hs3, hs4, hs5, hs6, hsf⟩ := cells7 BS3.out
 have hg1 := hsf 1
 clear hsf
 by_cases c : y.f3.toList = ([] : List UInt8)
 ·have c0 : (y.f3.toList == ([] : List UInt8)) = true := beq_iff_eq.mpr c
  have c1 : (y.f3.toList != ([] : List UInt8)) = false := bne_eq_false_iff_eq.mpr c
  rw [if_pos c] at hh
  subst hh
  clear c
  have BS4 := BS3
  have HK4 := am_ (Kept.of_below HB3.out (fun k_ => k_ = gb))
  have HB4 := am_ (below_step HW0.out HB3.out)
  go_upto_region 3 with fail
  go_region_with_o (go_at_call 48; refine (filter_becomes.calls kk y.f0 y.f1 y.f2 y.f3 y.f4 y.f5 y.f6 y.f7 k s p r1 r2 _ HF.out).mono ?_; rintro e w5 ⟨rfl, hb5⟩; have BS5 := am_ (blk_below (blk_drew BS4.out) hb5); have HK5 := am_ (Kept.below (Kept.drew HK4.out) hb5); have HB5 := am_ (below_step (below_drew1 HB4.out) hb5); have hs9 : w5.cell? ⟨gb, 2, none⟩ = some (.string p) := (blk_cell BS5.out 2).trans rfl; have hg9 := blk_frozen BS5.out 2; clear hb5)
  all_goals
   have BS6 := am_ (blk_put (cs' := #[.string m, .string h2, .string r1, q, hv, .int .i64 k, .string s]) BS5.out 2 (.string r1) rfl)
   have HK6 := am_ (Kept.setCell (p := ⟨gb, 2, none⟩) (S := fun k_ => k_ = gb) HK5.out (.inl rfl) (.string r1))
   have HB6 := am_ (HB5.out.setCell (p := ⟨gb, 2, none⟩) HGE.out (.string r1))
   go_wp2
   go_ret
   exact ⟨rfl, BS6.out, HK6.out, HB6.out⟩
 ·have c0 : (y.f3.toList == ([] : List UInt8)) = false := beq_eq_false_iff_ne.mpr c
  have c1 : (y.f3.toList != ([] : List UInt8)) = true := bne_iff_ne.mpr c
  rw [if_neg c] at hh
  subst hh
  clear c
  go_upto_region 3 with fail
  have BS4 := am_ (blk_put (cs' := #[.string m, .string y.f3, .string p, q, hv, .int .i64 k, .string s]) BS3.out 1 (.string y.f3) rfl)
  have BX4 := am_ (blk_far (p := ⟨gb, 1, none⟩) BX.out (Nat.ne_of_gt (Nat.lt_of_lt_of_le (blk_lt BS0.out) HGX.out)) (.string y.f3))
  have HK4 := am_ (Kept.setCell (p := ⟨gb, 1, none⟩) (S := fun k_ => k_ = gb) (Kept.of_below HB3.out _) (.inl rfl) (.string y.f3))
  have HB4 := am_ ((below_step HW0.out HB3.out).setCell (p := ⟨gb, 1, none⟩) HGE.out (.string y.f3))
  clear hs0 hs1 hs2 hs3 hs4 hs5 hs6 hg1 hca_0 hfa_0 hca_1 hfa_1 hca_2 hfa_2 hca_3 hfa_3 hca_4 hfa_4 hca_5 hfa_5 hca_6 hfa_6 hca_7 hfa_7
  generalize w3.setCell ⟨gb, 1, none⟩ (.string y.f3) = w4 at BS4 BX4 HK4 HB4 ⊢
  have hcb_0 : w4.cell? ⟨gx, 0, none⟩ = some (.int .i64 y.f0) := (blk_cell BX4.out 0).trans rfl
  have hcb_1 : w4.cell? ⟨gx, 1, none⟩ = some (.string y.f1) := (blk_cell BX4.out 1).trans rfl
  have hcb_2 : w4.cell? ⟨gx, 2, none⟩ = some (.string y.f2) := (blk_cell BX4.out 2).trans rfl
  have hcb_3 : w4.cell? ⟨gx, 3, none⟩ = some (.string y.f3) := (blk_cell BX4.out 3).trans rfl
  have hcb_4 : w4.cell? ⟨gx, 4, none⟩ = some (.int .i64 y.f4) := (blk_cell BX4.out 4).trans rfl
  have hcb_5 : w4.cell? ⟨gx, 5, none⟩ = some (.string y.f5) := (blk_cell BX4.out 5).trans rfl
  have hcb_6 : w4.cell? ⟨gx, 6, none⟩ = some (.bool y.f6) := (blk_cell BX4.out 6).trans rfl
  have hcb_7 : w4.cell? ⟨gx, 7, none⟩ = some (.int .i64 y.f7) := (blk_cell BX4.out 7).trans rfl
  have hfb_0 := blk_frozen BX4.out 0
  have hfb_1 := blk_frozen BX4.out 1
  have hfb_2 := blk_frozen BX4.out 2
  have hfb_3 := blk_frozen BX4.out 3
  have hfb_4 := blk_frozen BX4.out 4
  have hfb_5 := blk_frozen BX4.out 5
  have hfb_6 := blk_frozen BX4.out 6
  have hfb_7 := blk_frozen BX4.out 7
  obtain ⟨hs0, hs1, hs2, hs3, hs4, hs5, hs6, hsf⟩ := cells7 BS4.out
  clear hsf
  go_region_with_o (go_at_call 48; refine (filter_becomes.calls kk y.f0 y.f1 y.f2 y.f3 y.f4 y.f5 y.f6 y.f7 k s p r1 r2 _ HF.out).mono ?_; rintro e w5 ⟨rfl, hb5⟩; have BS5 := am_ (blk_below (blk_drew BS4.out) hb5); have HK5 := am_ (Kept.below (Kept.drew HK4.out) hb5); have HB5 := am_ (below_step (below_drew1 HB4.out) hb5); have hs9 : w5.cell? ⟨gb, 2, none⟩ = some (.string p) := (blk_cell BS5.out 2).trans rfl; have hg9 := blk_frozen BS5.out 2; clear hb5)
  all_goals
   have BS6 := am_ (blk_put (cs' := #[.string m, .string y.f3, .string r1, q, hv, .int .i64 k, .string s]) BS5.out 2 (.string r1) rfl)
   have HK6 := am_ (Kept.setCell (p := ⟨gb, 2, none⟩) (S := fun k_ => k_ = gb) HK5.out (.inl rfl) (.string r1))
   have HB6 := am_ (HB5.out.setCell (p := ⟨gb, 2, none⟩) HGE.out (.string r1))
   go_wp2
   go_ret
   exact ⟨rfl, BS6.out, HK6.out, HB6.out⟩
theorem cells5 {w : World} {g t : Nat} {c0 c1 c2 c3 c4 : Value} (h : w.heap[g]? = some (.cells #[c0, c1, c2, c3, c4] t (0, 0))) : w.cell? ⟨g, 0, none⟩ = some c0 ∧ w.cell? ⟨g, 1, none⟩ = some c1 ∧ w.cell? ⟨g, 2, none⟩ = some c2 ∧ w.cell? ⟨g, 3, none⟩ = some c3 ∧ w.cell? ⟨g, 4, none⟩ = some c4 ∧ ∀ i, w.frozen? ⟨g, i, none⟩ = false :=
 ⟨(blk_cell h 0).trans rfl, (blk_cell h 1).trans rfl, (blk_cell h 2).trans rfl, (blk_cell h 3).trans rfl, (blk_cell h 4).trans rfl, fun i => blk_frozen h i⟩
theorem put5F {w : World} {p t : Nat} {c0 c1 c2 c3 c4 : Value} (h : w.heap[p]? = some (.cells #[c0, c1, c2, c3, c4] t (0, 0))) (v0 v1 v2 v3 v4 : Value) :
  (((((w.setCell ⟨p, 0, none⟩ v0).setCell ⟨p, 1, none⟩ v1).setCell ⟨p, 2, none⟩ v2).setCell ⟨p, 3, none⟩ v3).setCell ⟨p, 4, none⟩ v4).heap[p]? = some (.cells #[v0, v1, v2, v3, v4] t (0, 0)) ∧
  ∀ k, k ≠ p → (((((w.setCell ⟨p, 0, none⟩ v0).setCell ⟨p, 1, none⟩ v1).setCell ⟨p, 2, none⟩ v2).setCell ⟨p, 3, none⟩ v3).setCell ⟨p, 4, none⟩ v4).heap[k]? = w.heap[k]? := by
 refine ⟨blk_put (cs := #[v0, v1, v2, v3, c4]) (blk_put (cs := #[v0, v1, v2, c3, c4]) (blk_put (cs := #[v0, v1, c2, c3, c4]) (blk_put (cs := #[v0, c1, c2, c3, c4]) (blk_put (cs := #[c0, c1, c2, c3, c4]) h 0 v0 rfl) 1 v1 rfl) 2 v2 rfl) 3 v3 rfl) 4 v4 rfl, fun k hk => ?_⟩
 rw [Below.heap_setCell _ _ _ k hk, Below.heap_setCell _ _ _ k hk, Below.heap_setCell _ _ _ k hk, Below.heap_setCell _ _ _ k hk, Below.heap_setCell _ _ _ k hk]
theorem map_at {w w' : World} {P : Program} {k b n : Nat} {R : Value → Option (DataW Unit × List MemPlace)} {D : DataW Unit} (h : w.ownsMap P k R b n D) (he : w'.heap[b]? = w.heap[b]?) : w'.ownsMap P k R b n D := by
 obtain ⟨es, c, h1, h2⟩ := h
 exact ⟨es, c, he.trans h1, h2⟩
set_option maxHeartbeats 8000000 in
set_option maxRecDepth 100000 in
theorem filter_Do.calls (k : Nat) (A0 : Option Addr) (c0 : Nat) (l0 : List (S26)) (pa : Int) (pb : ByteArray) (pd : ByteArray) (ph : ByteArray) (pg : ByteArray) (P2_3_ : Nat → Prop) (pe : Option Addr) (c2_3 : Nat) (pc : List (S59)) (P2_4_ : Nat → Prop) (pi : Option Addr) (c2_4 : Nat) (pf : List (S59)) (r1 : ByteArray) (r2 : ByteArray) (r3 : ByteArray) (r4 : List (S59)) (r5 : List (S59)) (r6 : Int) (w : World) (hr0 : Kd.C k26 w A0 l0.length l0) (hc0 : l0.length ≤ c0) (hs2_3 : Kd.V k59 59 w w.heap.size (fun k_ => P2_3_ k_) (.slice pe pc.length c2_3) pc) (hs2_4 : Kd.V k59 59 w w.heap.size (fun k_ => P2_4_ k_) (.slice pi pf.length c2_4) pf) (h : filter_Do.f k l0 pa pb pd ph pg pc pf = some (r1, r2, r3, r4, r5, r6)) :
 Calls Tryz.prog 17 #[.slice A0 l0.length c0, .agg #[.int .i64 pa, .string pb], .agg #[.string pd, .string ph, .string pg, .slice pe pc.length c2_3, .slice pi pf.length c2_4]] w fun e w' => ∃ v3_ v4_ : Value, e = .returned (.tuple #[.agg #[.string r1, .string r2, .string r3, v3_, v4_], .int .i64 r6]) ∧ Kd.V k59 59 w' w.heap.size (fun k_ => ((P2_3_ k_ ∨ P2_4_ k_) ∨ w.heap.size ≤ k_)) v3_ r4 ∧ Kd.V k59 59 w' w.heap.size (fun k_ => ((P2_3_ k_ ∨ P2_4_ k_) ∨ w.heap.size ≤ k_)) v4_ r5 ∧ Below w.heap.size w w' := by
 have hu26 := Tryz.underlying26
 have hu30 := Tryz.underlying30
 have hu33 := Tryz.underlying33
 have hu69 := Tryz.underlying69
 have HR := am_ hr0
 have HC := am_ hc0
 have HQ := am_ hs2_3
 have HH := am_ hs2_4
 rw [filter_Do.f] at h
 obtain ⟨a, ha, h⟩ := Option.bind_eq_some_iff.1 h
 have HA := am_ ha
 have H1 := am_ h
 have HB := am_ (Below.refl w.heap.size w)
 have hmx := hr0.2.1
 clear hr0 hc0 hs2_3 hs2_4 h ha
 go_enter Tryz.func17, Tryz.ntmps17
 go_upto_region 1 with (first | ((with_reducible refine gate_dst (N := 4) rfl ?_); refine box_event ?hg (N := 4) ?hd (cs := #[.int .i64 pa, .string pb]) (t := 30) ?hr ?_; (case hd => rfl); (case hg => rfl); (case hr => first | (go_simp; done) | (go_simp; rfl)); intro gp hg wa hbox hb; have HBa := am_ hb; have BPa := am_ hbox; clear hb hbox hg) | ((with_reducible refine gate_dst (N := 5) rfl ?_); refine box_event ?hg (N := 5) ?hd (cs := #[.string pd, .string ph, .string pg, .slice pe pc.length c2_3, .slice pi pf.length c2_4]) (t := 33) ?hr ?_; (case hd => rfl); (case hg => rfl); (case hr => first | (go_simp; done) | (go_simp; rfl)); intro gr hg wb hbox hb; have HBb := am_ (below_step HBa.out hb); have BPb := am_ (blk_below BPa.out hb); have BRb := am_ hbox; clear hb hbox hg) | ((with_reducible refine gate_dst (N := 6) rfl ?_); refine box_event ?hg (N := 6) ?hd (cs := #[.string (⟨#[]⟩ : ByteArray), .string (⟨#[]⟩ : ByteArray), .string (⟨#[]⟩ : ByteArray), .slice none 0 0, .slice none 0 0]) (t := 33) ?hr ?_; (case hd => rfl); (case hg => rfl); (case hr => first | (go_simp; done) | (go_simp; rfl)); intro gz hg wc hbox hb; have GZ := am_ (show w.heap.size ≤ gz from hg ▸ HBb.out.size); have HBc := am_ (below_step HBb.out hb); have BPc := am_ (blk_below BPb.out hb); have BRc := am_ (blk_below BRb.out hb); have BZc := am_ hbox; clear hb hbox hg))
 obtain ⟨hr0, hr1, hr2, hr3, hr4, hrf⟩ := cells5 BRc.out
 clear hrf
 have hp0 : wc.cell? ⟨gp, 0, none⟩ = some (.int .i64 pa) := (blk_cell BPc.out 0).trans rfl
 have hp1 : wc.cell? ⟨gp, 1, none⟩ = some (.string pb) := (blk_cell BPc.out 1).trans rfl
 go_wp2_with fail
 refine (filter_All.calls k A0 c0 l0 a _ (Kd.C_below HR.out HBc.out) HC.out HA.out).mono ?_
 rintro e wd ⟨rfl, hb⟩
 have HBd := am_ (below_step HBc.out hb)
 have BPd := am_ (blk_below BPc.out hb)
 have BRd := am_ (blk_below BRc.out hb)
 have BZd := am_ (blk_below BZc.out hb)
 clear hb hr0 hr1 hr2 hr3 hr4 hp0 hp1 BPa BPb BRb BPc BRc BZc HBa HBb HBc HB
 obtain ⟨hr0, hr1, hr2, hr3, hr4, hrf⟩ := cells5 BRd.out
 clear hrf
 have hp0 : wd.cell? ⟨gp, 0, none⟩ = some (.int .i64 pa) := (blk_cell BPd.out 0).trans rfl
 have hp1 : wd.cell? ⟨gp, 1, none⟩ = some (.string pb) := (blk_cell BPd.out 1).trans rfl
 cases a with
 | false =>
  have h1 := H1.out
  rw [if_neg (by decide)] at h1
  simp only [Option.some.injEq, Prod.mk.injEq] at h1
  obtain ⟨rfl, rfl, rfl, rfl, rfl, rfl⟩ := h1
  obtain ⟨hz0, hz1, hz2, hz3, hz4, hzf⟩ := cells5 BZd.out
  have hzf0 := hzf 0
  have hzf1 := hzf 1
  have hzf2 := hzf 2
  have hzf3 := hzf 3
  have hzf4 := hzf 4
  clear hzf
  have hend := am_ (put5F BZd.out (.string (⟨#[]⟩ : ByteArray)) (.string (⟨#[]⟩ : ByteArray)) (.string (⟨#[]⟩ : ByteArray)) (.slice none 0 0) (.slice none 0 0))
  go_wp2
  refine bodyPost_ret (results_ct rfl _ _ gz 33 #[.string (⟨#[]⟩ : ByteArray), .string (⟨#[]⟩ : ByteArray), .string (⟨#[]⟩ : ByteArray), .slice none 0 0, .slice none 0 0] (0, 0) _ rfl (by exact hend.out.1) Tryz.underlying33 rfl kr_) rfl ?_
  exact ⟨_, _, rfl, Kd.V_nil _ _ _ _ _, Kd.V_nil _ _ _ _ _, ((((HBd.out.setCell (p := ⟨gz, 0, none⟩) GZ.out _).setCell (p := ⟨gz, 1, none⟩) GZ.out _).setCell (p := ⟨gz, 2, none⟩) GZ.out _).setCell (p := ⟨gz, 3, none⟩) GZ.out _).setCell (p := ⟨gz, 4, none⟩) GZ.out _⟩
 | true =>
  have h1 := H1.out
  rw [if_pos rfl] at h1
  obtain ⟨b, hb', h2⟩ := Option.bind_eq_some_iff.1 h1
  have HP := am_ hb'
  have H2 := am_ h2
  clear h1 hb' h2 H1
  go_wp2_with fail
  refine (path_Holds.calls k pa pb pg b _ HP.out).mono ?_
  rintro e we ⟨rfl, hb⟩
  have HBe := am_ (below_step HBd.out hb)
  have BPe := am_ (blk_below BPd.out hb)
  have BRe := am_ (blk_below BRd.out hb)
  have BZe := am_ (blk_below BZd.out hb)
  clear hb hr0 hr1 hr2 hr3 hr4 hp0 hp1 BPd BRd BZd HBd
  cases b with
  | false =>
   have h1 := H2.out
   rw [if_neg (by decide)] at h1
   simp only [Option.some.injEq, Prod.mk.injEq] at h1
   obtain ⟨rfl, rfl, rfl, rfl, rfl, rfl⟩ := h1
   obtain ⟨hz0, hz1, hz2, hz3, hz4, hzf⟩ := cells5 BZe.out
   have hzf0 := hzf 0
   have hzf1 := hzf 1
   have hzf2 := hzf 2
   have hzf3 := hzf 3
   have hzf4 := hzf 4
   clear hzf
   have hend := am_ (put5F BZe.out (.string (⟨#[]⟩ : ByteArray)) (.string (⟨#[]⟩ : ByteArray)) (.string (⟨#[]⟩ : ByteArray)) (.slice none 0 0) (.slice none 0 0))
   go_wp2
   refine bodyPost_ret (results_ct rfl _ _ gz 33 #[.string (⟨#[]⟩ : ByteArray), .string (⟨#[]⟩ : ByteArray), .string (⟨#[]⟩ : ByteArray), .slice none 0 0, .slice none 0 0] (0, 0) _ rfl (by exact hend.out.1) Tryz.underlying33 rfl kr_) rfl ?_
   exact ⟨_, _, rfl, Kd.V_nil _ _ _ _ _, Kd.V_nil _ _ _ _ _, ((((HBe.out.setCell (p := ⟨gz, 0, none⟩) GZ.out _).setCell (p := ⟨gz, 1, none⟩) GZ.out _).setCell (p := ⟨gz, 2, none⟩) GZ.out _).setCell (p := ⟨gz, 3, none⟩) GZ.out _).setCell (p := ⟨gz, 4, none⟩) GZ.out _⟩
  | true =>
   have h1 := H2.out
   rw [if_pos rfl] at h1
   have H3 := am_ h1
   clear h1 H2
   obtain ⟨hr0, hr1, hr2, hr3, hr4, hrf⟩ := cells5 BRe.out
   clear hrf
   have hp0 : we.cell? ⟨gp, 0, none⟩ = some (.int .i64 pa) := (blk_cell BPe.out 0).trans rfl
   have hp1 : we.cell? ⟨gp, 1, none⟩ = some (.string pb) := (blk_cell BPe.out 1).trans rfl
   go_upto_region 4 with ((with_reducible refine gate_dst (N := 27) rfl ?_); refine box_event ?hg (N := 27) ?hd (cs := #[.string pd, .string ph, .string pg, .slice pe pc.length c2_3, .slice pi pf.length c2_4, .int .i64 pa, .string pb]) (t := 69) ?hr ?_; (case hd => rfl); (case hg => rfl); (case hr => first | (go_simp; done) | (go_simp; rfl)); intro gs hg wf hbox hb; have GS := am_ (show w.heap.size ≤ gs from hg ▸ HBe.out.size); have NZS := am_ (show gz ≠ gs from by rw [hg]; exact Nat.ne_of_lt (blk_lt BZe.out)); have HBf := am_ (below_step HBe.out hb); have BZf := am_ (blk_below BZe.out hb); have BSf := am_ hbox; clear hb hbox hg)
   clear hr0 hr1 hr2 hr3 hr4 hp0 hp1 BPe BRe BZe HBe
   go_wp2_with fail
   refine (filter_does.calls _).mono ?_
   rintro e wg ⟨gm, rfl, hgm, hb, hmap⟩
   have HM := am_ hmap
   have GM := am_ (show gm ≠ gs from Nat.ne_of_gt (Nat.lt_of_lt_of_le (blk_lt BSf.out) hgm))
   have HBg := am_ (below_step HBf.out hb)
   have BZg := am_ (blk_below BZf.out hb)
   have BSg := am_ (blk_below BSf.out hb)
   clear hb hmap hgm BZf BSf HBf
   have HV0 : Aside0 (Kd.V k59 59 wg w.heap.size (fun k_ => (P2_4_ k_ ∨ w.heap.size ≤ k_) ∧ k_ ≠ gs ∧ k_ ≠ gz) (.slice pi pf.length c2_4) pf) := am_ (Kd.V_mono (Kd.V_below (Kd.V_bound HH.out) HBg.out) (fun k_ hk => ⟨.inl hk.1, Nat.ne_of_lt (Nat.lt_of_lt_of_le hk.2 GS.out), Nat.ne_of_lt (Nat.lt_of_lt_of_le hk.2 GZ.out)⟩))
   go_wp2
   go_loopg [31] l0.length (fun gg s31 wr => ∃ (kk : Nat) (hh pp : ByteArray) (v4 : Value) (l4 : List (S59)), kk ≤ l0.length ∧ l0.length - kk ≤ gg ∧ s31 = .int .i64 kk ∧ Aside0 (Below w.heap.size w wr) ∧ Aside0 (wr.heap[gz]? = some (.cells #[.string (⟨#[]⟩ : ByteArray), .string (⟨#[]⟩ : ByteArray), .string (⟨#[]⟩ : ByteArray), .slice none 0 0, .slice none 0 0] 33 (0, 0))) ∧ Aside0 (wr.heap[gs]? = some (.cells #[.string pd, .string hh, .string pp, .slice pe pc.length c2_3, v4, .int .i64 pa, .string pb] 69 (0, 0))) ∧ Aside0 (Kd.V k59 59 wr w.heap.size (fun k_ => (P2_4_ k_ ∨ w.heap.size ≤ k_) ∧ k_ ≠ gs ∧ k_ ≠ gz) v4 l4) ∧ Aside0 (wr.ownsMap Tryz.prog 3 fnElem gm 5 doesD) ∧ Aside0 (filter_Do.go k pa pb pd pc (hh, pp, l4) (l0.drop kk) = some (r1, r2, r3, r4, r5, r6)))
   case atStart => exact ⟨0, ph, pg, _, pf, Nat.zero_le _, by omega, rfl, HBg, BZg, BSg, HV0, HM, ⟨by rw [List.drop_zero]; exact H3.out⟩⟩
   case round =>
    obtain ⟨kk, hh, pp, v4, l4, hkk, hg, rfl, BW, BZ, BS, HV, HMr, HK⟩ := hrel
    clear H3 HV0 HBg BZg BSg HM
    by_cases hlt : kk < l0.length
    ·have p1 : (0 : Int) ≤ (kk : Int) := by omega
     have q1 : (kk : Int) < (l0.length : Int) := by omega
     obtain ⟨ad, ea, hx_0, hx_1, hx_2, hx_3, hx_4, hx_5, hx_6, hx_7⟩ := at_T26 HR.out (kk : Int) p1 q1
     cases ea
     replace hx_0 := (BW.out.cell (World.block_lt_of_cell? w _ hx_0)).trans hx_0
     replace hx_1 := (BW.out.cell (World.block_lt_of_cell? w _ hx_1)).trans hx_1
     replace hx_2 := (BW.out.cell (World.block_lt_of_cell? w _ hx_2)).trans hx_2
     replace hx_3 := (BW.out.cell (World.block_lt_of_cell? w _ hx_3)).trans hx_3
     replace hx_4 := (BW.out.cell (World.block_lt_of_cell? w _ hx_4)).trans hx_4
     replace hx_5 := (BW.out.cell (World.block_lt_of_cell? w _ hx_5)).trans hx_5
     replace hx_6 := (BW.out.cell (World.block_lt_of_cell? w _ hx_6)).trans hx_6
     replace hx_7 := (BW.out.cell (World.block_lt_of_cell? w _ hx_7)).trans hx_7
     simp only [Int.toNat_natCast] at hx_0 hx_1 hx_2 hx_3 hx_4 hx_5 hx_6 hx_7
     have hy0 : rd_T26 l0 (kk : Int) = l0[kk]'hlt := by
      unfold rd_T26
      rw [Int.toNat_natCast, getD_at _ _ hlt]
     have hdk : l0.drop kk = rd_T26 l0 (kk : Int) :: l0.drop (kk + 1) := by rw [hy0]; exact List.drop_eq_getElem_cons hlt
     have hk1 := HK.out
     rw [hdk] at hk1
     clear hy0 hdk HK
     generalize rd_T26 l0 (kk : Int) = y at *
     rw [filter_Do.go] at hk1
     obtain ⟨⟨⟨h', p', l'⟩, er⟩, hz, hk2⟩ := Option.bind_eq_some_iff.1 hk1
     have HZ := am_ hz
     have HK2 : Aside0 ((if er = 0 then filter_Do.go k pa pb pd pc (h', p', l') (l0.drop (kk + 1)) else some ((⟨#[]⟩ : ByteArray), (⟨#[]⟩ : ByteArray), (⟨#[]⟩ : ByteArray), [], [], er)) = some (r1, r2, r3, r4, r5, r6)) := am_ hk2
     clear hk1 hz hk2
     replace p1 := eq_true p1
     replace q1 := eq_true q1
     go_upto_region 8 with (first | ((with_reducible refine gate_dst (N := 11) rfl ?_); refine box_event ?hg (N := 11) ?hd (cs := #[.int .i64 0, .string ⟨#[]⟩, .string ⟨#[]⟩, .string ⟨#[]⟩, .int .i64 0, .string ⟨#[]⟩, .bool false, .int .i64 0]) (t := 26) ?hr ?_; (case hd => rfl); (case hg => rfl); (case hr => first | (go_simp; done) | (go_simp; rfl)); intro gb hg3 w3 hbox hb3; have hgw := am_ (show wr.heap.size ≤ gb from hg3 ▸ Nat.le_refl _); have BX := am_ hbox; have HB3 := am_ hb3; clear hb3 hbox hg3; replace hx_0 := (HB3.out.cell (World.block_lt_of_cell? _ _ hx_0)).trans hx_0; replace hx_1 := (HB3.out.cell (World.block_lt_of_cell? _ _ hx_1)).trans hx_1; replace hx_2 := (HB3.out.cell (World.block_lt_of_cell? _ _ hx_2)).trans hx_2; replace hx_3 := (HB3.out.cell (World.block_lt_of_cell? _ _ hx_3)).trans hx_3; replace hx_4 := (HB3.out.cell (World.block_lt_of_cell? _ _ hx_4)).trans hx_4; replace hx_5 := (HB3.out.cell (World.block_lt_of_cell? _ _ hx_5)).trans hx_5; replace hx_6 := (HB3.out.cell (World.block_lt_of_cell? _ _ hx_6)).trans hx_6; replace hx_7 := (HB3.out.cell (World.block_lt_of_cell? _ _ hx_7)).trans hx_7; have hcz_0 : w3.cell? ⟨gb, 0, none⟩ = some (.int .i64 0) := (blk_cell BX.out 0).trans rfl; have hfz_0 := blk_frozen BX.out 0; have hcz_1 : w3.cell? ⟨gb, 1, none⟩ = some (.string ⟨#[]⟩) := (blk_cell BX.out 1).trans rfl; have hfz_1 := blk_frozen BX.out 1; have hcz_2 : w3.cell? ⟨gb, 2, none⟩ = some (.string ⟨#[]⟩) := (blk_cell BX.out 2).trans rfl; have hfz_2 := blk_frozen BX.out 2; have hcz_3 : w3.cell? ⟨gb, 3, none⟩ = some (.string ⟨#[]⟩) := (blk_cell BX.out 3).trans rfl; have hfz_3 := blk_frozen BX.out 3; have hcz_4 : w3.cell? ⟨gb, 4, none⟩ = some (.int .i64 0) := (blk_cell BX.out 4).trans rfl; have hfz_4 := blk_frozen BX.out 4; have hcz_5 : w3.cell? ⟨gb, 5, none⟩ = some (.string ⟨#[]⟩) := (blk_cell BX.out 5).trans rfl; have hfz_5 := blk_frozen BX.out 5; have hcz_6 : w3.cell? ⟨gb, 6, none⟩ = some (.bool false) := (blk_cell BX.out 6).trans rfl; have hfz_6 := blk_frozen BX.out 6; have hcz_7 : w3.cell? ⟨gb, 7, none⟩ = some (.int .i64 0) := (blk_cell BX.out 7).trans rfl; have hfz_7 := blk_frozen BX.out 7))
     have BX4 := am_ (blk_put (cs' := #[.int .i64 y.f0, .string y.f1, .string y.f2, .string y.f3, .int .i64 y.f4, .string y.f5, .bool y.f6, .int .i64 y.f7]) (blk_put (cs' := #[.int .i64 y.f0, .string y.f1, .string y.f2, .string y.f3, .int .i64 y.f4, .string y.f5, .bool y.f6, .int .i64 0]) (blk_put (cs' := #[.int .i64 y.f0, .string y.f1, .string y.f2, .string y.f3, .int .i64 y.f4, .string y.f5, .bool false, .int .i64 0]) (blk_put (cs' := #[.int .i64 y.f0, .string y.f1, .string y.f2, .string y.f3, .int .i64 y.f4, .string ⟨#[]⟩, .bool false, .int .i64 0]) (blk_put (cs' := #[.int .i64 y.f0, .string y.f1, .string y.f2, .string y.f3, .int .i64 0, .string ⟨#[]⟩, .bool false, .int .i64 0]) (blk_put (cs' := #[.int .i64 y.f0, .string y.f1, .string y.f2, .string ⟨#[]⟩, .int .i64 0, .string ⟨#[]⟩, .bool false, .int .i64 0]) (blk_put (cs' := #[.int .i64 y.f0, .string y.f1, .string ⟨#[]⟩, .string ⟨#[]⟩, .int .i64 0, .string ⟨#[]⟩, .bool false, .int .i64 0]) (blk_put (cs' := #[.int .i64 y.f0, .string ⟨#[]⟩, .string ⟨#[]⟩, .string ⟨#[]⟩, .int .i64 0, .string ⟨#[]⟩, .bool false, .int .i64 0]) BX.out 0 (.int .i64 y.f0) rfl) 1 (.string y.f1) rfl) 2 (.string y.f2) rfl) 3 (.string y.f3) rfl) 4 (.int .i64 y.f4) rfl) 5 (.string y.f5) rfl) 6 (.bool y.f6) rfl) 7 (.int .i64 y.f7) rfl)
     have HB4 := am_ ((((((((HB3.out.setCell (p := ⟨gb, 0, none⟩) hgw.out (.int .i64 y.f0)).setCell (p := ⟨gb, 1, none⟩) hgw.out (.string y.f1)).setCell (p := ⟨gb, 2, none⟩) hgw.out (.string y.f2)).setCell (p := ⟨gb, 3, none⟩) hgw.out (.string y.f3)).setCell (p := ⟨gb, 4, none⟩) hgw.out (.int .i64 y.f4)).setCell (p := ⟨gb, 5, none⟩) hgw.out (.string y.f5)).setCell (p := ⟨gb, 6, none⟩) hgw.out (.bool y.f6)).setCell (p := ⟨gb, 7, none⟩) hgw.out (.int .i64 y.f7))
     generalize ((((((((w3.setCell ⟨gb, 0, none⟩ (.int .i64 y.f0)).setCell ⟨gb, 1, none⟩ (.string y.f1)).setCell ⟨gb, 2, none⟩ (.string y.f2)).setCell ⟨gb, 3, none⟩ (.string y.f3)).setCell ⟨gb, 4, none⟩ (.int .i64 y.f4)).setCell ⟨gb, 5, none⟩ (.string y.f5)).setCell ⟨gb, 6, none⟩ (.bool y.f6)).setCell ⟨gb, 7, none⟩ (.int .i64 y.f7)) = W4 at BX4 HB4 ⊢
     clear hcz_0 hfz_0 hcz_1 hfz_1 hcz_2 hfz_2 hcz_3 hfz_3 hcz_4 hfz_4 hcz_5 hfz_5 hcz_6 hfz_6 hcz_7 hfz_7 hx_0 hx_1 hx_2 hx_3 hx_4 hx_5 hx_6 hx_7
     have HBW := am_ (below_step BW.out HB4.out)
     have BZ4 := am_ (blk_below BZ.out HB4.out)
     have BS4 := am_ (blk_below BS.out HB4.out)
     have HV4 := am_ (Kd.V_below HV.out HB4.out)
     have HM4 := am_ (map_at HMr.out (HB4.out.block _ HMr.out.lt))
     clear BW BZ BS HV HMr hgw BX HB3 HB4
     have hca_0 : W4.cell? ⟨gb, 0, none⟩ = some (.int .i64 y.f0) := (blk_cell BX4.out 0).trans rfl
     have hca_1 : W4.cell? ⟨gb, 1, none⟩ = some (.string y.f1) := (blk_cell BX4.out 1).trans rfl
     have hca_2 : W4.cell? ⟨gb, 2, none⟩ = some (.string y.f2) := (blk_cell BX4.out 2).trans rfl
     have hca_3 : W4.cell? ⟨gb, 3, none⟩ = some (.string y.f3) := (blk_cell BX4.out 3).trans rfl
     have hca_4 : W4.cell? ⟨gb, 4, none⟩ = some (.int .i64 y.f4) := (blk_cell BX4.out 4).trans rfl
     have hca_5 : W4.cell? ⟨gb, 5, none⟩ = some (.string y.f5) := (blk_cell BX4.out 5).trans rfl
     have hca_6 : W4.cell? ⟨gb, 6, none⟩ = some (.bool y.f6) := (blk_cell BX4.out 6).trans rfl
     have hca_7 : W4.cell? ⟨gb, 7, none⟩ = some (.int .i64 y.f7) := (blk_cell BX4.out 7).trans rfl
     have hfa_0 := blk_frozen BX4.out 0
     have hfa_1 := blk_frozen BX4.out 1
     have hfa_2 := blk_frozen BX4.out 2
     have hfa_3 := blk_frozen BX4.out 3
     have hfa_4 := blk_frozen BX4.out 4
     have hfa_5 := blk_frozen BX4.out 5
     have hfa_6 := blk_frozen BX4.out 6
     have hfa_7 := blk_frozen BX4.out 7
     obtain ⟨A4, c4, rfl⟩ := Kd.V_slice HV4.out
     have hr4 : Kd.C k59 W4 A4 l4.length l4 := (Kd.V_reads' HV4.out).2.2
     have hc4 : l4.length ≤ c4 := (Kd.V_reads' HV4.out).2.1
     have HR4 := am_ hr4
     have HC4 := am_ hc4
     clear hr4 hc4
     have hz := HZ.out
     rw [filter_step.f] at hz
     dsimp only at hz
     clear HZ
     by_cases h1 : y.f0 = 1
     ·rw [if_pos h1] at hz
      obtain ⟨l5, hl, hz⟩ := Option.bind_eq_some_iff.1 hz
      simp only [Option.some.injEq, Prod.mk.injEq] at hz
      obtain ⟨⟨rfl, rfl, rfl⟩, rfl⟩ := hz
      have HL := am_ hl
      have HK5 := am_ (show filter_Do.go k pa pb pd pc (hh, pp, l5) (l0.drop (kk + 1)) = some (r1, r2, r3, r4, r5, r6) from (if_pos rfl).symm.trans HK2.out)
      have hlk : (Instr.lookup 70 (.map (some gm)) (.int .i64 y.f0) false).run Tryz.prog W4 = .ok (.func (.func 61) #[] #[]) W4 := (does_lookup HM4.out y.f0 (by rw [h1]; rfl)).trans (by rw [doesV, if_pos h1])
      clear hl h1 HK2
      go_wp2_with fail
      refine (filter_step_set_at gs pd hh pp (.slice pe pc.length c2_3) A4 c4 pa pb y l4 l5 W4 BS4.out HR4.out HC4.out w HBW.out GS.out HL.out).mono ?_
      rintro e w5 ⟨v5, rfl, h5a, h5b, h5c, h5d⟩
      have BS5 := am_ h5a
      have BZ5 := am_ (blk_kept BZ4.out h5c NZS.out)
      have HM5 := am_ (map_at HM4.out (h5c.2 gm HM4.out.lt GM.out))
      have HB5 := am_ h5d
      have HV5 := am_ (show Kd.V k59 59 w5 w.heap.size (fun k_ => (P2_4_ k_ ∨ w.heap.size ≤ k_) ∧ k_ ≠ gs ∧ k_ ≠ gz) v5 l5 from Kd.V_mono h5b (fun k_ hk => ⟨.inr (Nat.le_trans HBW.out.size hk), Nat.ne_of_gt (Nat.lt_of_lt_of_le (blk_lt BS4.out) hk), Nat.ne_of_gt (Nat.lt_of_lt_of_le (blk_lt BZ4.out) hk)⟩))
      clear h5a h5b h5c h5d
      go_wp2
      go_roundg (l0.length - (kk + 1))
      case measure => omega
      case rel => exact ⟨kk + 1, _, _, _, _, by omega, by omega, by go_num, HB5, BZ5, BS5, HV5, HM5, HK5⟩
     ·rw [if_neg h1] at hz
      by_cases h2 : y.f0 = 2
      ·rw [if_pos h2] at hz
       obtain ⟨l5, hl, hz⟩ := Option.bind_eq_some_iff.1 hz
       simp only [Option.some.injEq, Prod.mk.injEq] at hz
       obtain ⟨⟨rfl, rfl, rfl⟩, rfl⟩ := hz
       have HL := am_ hl
       have HK5 := am_ (show filter_Do.go k pa pb pd pc (hh, pp, l5) (l0.drop (kk + 1)) = some (r1, r2, r3, r4, r5, r6) from (if_pos rfl).symm.trans HK2.out)
       have hlk : (Instr.lookup 70 (.map (some gm)) (.int .i64 y.f0) false).run Tryz.prog W4 = .ok (.func (.func 62) #[] #[]) W4 := (does_lookup HM4.out y.f0 (by rw [h2]; rfl)).trans (by rw [doesV, if_neg h1, if_pos h2])
       clear hl h2 HK2
       go_wp2_with fail
       refine (filter_step_add_at gs pd hh pp (.slice pe pc.length c2_3) A4 c4 pa pb y l4 l5 W4 BS4.out HR4.out HC4.out w HBW.out GS.out HL.out).mono ?_
       rintro e w5 ⟨v5, rfl, h5a, h5b, h5c, h5d⟩
       have BS5 := am_ h5a
       have BZ5 := am_ (blk_kept BZ4.out h5c NZS.out)
       have HM5 := am_ (map_at HM4.out (h5c.2 gm HM4.out.lt GM.out))
       have HB5 := am_ h5d
       have HV5 := am_ (show Kd.V k59 59 w5 w.heap.size (fun k_ => (P2_4_ k_ ∨ w.heap.size ≤ k_) ∧ k_ ≠ gs ∧ k_ ≠ gz) v5 l5 from Kd.V_mono h5b (fun k_ hk => ⟨.inr (Nat.le_trans HBW.out.size hk), Nat.ne_of_gt (Nat.lt_of_lt_of_le (blk_lt BS4.out) hk), Nat.ne_of_gt (Nat.lt_of_lt_of_le (blk_lt BZ4.out) hk)⟩))
       clear h5a h5b h5c h5d
       go_wp2
       go_roundg (l0.length - (kk + 1))
       case measure => omega
       case rel => exact ⟨kk + 1, _, _, _, _, by omega, by omega, by go_num, HB5, BZ5, BS5, HV5, HM5, HK5⟩
      ·rw [if_neg h2] at hz
       by_cases h3 : y.f0 = 3
       ·rw [if_pos h3] at hz
        obtain ⟨l5, hl, hz⟩ := Option.bind_eq_some_iff.1 hz
        simp only [Option.some.injEq, Prod.mk.injEq] at hz
        obtain ⟨⟨rfl, rfl, rfl⟩, rfl⟩ := hz
        have HL := am_ hl
        have HK5 := am_ (show filter_Do.go k pa pb pd pc (hh, pp, l5) (l0.drop (kk + 1)) = some (r1, r2, r3, r4, r5, r6) from (if_pos rfl).symm.trans HK2.out)
        have hlk : (Instr.lookup 70 (.map (some gm)) (.int .i64 y.f0) false).run Tryz.prog W4 = .ok (.func (.func 63) #[] #[]) W4 := (does_lookup HM4.out y.f0 (by rw [h3]; rfl)).trans (by rw [doesV, if_neg h1, if_neg h2, if_pos h3])
        clear hl h3 HK2
        go_wp2_with fail
        refine (filter_step_drop_at gs pd hh pp (.slice pe pc.length c2_3) A4 c4 pa pb y l4 l5 W4 BS4.out HR4.out HC4.out w HBW.out GS.out HL.out).mono ?_
        rintro e w5 ⟨v5, rfl, h5a, h5b, h5c, h5d⟩
        have BS5 := am_ h5a
        have BZ5 := am_ (blk_kept BZ4.out h5c NZS.out)
        have HM5 := am_ (map_at HM4.out (h5c.2 gm HM4.out.lt GM.out))
        have HB5 := am_ h5d
        have HV5 := am_ (show Kd.V k59 59 w5 w.heap.size (fun k_ => (P2_4_ k_ ∨ w.heap.size ≤ k_) ∧ k_ ≠ gs ∧ k_ ≠ gz) v5 l5 from Kd.V_mono h5b (fun k_ hk => ⟨.inr (Nat.le_trans HBW.out.size hk), Nat.ne_of_gt (Nat.lt_of_lt_of_le (blk_lt BS4.out) hk), Nat.ne_of_gt (Nat.lt_of_lt_of_le (blk_lt BZ4.out) hk)⟩))
        clear h5a h5b h5c h5d
        go_wp2
        go_roundg (l0.length - (kk + 1))
        case measure => omega
        case rel => exact ⟨kk + 1, _, _, _, _, by omega, by omega, by go_num, HB5, BZ5, BS5, HV5, HM5, HK5⟩
       ·rw [if_neg h3] at hz
        by_cases h4 : y.f0 = 4
        ·rw [if_pos h4] at hz
         simp only [Option.some.injEq, Prod.mk.injEq] at hz
         obtain ⟨⟨rfl, rfl, rfl⟩, rfl⟩ := hz
         have HK5 := am_ (show filter_Do.go k pa pb pd pc (hh, pp, l4) (l0.drop (kk + 1)) = some (r1, r2, r3, r4, r5, r6) from (if_pos rfl).symm.trans HK2.out)
         have hlk : (Instr.lookup 70 (.map (some gm)) (.int .i64 y.f0) false).run Tryz.prog W4 = .ok (.func (.func 64) #[] #[]) W4 := (does_lookup HM4.out y.f0 (by rw [h4]; rfl)).trans (by rw [doesV, if_neg h1, if_neg h2, if_neg h3, if_pos h4])
         clear h4 HK2
         go_wp2_with fail
         refine (filter_step_away_at gs y W4).mono ?_
         rintro e w5 ⟨rfl, h5⟩
         have BS5 := am_ (blk_below BS4.out h5)
         have BZ5 := am_ (blk_below BZ4.out h5)
         have HM5 := am_ (map_at HM4.out (h5.block gm HM4.out.lt))
         have HB5 := am_ (below_step HBW.out h5)
         have HV5 := am_ (Kd.V_below HV4.out h5)
         clear h5
         go_wp2
         go_roundg (l0.length - (kk + 1))
         case measure => omega
         case rel => exact ⟨kk + 1, _, _, _, _, by omega, by omega, by go_num, HB5, BZ5, BS5, HV5, HM5, HK5⟩
        ·rw [if_neg h4] at hz
         by_cases h5 : y.f0 = 5
         ·rw [if_pos h5] at hz
          obtain ⟨⟨z1, z2⟩, hl, hz⟩ := Option.bind_eq_some_iff.1 hz
          simp only [Option.some.injEq, Prod.mk.injEq] at hz
          obtain ⟨⟨hh', rfl, rfl⟩, rfl⟩ := hz
          have HL := am_ hl
          have hlk : (Instr.lookup 70 (.map (some gm)) (.int .i64 y.f0) false).run Tryz.prog W4 = .ok (.func (.func 65) #[] #[]) W4 := (does_lookup HM4.out y.f0 (by rw [h5]; rfl)).trans (by rw [doesV, if_neg h1, if_neg h2, if_neg h3, if_neg h4, if_pos h5])
          have HHH := am_ hh'.symm
          clear hl h1 h2 h3 h4 h5 hh'
          go_wp2_with fail
          refine (filter_step_swap_at k gs pd hh pp (.slice pe pc.length c2_3) (.slice A4 l4.length c4) pa pb y h' HHH.out z1 z2 W4 BS4.out w HBW.out GS.out HL.out).mono ?_
          rintro e w5 ⟨rfl, h5a, h5c, h5d⟩
          have BS5 := am_ h5a
          have BZ5 := am_ (blk_kept BZ4.out h5c NZS.out)
          have HM5 := am_ (map_at HM4.out (h5c.2 gm HM4.out.lt GM.out))
          have HB5 := am_ h5d
          have HV5 := am_ (Kd.V_kept HV4.out h5c (fun k_ hk => hk.2.1))
          clear h5a h5c h5d
          by_cases he : z2 = 0
          ·subst he
           have HK5 := am_ (show filter_Do.go k pa pb pd pc (h', z1, l4) (l0.drop (kk + 1)) = some (r1, r2, r3, r4, r5, r6) from (if_pos rfl).symm.trans HK2.out)
           go_wp2
           go_roundg (l0.length - (kk + 1))
           case measure => omega
           case rel => exact ⟨kk + 1, _, _, _, _, by omega, by omega, by go_num, HB5, BZ5, BS5, HV5, HM5, HK5⟩
          ·have hk2 := (if_neg he).symm.trans HK2.out
           simp only [Option.some.injEq, Prod.mk.injEq] at hk2
           obtain ⟨rfl, rfl, rfl, rfl, rfl, rfl⟩ := hk2
           have c0 : (z2 == 0) = false := beq_eq_false_iff_ne.mpr he
           have c1 : (z2 != 0) = true := bne_iff_ne.mpr he
           clear he
           obtain ⟨hz0, hz1, hz2, hz3, hz4, hzf⟩ := cells5 BZ5.out
           have hzf0 := hzf 0
           have hzf1 := hzf 1
           have hzf2 := hzf 2
           have hzf3 := hzf 3
           have hzf4 := hzf 4
           clear hzf
           have hend := am_ (put5F BZ5.out (.string (⟨#[]⟩ : ByteArray)) (.string (⟨#[]⟩ : ByteArray)) (.string (⟨#[]⟩ : ByteArray)) (.slice none 0 0) (.slice none 0 0))
           go_wp2
           refine bodyPost_ret (results_ct rfl _ _ gz 33 #[.string (⟨#[]⟩ : ByteArray), .string (⟨#[]⟩ : ByteArray), .string (⟨#[]⟩ : ByteArray), .slice none 0 0, .slice none 0 0] (0, 0) _ rfl (by exact hend.out.1) Tryz.underlying33 rfl kr_) rfl ?_
           exact ⟨_, _, rfl, Kd.V_nil _ _ _ _ _, Kd.V_nil _ _ _ _ _, ((((HB5.out.setCell (p := ⟨gz, 0, none⟩) GZ.out _).setCell (p := ⟨gz, 1, none⟩) GZ.out _).setCell (p := ⟨gz, 2, none⟩) GZ.out _).setCell (p := ⟨gz, 3, none⟩) GZ.out _).setCell (p := ⟨gz, 4, none⟩) GZ.out _⟩
         ·rw [if_neg h5] at hz
          cases hz
    ·have q1 : ¬ (kk : Int) < (l0.length : Int) := by omega
     obtain rfl : kk = l0.length := by omega
     have hk1 := HK.out
     rw [List.drop_length, filter_Do.go] at hk1
     obtain ⟨A4, c4, rfl⟩ := Kd.V_slice HV.out
     obtain ⟨hs0, hs1, hs2, hs3, hs4, hs5, hs6, hsf⟩ := cells7 BS.out
     clear hsf
     by_cases hbig : l4.length > 30
     ·rw [if_pos hbig] at hk1
      simp only [Option.some.injEq, Prod.mk.injEq] at hk1
      obtain ⟨rfl, rfl, rfl, rfl, rfl, rfl⟩ := hk1
      have hb1 : ((30 : Int) < (l4.length : Int)) = True := eq_true (by omega)
      have hb2 : (30 < l4.length) = True := eq_true hbig
      obtain ⟨hz0, hz1, hz2, hz3, hz4, hzf⟩ := cells5 BZ.out
      have hzf0 := hzf 0
      have hzf1 := hzf 1
      have hzf2 := hzf 2
      have hzf3 := hzf 3
      have hzf4 := hzf 4
      clear hzf
      have hend := am_ (put5F BZ.out (.string (⟨#[]⟩ : ByteArray)) (.string (⟨#[]⟩ : ByteArray)) (.string (⟨#[]⟩ : ByteArray)) (.slice none 0 0) (.slice none 0 0))
      go_wp2
      refine bodyPost_ret (results_ct rfl _ _ gz 33 #[.string (⟨#[]⟩ : ByteArray), .string (⟨#[]⟩ : ByteArray), .string (⟨#[]⟩ : ByteArray), .slice none 0 0, .slice none 0 0] (0, 0) _ rfl (by exact hend.out.1) Tryz.underlying33 rfl kr_) rfl ?_
      exact ⟨_, _, rfl, Kd.V_nil _ _ _ _ _, Kd.V_nil _ _ _ _ _, ((((BW.out.setCell (p := ⟨gz, 0, none⟩) GZ.out _).setCell (p := ⟨gz, 1, none⟩) GZ.out _).setCell (p := ⟨gz, 2, none⟩) GZ.out _).setCell (p := ⟨gz, 3, none⟩) GZ.out _).setCell (p := ⟨gz, 4, none⟩) GZ.out _⟩
     ·rw [if_neg hbig] at hk1
      simp only [Option.some.injEq, Prod.mk.injEq] at hk1
      obtain ⟨rfl, rfl, rfl, rfl, rfl, rfl⟩ := hk1
      have hb1 : ((30 : Int) < (l4.length : Int)) = False := eq_false (by omega)
      have hb2 : (30 < l4.length) = False := eq_false hbig
      obtain ⟨hz0, hz1, hz2, hz3, hz4, hzf⟩ := cells5 BZ.out
      have hzf0 := hzf 0
      have hzf1 := hzf 1
      have hzf2 := hzf 2
      have hzf3 := hzf 3
      have hzf4 := hzf 4
      clear hzf
      have hend := am_ (put5F BZ.out (.string pd) (.string hh) (.string pp) (.slice pe pc.length c2_3) (.slice A4 l4.length c4))
      have NZS' := NZS.out
      go_wp2
      refine bodyPost_ret (results_ct rfl _ _ gz 33 #[.string pd, .string hh, .string pp, .slice pe pc.length c2_3, .slice A4 l4.length c4] (0, 0) _ rfl (by exact hend.out.1) Tryz.underlying33 rfl kr_) rfl ?_
      refine ⟨_, _, rfl, ?_, ?_, ((((BW.out.setCell (p := ⟨gz, 0, none⟩) GZ.out _).setCell (p := ⟨gz, 1, none⟩) GZ.out _).setCell (p := ⟨gz, 2, none⟩) GZ.out _).setCell (p := ⟨gz, 3, none⟩) GZ.out _).setCell (p := ⟨gz, 4, none⟩) GZ.out _⟩
      ·exact Kd.V_mono (Kd.V_step (Kd.V_below (Kd.V_bound HQ.out) BW.out) (fun k_ hk _ => hend.out.2 k_ (Nat.ne_of_lt (Nat.lt_of_lt_of_le hk.2 GZ.out)))) (fun _ hk => .inl (.inl hk.1))
      ·exact Kd.V_mono (Kd.V_step HV.out (fun k_ hk _ => hend.out.2 k_ hk.2.2)) (fun _ hk => hk.1.elim (fun h_ => .inl (.inr h_)) .inr)

/-! ### the shelf's Lays.n171 at this program -/
def lays171_ren : Go.Shelf.Ren := ⟨fun | 171 => 47 | 243 => 68 | 246 => 87 | 283 => 104 | 284 => 105 | 285 => 106 | 286 => 107 | 129 => 120 | 317 => 119 | 318 => 121 | 319 => 122 | 320 => 123 | 337 => 129 | 338 => 130 | n => n, fun | 3 => 3 | 9 => 9 | 2 => 2 | 4 => 4 | 171 => 114 | 0 => 0 | 53 => 115 | 37 => 87 | 5 => 5 | 173 => 118 | 212 => 127 | 51 => 128 | 20 => 20 | 213 => 129 | 46 => 131 | 232 => 139 | 233 => 140 | n => n, fun | 17 => 1 | 18 => 4 | 19 => 5 | n => n⟩
theorem lays171 : Lays.n171 Tryz.prog lays171_ren where
 mixed := by kernel_rfl
 f129 := Tryz.func120.trans (congrArg some kr_)
 f171 := Tryz.func47.trans (congrArg some kr_)
 f243 := Tryz.func68.trans (congrArg some kr_)
 f246 := Tryz.func87.trans (congrArg some kr_)
 f283 := Tryz.func104.trans (congrArg some kr_)
 f284 := Tryz.func105.trans (congrArg some kr_)
 f285 := Tryz.func106.trans (congrArg some kr_)
 f286 := Tryz.func107.trans (congrArg some kr_)
 f317 := Tryz.func119.trans (congrArg some kr_)
 f318 := Tryz.func121.trans (congrArg some kr_)
 f319 := Tryz.func122.trans (congrArg some kr_)
 f320 := Tryz.func123.trans (congrArg some kr_)
 f337 := Tryz.func129.trans (congrArg some kr_)
 f338 := Tryz.func130.trans (congrArg some kr_)
 t0 := Tryz.underlying0
 a0 := Tryz.isAgg0
 z0 := Tryz.sizeOf0
 v0 := Tryz.zeroValue0
 t2 := Tryz.underlying2
 a2 := Tryz.isAgg2
 z2 := Tryz.sizeOf2
 v2 := Tryz.zeroValue2
 t3 := Tryz.underlying3
 a3 := Tryz.isAgg3
 z3 := Tryz.sizeOf3
 v3 := Tryz.zeroValue3
 t4 := Tryz.underlying4
 a4 := Tryz.isAgg4
 z4 := Tryz.sizeOf4
 v4 := Tryz.zeroValue4
 t5 := Tryz.underlying5
 a5 := Tryz.isAgg5
 z5 := Tryz.sizeOf5
 v5 := Tryz.zeroValue5
 t9 := Tryz.underlying9
 a9 := Tryz.isAgg9
 z9 := Tryz.sizeOf9
 v9 := Tryz.zeroValue9
 t20 := Tryz.underlying20
 a20 := Tryz.isAgg20
 z20 := Tryz.sizeOf20
 v20 := Tryz.zeroValue20
 t37 := Tryz.underlying87
 a37 := Tryz.isAgg87
 z37 := Tryz.sizeOf87
 v37 := Tryz.zeroValue87
 t46 := Tryz.underlying131
 a46 := Tryz.isAgg131
 z46 := Tryz.sizeOf131
 v46 := Tryz.zeroValue131
 t51 := Tryz.underlying128
 a51 := Tryz.isAgg128
 z51 := Tryz.sizeOf128
 v51 := Tryz.zeroValue128
 t53 := Tryz.underlying115
 a53 := Tryz.isAgg115
 z53 := Tryz.sizeOf115
 v53 := Tryz.zeroValue115
 t171 := Tryz.underlying114
 a171 := Tryz.isAgg114
 z171 := Tryz.sizeOf114
 v171 := Tryz.zeroValue114
 t173 := Tryz.underlying118
 a173 := Tryz.isAgg118
 z173 := Tryz.sizeOf118
 v173 := Tryz.zeroValue118
 t212 := Tryz.underlying127
 a212 := Tryz.isAgg127
 z212 := Tryz.sizeOf127
 v212 := Tryz.zeroValue127
 t213 := Tryz.underlying129
 a213 := Tryz.isAgg129
 z213 := Tryz.sizeOf129
 t232 := Tryz.underlying139
 a232 := Tryz.isAgg139
 z232 := Tryz.sizeOf139
 v232 := Tryz.zeroValue139
 t233 := Tryz.underlying140
 a233 := Tryz.isAgg140
 z233 := Tryz.sizeOf140
 v233 := Tryz.zeroValue140
 g17 := by kernel_rfl
 g18 := by kernel_rfl
 g19 := by kernel_rfl
theorem laysI : LaysM.n171 Tryz.prog lays171_ren := { lays171 with
 i0 := by kernel_rfl,
 i2 := by kernel_rfl,
 i3 := by kernel_rfl,
 i4 := by kernel_rfl,
 i5 := by kernel_rfl,
 i9 := by kernel_rfl,
 i20 := by kernel_rfl,
 i37 := by kernel_rfl,
 i46 := by kernel_rfl,
 i51 := by kernel_rfl,
 i53 := by kernel_rfl,
 i171 := by kernel_rfl,
 i173 := by kernel_rfl,
 i212 := by kernel_rfl,
 i232 := by kernel_rfl,
 i233 := by kernel_rfl,
 m17 := by kernel_rfl,
 m18 := by kernel_rfl,
 m19 := by kernel_rfl }
/-! ### strconv_Itoa_47: function 47, by the shelf; it reads the library's table of powers of ten, so its callers carry that the table lies (MaxL) -/
theorem pow_named : Tryz.prog.globalNamed "internal/strconv.uint64pow10" = some (Tryz.prog.globalNamed "internal/strconv.uint64pow10").get! := by kernel_rfl
def MaxL (w : World) : Prop := Lib.TabIs Tryz.prog w "internal/strconv.uint64pow10" .u64 Lib.pow10Tab
theorem gm_ {w W : World} (h : MaxL w) (hb : Below w.heap.size w W) : MaxL W := Go.Joins.tab_stays pow_named h hb (Nat.le_refl _)
def strconv_Itoa_47.f (a0 : Int) : Option (ByteArray) := if -9223372036854775808 ≤ a0 ∧ a0 ≤ 9223372036854775807 then some ⟨(Lib.itoa a0).toArray⟩ else none
theorem strconv_Itoa_47.calls (a0 : Int) (r : ByteArray) (w : World) (hG : MaxL w) (h : strconv_Itoa_47.f a0 = some r) : Calls Tryz.prog 47 #[.int .i64 a0] w fun e w' => e = .returned (.string r) ∧ Below w.heap.size w w' := by
 unfold strconv_Itoa_47.f at h;split at h
 ·next hb =>
  obtain rfl := Option.some.inj h;refine (Any.strconv_Itoa laysI a0 hb.1 hb.2 w hG).mono ?_;rintro e w' ⟨rfl, k, os, rfl⟩;exact ⟨rfl, Lib.below_grow _ w (Nat.le_refl _) k os⟩
 ·cases h

/-! ### slices_IndexFunc_with_filter_Away_1: function 45 with 46 -/
set_option maxHeartbeats 4000000 in
set_option maxRecDepth 100000 in
theorem away1_pred (l : List (S26)) (w : World) : PredK Tryz.prog 46 #[] k26 l (fun x => decide (x.f0 = 4)) w := by
 intro W x cs hx hb hk
 obtain rfl := k26_open hk
 have HB := Aside0.mk hb
 clear hx hb hk
 show Calls Tryz.prog 46 #[.agg #[.int .i64 x.f0, .string x.f1, .string x.f2, .string x.f3, .int .i64 x.f4, .string x.f5, .bool x.f6, .int .i64 x.f7]] W fun e w' => e = .returned (.bool (decide (x.f0 = 4))) ∧ Below w.heap.size w w'
 go_enter Tryz.func46, Tryz.ntmps46
 go_wp2
 go_ret
 refine ⟨?_, ?_⟩
 ·by_cases h4 : x.f0 = 4
  ·simp [h4]
  ·simp [h4]
 ·exact bel_ HB.out
def slices_IndexFunc_with_filter_Away_1.f (l0 : List (S26)) : Option (Int) := some (idxI (fun x => decide (x.f0 = 4)) l0)
theorem slices_IndexFunc_with_filter_Away_1.calls (A0 : Option Addr) (c0 : Nat) (l0 : List (S26)) (r : Int) (w : World) (hr0 : Kd.C k26 w A0 l0.length l0) (hc0 : l0.length ≤ c0) (h : slices_IndexFunc_with_filter_Away_1.f l0 = some r) :
  Calls Tryz.prog 45 #[.slice A0 l0.length c0, .func (.func 46) #[] #[]] w fun e w' => e = .returned (.int .i64 r) ∧ Below w.heap.size w w' := by
 obtain rfl := Option.some.inj h;exact api_Filter_45.calls A0 c0 l0 w hr0 _ 46 #[] (enters_of Tryz.func46 kr_ rfl) (away1_pred l0 w)

end Go.Proofs.YtfdopmjgiakcdaaGreatDoor.P
