-- written by wip/tool/hprint.py of this repo: the kit's print, with contracts by hand joined; Lean checks it.
import Derived.Test.YtompldnifiieaaaDoorPx0
import Derived.Test.YtompldnifiieaaaDoorPx1
import Derived.Test.YtompldnifiieaaaDoorPx2
namespace Go.Proofs.YtompldnifiieaaaDoor.P
open Go.RowKit Go.Proofs.YtompldnifiieaaaDoorW.PrintWords Go.Proofs.YtompldnifiieaaaDoorW.PrintLast Go.Proofs.YtompldnifiieaaaDoorW.PrintMore
attribute [local go_sem] max2_int min2_int max_two min_two max_three min_three max_four min_four   -- for this text's walks alone
set_option linter.unusedVariables false
set_option linter.unusedSimpArgs false

/-! ### slices_ContainsFunc: function 28 -/
theorem idxI_any {α : Type} (p : α → Bool) (l : List α) : decide (idxI p l ≥ 0) = l.any p := by
 unfold idxI
 by_cases h : l.any p = true
 ·rw [if_pos h, h]; exact decide_eq_true (by omega)
 ·rw [if_neg h]
  have : l.any p = false := by simpa using h
  rw [this]; rfl
set_option maxHeartbeats 4000000 in
theorem slices_ContainsFunc_at (A0 : Option Addr) (c0 : Nat) (l0 : List (S49)) (w : World) (hr0 : Kd.C k49 w A0 l0.length l0) (p : S49 → Bool) (g : Nat) (lb : Array Value)
  (eg : ∀ args W, (callFunc g args).run Tryd.prog W = .ok (.enter g args) W) (hp : PredK Tryd.prog g lb k49 l0 p w) :
  Calls Tryd.prog 28 #[.slice A0 l0.length c0, .func (.func g) #[] lb] w fun e w' => e = .returned (.bool (l0.any p)) ∧ Below w.heap.size w w' := by
 have HI := am_ (api_Pair_51.calls A0 c0 l0 w hr0 p g lb eg hp)
 have HA := am_ (idxI_any p l0)
 clear hr0 hp eg
 generalize idxI p l0 = x at HI HA
 go_enter Tryd.func28, Tryd.ntmps28
 go_wp2_with (go_at_call 51; refine HI.out.mono ?_; rintro e w' ⟨rfl, hb'⟩; have HB' := Aside0.mk hb'; clear hb')
 go_ret
 refine ⟨?_, HB'.out⟩
 rw [← HA.out]
 rfl

/-! ### rule_May1: function 24 -/
/-- Is a head's pair odd? -/
noncomputable def oddF (x : S49) : Option Bool := (limF fun k => pairs_Token.f k x.f0).bind fun t => if t = true then (limF fun k => pairs_Value.f k x.f1).bind fun v => some (!v) else some true
set_option maxHeartbeats 8000000 in
set_option maxRecDepth 100000 in
theorem odd_pred (l : List (S49)) (w : World) (hq : ∀ x ∈ l, (oddF x).isSome = true) : PredK Tryd.prog 24 #[] k49 l (fun x => oddF x == some true) w := by
 intro W x cs hx hb hk
 obtain rfl := k49_open hk
 have hqx : oddF x = some (oddF x == some true) := by
  have := hq x hx
  cases h : oddF x with
  | none => rw [h] at this; cases this
  | some b => cases b <;> rfl
 have HB := Aside0.mk hb
 clear hx hb hk hq
 show Calls Tryd.prog 24 #[.agg #[.string x.f0, .string x.f1]] W fun e w' => e = .returned (.bool (oddF x == some true)) ∧ Below w.heap.size w w'
 generalize hb0 : (oddF x == some true) = b at hqx ⊢
 clear hb0
 obtain ⟨t, ht, hqx⟩ := Option.bind_eq_some_iff.1 hqx
 obtain ⟨k1, ht⟩ := limF_some ht
 have HT := Aside0.mk ht
 clear ht
 cases t with
 | false =>
  obtain rfl : b = true := (Option.some.inj hqx).symm
  clear hqx
  go_enter Tryd.func24, Tryd.ntmps24
  go_wp2_with (go_at_call 25; refine (pairs_Token.calls k1 x.f0 false _ HT.out).mono ?_; rintro e w' ⟨rfl, hd⟩; have HB' := am_ (show Below _ _ _ from by first | exact hd.below | exact hd); clear hd)
  go_ret
  exact ⟨rfl, (HB.out.alloc HB.out.size _).trans (HB'.out.mono (by have := HB.out.size; simp; omega))⟩
 | true =>
  rw [if_pos rfl] at hqx
  obtain ⟨v, hv, hqx⟩ := Option.bind_eq_some_iff.1 hqx
  obtain ⟨k2, hv⟩ := limF_some hv
  have HV := Aside0.mk hv
  clear hv
  obtain rfl : (!v) = b := Option.some.inj hqx
  clear hqx
  go_enter Tryd.func24, Tryd.ntmps24
  go_wp2_with (first | (go_at_call 25; refine (pairs_Token.calls k1 x.f0 true _ HT.out).mono ?_; rintro e w2 ⟨rfl, hd⟩; have hb' : Below (W.alloc (.cells #[.string x.f0, .string x.f1] 49)).heap.size (W.alloc (.cells #[.string x.f0, .string x.f1] 49)) w2 := (by first | exact hd.below | exact hd); have HB2 := Aside0.mk hb'; have hp1 : w2.cell? ⟨W.heap.size, 1, none⟩ = some (.string x.f1) := (hb'.cell (p := ⟨W.heap.size, 1, none⟩) (by simp)).trans (by simp [World.cell?_alloc_new]); clear hd hb') | (go_at_call 26; refine (pairs_Value.calls k2 x.f1 v _ HV.out).mono ?_; rintro e w3 ⟨rfl, hd⟩; have HB3 := am_ (show Below w2.heap.size w2 w3 from by first | exact hd.below | exact hd); clear hd))
  go_ret
  exact ⟨rfl, ((HB.out.alloc HB.out.size _).trans (HB2.out.mono (by have := HB.out.size; simp; omega))).trans (HB3.out.mono (by have := HB.out.size; have := HB2.out.size; simp at this; omega))⟩

/-! ### slices_ContainsFunc_with_rule_May_1: function 28 with 24 -/
noncomputable def slices_ContainsFunc_with_rule_May_1.f (l0 : List (S49)) : Option (Bool) := if (l0.all fun x => (oddF x).isSome) = true then some (l0.any fun x => oddF x == some true) else none
theorem slices_ContainsFunc_with_rule_May_1.calls (A0 : Option Addr) (c0 : Nat) (l0 : List (S49)) (r : Bool) (w : World) (hr0 : Kd.C k49 w A0 l0.length l0) (hc0 : l0.length ≤ c0) (h : slices_ContainsFunc_with_rule_May_1.f l0 = some r) :
  Calls Tryd.prog 28 #[.slice A0 l0.length c0, .func (.func 24) #[] #[]] w fun e w' => e = .returned (.bool r) ∧ Below w.heap.size w w' := by
 by_cases hx : (l0.all fun x => (oddF x).isSome) = true
 ·rw [slices_ContainsFunc_with_rule_May_1.f, if_pos hx] at h
  obtain rfl := Option.some.inj h
  exact slices_ContainsFunc_at A0 c0 l0 w hr0 _ 24 #[] (enters_of Tryd.func24 kr_ rfl) (odd_pred l0 w (List.all_eq_true.1 hx))
 ·rw [slices_ContainsFunc_with_rule_May_1.f, if_neg hx] at h; cases h

/-! ### pairs_finder: function 72 -/
/-- A function value that tells whether two texts are the same. -/
noncomputable def SameAt (P : Program) (g : Nat) (q : ByteArray → ByteArray → Option Bool) : Prop :=
 ∀ (W : World) (a b : ByteArray) (r : Bool), q a b = some r → Calls P g #[.string a, .string b] W fun e w' => e = .returned (.bool r) ∧ Below W.heap.size W w'
noncomputable def pOf (q : ByteArray → ByteArray → Option Bool) (name : ByteArray) (x : S49) : Bool := q x.f0 name == some true
noncomputable def qAll (q : ByteArray → ByteArray → Option Bool) (l : List (S49)) (name : ByteArray) : Bool := l.all fun x => (q x.f0 name).isSome
noncomputable def getI (q : ByteArray → ByteArray → Option Bool) (l : List (S49)) (name : ByteArray) : ByteArray × Bool := if idxI (pOf q name) l < 0 then ((⟨#[]⟩ : ByteArray), false) else ((rd_T49 l (idxI (pOf q name) l)).f1, true)
theorem idxI_lt {α : Type} (p : α → Bool) (l : List α) : idxI p l < l.length := by
 unfold idxI
 by_cases h : l.any p = true
 ·rw [if_pos h]
  have := List.findIdx_lt_length_of_exists (p := p) (xs := l) (by obtain ⟨x, hx, hp⟩ := List.any_eq_true.1 h; exact ⟨x, hx, hp⟩)
  omega
 ·rw [if_neg h]; omega
theorem same_at : SameAt Tryd.prog 30 pairs_Same.f := fun W a b r h => pairs_Same.calls a b r W h
set_option maxHeartbeats 8000000 in
set_option maxRecDepth 100000 in
theorem first1.pred (g : Nat) (q : ByteArray → ByteArray → Option Bool) (hs : SameAt Tryd.prog g q) (eg : ∀ args W, (callFunc g args).run Tryd.prog W = .ok (.enter g args) W) (fb nb : Nat) (name : ByteArray) (w : World) (l : List (S49))
  (hfb : fb < w.heap.size) (hnb : nb < w.heap.size) (hf : w.cell? ⟨fb, 0, none⟩ = some (.func (.func g) #[] #[])) (hn : w.cell? ⟨nb, 0, none⟩ = some (.string name)) (hq : qAll q l name = true) :
  PredK Tryd.prog 80 #[.pointer (some ⟨fb, 0, none⟩), .pointer (some ⟨nb, 0, none⟩)] k49 l (pOf q name) w := by
 intro W x cs hx hb hk
 obtain rfl := k49_open hk
 have hqx : q x.f0 name = some (pOf q name x) := by
  have := List.all_eq_true.1 hq x hx
  unfold pOf
  cases h : q x.f0 name with
  | none => rw [h] at this; cases this
  | some b => cases b <;> rfl
 have HQ := Aside0.mk hqx
 have HS := Aside0.mk hs
 have hf' : W.cell? ⟨fb, 0, none⟩ = some (.func (.func g) #[] #[]) := (hb.cell (p := ⟨fb, 0, none⟩) hfb).trans hf
 have hn' : W.cell? ⟨nb, 0, none⟩ = some (.string name) := (hb.cell (p := ⟨nb, 0, none⟩) hnb).trans hn
 have hf1 : fb ≠ W.heap.size := by have := hb.size; omega
 have hn1 : nb ≠ W.heap.size := by have := hb.size; omega
 have hfl : fb < W.heap.size := by have := hb.size; omega
 have hnl : nb < W.heap.size := by have := hb.size; omega
 have HB := Aside0.mk hb
 clear hqx hs hx hb hk hq hf hn hfb hnb
 show Calls Tryd.prog 80 #[.agg #[.string x.f0, .string x.f1], .pointer (some ⟨fb, 0, none⟩), .pointer (some ⟨nb, 0, none⟩)] W _
 generalize pOf q name x = b at HQ
 go_enter Tryd.func80, Tryd.ntmps80
 go_wp2_with (go_at_fn g; refine (HS.out _ x.f0 name b HQ.out).mono ?_; rintro e w' ⟨rfl, hb'⟩; have HB' := Aside0.mk hb'; clear hb')
 go_ret
 exact ⟨rfl, (HB.out.alloc HB.out.size _).trans (HB'.out.mono (by have := HB.out.size; simp; omega))⟩
set_option maxHeartbeats 8000000 in
set_option maxRecDepth 100000 in
theorem finder_first.calls (g : Nat) (q : ByteArray → ByteArray → Option Bool) (hs : SameAt Tryd.prog g q) (eg : ∀ args W, (callFunc g args).run Tryd.prog W = .ok (.enter g args) W) (A0 : Option Addr) (c0 : Nat) (l0 : List (S49)) (name : ByteArray) (w : World)
  (hr0 : Kd.C k49 w A0 l0.length l0) (hq : qAll q l0 name = true) :
  Calls Tryd.prog 72 #[.agg #[.func (.func g) #[] #[]], .slice A0 l0.length c0, .string name] w fun e w' => e = .returned (.int .i64 (idxI (pOf q name) l0)) ∧ Below w.heap.size w w' := by
 have eg1 : ∀ args W, (callFunc 80 args).run Tryd.prog W = .ok (.enter 80 args) W := enters_of Tryd.func80 kr_ rfl
 have EG1 := Aside0.mk eg1
 have HR := Aside0.mk hr0
 have HS := Aside0.mk hs
 have EG := Aside0.mk eg
 have HQ := Aside0.mk hq
 clear eg1 hr0 hs eg hq
 go_enter Tryd.func72, Tryd.ntmps72
 go_wp2_with (go_at_call 51; refine (api_Pair_51.calls A0 c0 l0 _ (by exact Kd.C_alloc (Kd.C_alloc HR.out _) _) (pOf q name) 80 _ EG1.out (by exact first1.pred g q HS.out EG.out w.heap.size (w.heap.size + 1) name _ l0 (by simp; omega) (by simp) (by simp [World.cell?_alloc_lt, World.cell?_alloc_new]) (by simp [World.cell?_alloc_new]) HQ.out)).mono ?_; rintro e w' ⟨rfl, hb'⟩; have HB' := Aside0.mk hb'; clear hb')
 go_ret
 exact ⟨rfl, (((Below.refl _ w).alloc (Nat.le_refl _) _).alloc (by simp) _).trans (HB'.out.mono (by simp; omega))⟩
set_option maxHeartbeats 8000000 in
set_option maxRecDepth 100000 in
theorem finder_get.calls (g : Nat) (q : ByteArray → ByteArray → Option Bool) (hs : SameAt Tryd.prog g q) (eg : ∀ args W, (callFunc g args).run Tryd.prog W = .ok (.enter g args) W) (A0 : Option Addr) (c0 : Nat) (l0 : List (S49)) (name : ByteArray) (w : World)
  (hr0 : Kd.C k49 w A0 l0.length l0) (hq : qAll q l0 name = true) :
  Calls Tryd.prog 59 #[.agg #[.func (.func g) #[] #[]], .slice A0 l0.length c0, .string name] w fun e w' => e = .returned (.tuple #[.string (getI q l0 name).1, .bool (getI q l0 name).2]) ∧ Below w.heap.size w w' := by
 have HR := Aside0.mk hr0
 have HS := Aside0.mk hs
 have EG := Aside0.mk eg
 have HQ := Aside0.mk hq
 have hlt := idxI_lt (pOf q name) l0
 clear hr0 hs eg hq
 unfold getI
 generalize hix : idxI (pOf q name) l0 = ix at hlt ⊢
 have HIX := Aside0.mk hix
 clear hix
 have hfs := fun W (hW : Kd.C k49 W A0 l0.length l0) => finder_first.calls g q HS.out EG.out A0 c0 l0 name W hW HQ.out
 rw [HIX.out] at hfs
 have HFS := Aside0.mk hfs
 clear hfs
 by_cases h0 : ix < 0
 ·rw [if_pos h0]
  have h0b : decide (ix < 0) = true := decide_eq_true h0
  clear h0 hlt
  go_enter Tryd.func59, Tryd.ntmps59
  go_wp2_with (go_at_call 72; refine (HFS.out _ (by exact Kd.C_alloc HR.out _)).mono ?_; rintro e w' ⟨rfl, hb'⟩; have HB' := Aside0.mk hb'; clear hb')
  go_ret2
  exact ⟨rfl, ((Below.refl _ w).alloc (Nat.le_refl _) _).trans (HB'.out.mono (by simp))⟩
 ·rw [if_neg h0]
  have h0b : decide (ix < 0) = false := decide_eq_false h0
  have h0p : 0 ≤ ix := by omega
  obtain ⟨ad, ea, hx_0, hx_1⟩ := at_T49 HR.out ix h0p hlt
  cases ea
  have hl0 := And.intro (World.block_lt_of_cell? w _ hx_0) (World.block_lt_of_cell? w _ hx_1)
  generalize hy : rd_T49 l0 ix = y at *
  clear hy
  have h0q := eq_true h0p
  have h1q := eq_true hlt
  have HZ := Aside0.mk hl0
  clear hl0 h0 h0p hlt
  go_enter Tryd.func59, Tryd.ntmps59
  go_wp2_with (go_at_call 72; refine (HFS.out _ (by exact Kd.C_alloc HR.out _)).mono ?_; rintro e w' ⟨rfl, hb'⟩; have hz_1 := (hb'.cell (p := _) (Nat.lt_of_lt_of_le HZ.out.2 (by simp))).trans ((((Below.refl _ w).alloc (Nat.le_refl _) _).cell HZ.out.2).trans hx_1); have HB' := Aside0.mk hb'; clear hb')
  go_ret2
  exact ⟨rfl, ((Below.refl _ w).alloc (Nat.le_refl _) _).trans (HB'.out.mono (by simp))⟩

/-! ### rule_twice: function 29 -/
/-- Does a name stand twice? -/
noncomputable def twiceAt (q : ByteArray → ByteArray → Option Bool) (l : List (S49)) (i : Nat) : Bool := (l.take i).any fun x => q x.f0 (rd_T49 l (i : Int)).f0 == some true
noncomputable def twiceB (q : ByteArray → ByteArray → Option Bool) (l : List (S49)) : Bool := (List.range l.length).any (twiceAt q l)
noncomputable def twiceAll (q : ByteArray → ByteArray → Option Bool) (l : List (S49)) : Bool := l.all fun y => l.all fun x => (q x.f0 y.f0).isSome
theorem twiceB_hit (q : ByteArray → ByteArray → Option Bool) (l : List (S49)) (i : Nat) (hi : i < l.length) (h : twiceAt q l i = true) : twiceB q l = true := List.any_eq_true.2 ⟨i, List.mem_range.2 hi, h⟩
theorem twiceB_miss (q : ByteArray → ByteArray → Option Bool) (l : List (S49)) (h : ∀ i, i < l.length → twiceAt q l i = false) : twiceB q l = false := by
 rw [twiceB, List.any_eq_false]
 intro i hi
 rw [h i (List.mem_range.1 hi)]; decide
theorem C_take {α : Type} {d : Kd α} {w : World} {A : Option Addr} {l : List α} (h : Kd.C d w A l.length l) (i : Nat) : Kd.C d w A (l.take i).length (l.take i) := by
 obtain ⟨h1, h2, h3⟩ := h
 refine ⟨rfl, by rw [List.length_take]; omega, fun h0 => ?_⟩
 obtain ⟨ad, e, h4⟩ := h3 (by rw [List.length_take] at h0; omega)
 refine ⟨ad, e, fun j p hj => h4 j p ?_⟩
 rw [List.getElem?_take] at hj
 split at hj
 ·exact hj
 ·cases hj
set_option maxHeartbeats 8000000 in
set_option maxRecDepth 100000 in
theorem twice1_pred (g : Nat) (q : ByteArray → ByteArray → Option Bool) (hs : SameAt Tryd.prog g q) (fb pb : Nat) (y : S49) (w : World) (l : List (S49))
  (hfb : fb < w.heap.size) (hpb : pb < w.heap.size) (hf : w.cell? ⟨fb, 0, none⟩ = some (.func (.func g) #[] #[])) (hn : w.cell? ⟨pb, 0, none⟩ = some (.string y.f0)) (eg : ∀ args W, (callFunc g args).run Tryd.prog W = .ok (.enter g args) W) (hq : ∀ x ∈ l, (q x.f0 y.f0).isSome = true) :
  PredK Tryd.prog 52 #[.pointer (some ⟨fb, 0, none⟩), .pointer (some ⟨pb, 0, none⟩)] k49 l (fun x => q x.f0 y.f0 == some true) w := by
 intro W x cs hx hb hk
 obtain rfl := k49_open hk
 have hqx : q x.f0 y.f0 = some (q x.f0 y.f0 == some true) := by
  have := hq x hx
  cases h : q x.f0 y.f0 with
  | none => rw [h] at this; cases this
  | some b => cases b <;> rfl
 have HQ := Aside0.mk hqx
 have HS := Aside0.mk hs
 have hf' : W.cell? ⟨fb, 0, none⟩ = some (.func (.func g) #[] #[]) := (hb.cell (p := ⟨fb, 0, none⟩) hfb).trans hf
 have hn' : W.cell? ⟨pb, 0, none⟩ = some (.string y.f0) := (hb.cell (p := ⟨pb, 0, none⟩) hpb).trans hn
 have hf1 : fb ≠ W.heap.size := by have := hb.size; omega
 have hn1 : pb ≠ W.heap.size := by have := hb.size; omega
 have hfl : fb < W.heap.size := by have := hb.size; omega
 have hnl : pb < W.heap.size := by have := hb.size; omega
 have HB := Aside0.mk hb
 clear hqx hs hx hb hk hq hf hn hfb hpb
 show Calls Tryd.prog 52 #[.agg #[.string x.f0, .string x.f1], .pointer (some ⟨fb, 0, none⟩), .pointer (some ⟨pb, 0, none⟩)] W fun e w' => e = .returned (.bool (q x.f0 y.f0 == some true)) ∧ Below w.heap.size w w'
 generalize (q x.f0 y.f0 == some true) = b at HQ
 go_enter Tryd.func52, Tryd.ntmps52
 go_wp2_with (go_at_fn g; refine (HS.out _ x.f0 y.f0 b HQ.out).mono ?_; rintro e w' ⟨rfl, hb'⟩; have HB' := Aside0.mk hb'; clear hb')
 go_ret
 exact ⟨rfl, (HB.out.alloc HB.out.size _).trans (HB'.out.mono (by have := HB.out.size; simp; omega))⟩
set_option maxHeartbeats 8000000 in
set_option maxRecDepth 100000 in
theorem rule_twice_at (g : Nat) (q : ByteArray → ByteArray → Option Bool) (hs : SameAt Tryd.prog g q) (eg : ∀ args W, (callFunc g args).run Tryd.prog W = .ok (.enter g args) W) (A0 : Option Addr) (c0 : Nat) (l0 : List (S49)) (w : World)
  (hr0 : Kd.C k49 w A0 l0.length l0) (hc0 : l0.length ≤ c0) (hq : twiceAll q l0 = true) :
  Calls Tryd.prog 29 #[.slice A0 l0.length c0, .func (.func g) #[] #[]] w fun e w' => e = .returned (.bool (twiceB q l0)) ∧ Below w.heap.size w w' := by
 have eg1 : ∀ args W, (callFunc 52 args).run Tryd.prog W = .ok (.enter 52 args) W := enters_of Tryd.func52 kr_ rfl
 have EG1 := Aside0.mk eg1
 have HR := Aside0.mk hr0
 have HS := Aside0.mk hs
 have EG := Aside0.mk eg
 have HQ := Aside0.mk hq
 have hmx := hr0.2.1
 clear eg1 hr0 hs eg hq
 go_enter Tryd.func29, Tryd.ntmps29
 go_wp2
 go_loopg [9] l0.length (fun gg s9 wr => ∃ kk : Nat, kk ≤ l0.length ∧ l0.length - kk ≤ gg ∧ s9 = .int .i64 kk ∧ Aside0 (Below w.heap.size w wr) ∧ Aside0 (wr.heap[w.heap.size]? = some (.cells #[.func (.func g) #[] #[]] 54 (0, 0))) ∧ Aside0 (∀ j : Nat, j < kk → twiceAt q l0 j = false))
 case atStart => exact ⟨0, Nat.zero_le _, by omega, rfl, ⟨(Below.refl _ w).alloc (Nat.le_refl _) _⟩, ⟨by unfold World.alloc; exact Array.getElem?_push_size⟩, ⟨fun j hj => absurd hj (Nat.not_lt_zero _)⟩⟩
 case round =>
  obtain ⟨kk, hkk, hg, rfl, BW, FB, AL⟩ := hrel
  by_cases hlt : kk < l0.length
  ·have p1 : (0 : Int) ≤ (kk : Int) := by omega
   have q1 : (kk : Int) < (l0.length : Int) := by omega
   have q2 : (kk : Int) ≤ (l0.length : Int) := by omega
   have q3 : (kk : Int) ≤ (c0 : Int) := by omega
   obtain ⟨ad, ea, hx_0, hx_1⟩ := at_T49 HR.out (kk : Int) p1 q1
   cases ea
   replace hx_0 := (BW.out.cell (World.block_lt_of_cell? w _ hx_0)).trans hx_0
   replace hx_1 := (BW.out.cell (World.block_lt_of_cell? w _ hx_1)).trans hx_1
   simp only [Int.toNat_natCast] at hx_0 hx_1
   have hmem : rd_T49 l0 (kk : Int) ∈ l0 := by
    unfold rd_T49
    rw [Int.toNat_natCast, getD_at _ _ hlt]
    exact List.getElem_mem hlt
   have hqa := List.all_eq_true.1 HQ.out _ hmem
   have hta : twiceAt q l0 kk = (l0.take kk).any fun x => q x.f0 (rd_T49 l0 (kk : Int)).f0 == some true := rfl
   clear hmem
   have htl : (l0.take kk).length = kk := by rw [List.length_take]; omega
   generalize hy : rd_T49 l0 (kk : Int) = y at *
   clear hy
   have hwl : w.heap.size < wr.heap.size := (Array.getElem?_eq_some_iff.1 FB.out).1
   have hcall : ∀ W, Below wr.heap.size wr W → wr.heap.size < W.heap.size → W.cell? ⟨wr.heap.size, 0, none⟩ = some (.string y.f0) → Calls Tryd.prog 28 #[.slice (some ad) kk c0, .func (.func 52) #[] #[.pointer (some ⟨w.heap.size, 0, none⟩), .pointer (some ⟨wr.heap.size, 0, none⟩)]] W fun e w' => e = .returned (.bool (twiceAt q l0 kk)) ∧ Below W.heap.size W w' := fun W hW hWl hWc => by
    have hCW : Kd.C k49 W (some ad) (l0.take kk).length (l0.take kk) := C_take (Kd.C_below (Kd.C_below HR.out BW.out) hW) kk
    have := slices_ContainsFunc_at (some ad) c0 (l0.take kk) W hCW (fun x => q x.f0 y.f0 == some true) 52 _ EG1.out (twice1_pred g q HS.out w.heap.size wr.heap.size y W (l0.take kk) (by omega) hWl ((hW.cell (p := ⟨w.heap.size, 0, none⟩) hwl).trans ((blk_cell FB.out 0).trans rfl)) hWc EG.out (fun x hx => List.all_eq_true.1 hqa x (List.mem_of_mem_take hx)))
    rw [htl, ← hta] at this
    exact this
   have HC := Aside0.mk hcall
   clear hcall hqa hta htl
   replace p1 := eq_true p1
   replace q1 := eq_true q1
   replace q2 := eq_true q2
   replace q3 := eq_true q3
   cases ht : twiceAt q l0 kk with
   | true =>
    have HT := Aside0.mk ht
    rw [ht] at HC
    clear ht
    go_wp2_with (go_at_call 28; refine (HC.out _ ((Below.refl _ wr).alloc (Nat.le_refl _) _) (by simp) (by simp [World.cell?_alloc_new])).mono ?_; rintro e w' ⟨rfl, hb'⟩; have HB' := Aside0.mk hb'; clear hb')
    go_ret
    refine ⟨?_, (BW.out.alloc BW.out.size _).trans (HB'.out.mono (by have := BW.out.size; simp; omega))⟩
    rw [twiceB_hit q l0 kk hlt HT.out]; rfl
   | false =>
    have HT := Aside0.mk ht
    rw [ht] at HC
    clear ht
    go_wp2_with (go_at_call 28; refine (HC.out _ ((Below.refl _ wr).alloc (Nat.le_refl _) _) (by simp) (by simp [World.cell?_alloc_new])).mono ?_; rintro e w' ⟨rfl, hb'⟩; have BW3 := am_ ((BW.out.alloc BW.out.size _).trans (hb'.mono (by have := BW.out.size; simp; omega))); have FB3 := am_ (blk_below (blk_below FB.out ((Below.refl _ wr).alloc (Nat.le_refl _) _)) hb'); clear hb')
    go_roundg (l0.length - (kk + 1))
    case measure => omega
    case rel =>
     refine ⟨kk + 1, by omega, by omega, by go_num, BW3, FB3, ⟨fun j hj => ?_⟩⟩
     by_cases e : j = kk
     ·subst e; exact HT.out
     ·exact AL.out j (by omega)
  ·have q1 : ¬ (kk : Int) < (l0.length : Int) := by omega
   obtain rfl : kk = l0.length := by omega
   go_wp2
   go_ret
   refine ⟨?_, BW.out⟩
   rw [twiceB_miss q l0 AL.out]; rfl

/-! ### rule_twice_with_pairs_Same: function 29 with 30 -/
noncomputable def rule_twice_with_pairs_Same.q : ByteArray → ByteArray → Option Bool := pairs_Same.f
noncomputable def rule_twice_with_pairs_Same.f (l0 : List (S49)) : Option (Bool) := if twiceAll rule_twice_with_pairs_Same.q l0 = true then some (twiceB rule_twice_with_pairs_Same.q l0) else none
theorem rule_twice_with_pairs_Same.calls (A0 : Option Addr) (c0 : Nat) (l0 : List (S49)) (r : Bool) (w : World) (hr0 : Kd.C k49 w A0 l0.length l0) (hc0 : l0.length ≤ c0) (h : rule_twice_with_pairs_Same.f l0 = some r) :
  Calls Tryd.prog 29 #[.slice A0 l0.length c0, .func (.func 30) #[] #[]] w fun e w' => e = .returned (.bool r) ∧ Below w.heap.size w w' := by
 by_cases hx : twiceAll rule_twice_with_pairs_Same.q l0 = true
 ·rw [rule_twice_with_pairs_Same.f, if_pos hx] at h
  obtain rfl := Option.some.inj h
  exact rule_twice_at 30 rule_twice_with_pairs_Same.q (show SameAt Tryd.prog 30 rule_twice_with_pairs_Same.q from same_at) (enters_of Tryd.func30 kr_ rfl) A0 c0 l0 w hr0 hc0 hx
 ·rw [rule_twice_with_pairs_Same.f, if_neg hx] at h; cases h

set_option maxHeartbeats 4000000 in
theorem plain2_at : SameAt Tryd.prog 32 (fun a b => some (a.toList == b.toList)) := by
 intro W a b r h
 obtain rfl := Option.some.inj h
 clear h
 go_enter Tryd.func32, Tryd.ntmps32
 go_wp2
 go_ret
 exact ⟨rfl, Below.refl _ _⟩
/-! ### rule_twice_with_rule_May_2: function 29 with 32 -/
noncomputable def rule_twice_with_rule_May_2.q : ByteArray → ByteArray → Option Bool := fun a b => some (a.toList == b.toList)
noncomputable def rule_twice_with_rule_May_2.f (l0 : List (S49)) : Option (Bool) := if twiceAll rule_twice_with_rule_May_2.q l0 = true then some (twiceB rule_twice_with_rule_May_2.q l0) else none
theorem rule_twice_with_rule_May_2.calls (A0 : Option Addr) (c0 : Nat) (l0 : List (S49)) (r : Bool) (w : World) (hr0 : Kd.C k49 w A0 l0.length l0) (hc0 : l0.length ≤ c0) (h : rule_twice_with_rule_May_2.f l0 = some r) :
  Calls Tryd.prog 29 #[.slice A0 l0.length c0, .func (.func 32) #[] #[]] w fun e w' => e = .returned (.bool r) ∧ Below w.heap.size w w' := by
 by_cases hx : twiceAll rule_twice_with_rule_May_2.q l0 = true
 ·rw [rule_twice_with_rule_May_2.f, if_pos hx] at h
  obtain rfl := Option.some.inj h
  exact rule_twice_at 32 rule_twice_with_rule_May_2.q (show SameAt Tryd.prog 32 rule_twice_with_rule_May_2.q from plain2_at) (enters_of Tryd.func32 kr_ rfl) A0 c0 l0 w hr0 hc0 hx
 ·rw [rule_twice_with_rule_May_2.f, if_neg hx] at h; cases h

/-! ### rule_May: function 12 -/
mutual
noncomputable def rule_May.j0 : Nat → Bool → Int → ByteArray → ByteArray → List (S49) → List (S49) → Option (Bool)
 | 0, _, _, _, _, _, _ => none
 | k + 1, x4, x156000, x156001, x156002, x156003, x156004 => if x4 = true then (some false) else (if (x156003.length : Int) > 8 then (rule_May.j1 k true x156000 x156001 x156002 x156003 x156004) else ((slices_ContainsFunc_with_rule_May_1.f x156003).bind fun t158 => (if t158 = true then (rule_May.j1 k true x156000 x156001 x156002 x156003 x156004) else ((rule_twice_with_pairs_Same.f x156003).bind fun t159 => (rule_May.j1 k t159 x156000 x156001 x156002 x156003 x156004)))))
noncomputable def rule_May.j1 : Nat → Bool → Int → ByteArray → ByteArray → List (S49) → List (S49) → Option (Bool)
 | 0, _, _, _, _, _, _ => none
 | k + 1, x20, x156000, x156001, x156002, x156003, x156004 => if x20 = true then (some false) else (if (x156004.length : Int) ≤ 8 then ((query_May.f k x156004).bind fun t160 => (if t160 = true then ((rule_twice_with_rule_May_2.f x156004).bind fun t161 => (some (!t161))) else (some false))) else (some false))
end
noncomputable def rule_May.f (k : Nat) (a0_0 : Int) (a0_1 : ByteArray) (a0_2 : ByteArray) (l0_3 : List (S49)) (l0_4 : List (S49)) : Option (Bool) := (path_May.f a0_0 a0_1).bind fun t156 => (if t156 = true then (if a0_2.toList = ([] : List UInt8) then (rule_May.j0 k false a0_0 a0_1 a0_2 l0_3 l0_4) else ((rule_Method.f a0_2).bind fun t157 => (rule_May.j0 k (!t157) a0_0 a0_1 a0_2 l0_3 l0_4))) else (rule_May.j0 k true a0_0 a0_1 a0_2 l0_3 l0_4))
theorem rule_May.mono_l : ∀ k, (∀ y0 y1 y2 y3 y4 y5, LeO (rule_May.j0 k y0 y1 y2 y3 y4 y5) (rule_May.j0 (k + 1) y0 y1 y2 y3 y4 y5)) ∧ (∀ y0 y1 y2 y3 y4 y5, LeO (rule_May.j1 k y0 y1 y2 y3 y4 y5) (rule_May.j1 (k + 1) y0 y1 y2 y3 y4 y5))
 | 0 => ⟨fun _ _ _ _ _ _ r h => by simp [rule_May.j0] at h, fun _ _ _ _ _ _ r h => by simp [rule_May.j1] at h⟩
 | k + 1 => by
  obtain ⟨ih0, ih1⟩ := rule_May.mono_l k
  refine ⟨?_, ?_⟩
  ·intro y0 y1 y2 y3 y4 y5
   unfold rule_May.j0
   repeat' first
   | (with_reducible exact ih0 _ _ _ _ _ _)
   | (with_reducible exact ih1 _ _ _ _ _ _)
   | (with_reducible exact query_May.mono _ _)
   | (with_reducible exact LeO.refl _)
   | (with_reducible exact LeO.none _)
   | (with_reducible refine LeO.ite ?_ ?_)
   | (with_reducible refine LeO.bind ?_ (fun _ => ?_))
   | exact ih0 _ _ _ _ _ _
   | exact ih1 _ _ _ _ _ _
   | exact query_May.mono _ _
   | exact LeO.none _
   | refine LeO.ite ?_ ?_
   | refine LeO.bind ?_ (fun _ => ?_)
  ·intro y0 y1 y2 y3 y4 y5
   unfold rule_May.j1
   repeat' first
   | (with_reducible exact ih0 _ _ _ _ _ _)
   | (with_reducible exact ih1 _ _ _ _ _ _)
   | (with_reducible exact query_May.mono _ _)
   | (with_reducible exact LeO.refl _)
   | (with_reducible exact LeO.none _)
   | (with_reducible refine LeO.ite ?_ ?_)
   | (with_reducible refine LeO.bind ?_ (fun _ => ?_))
   | exact ih0 _ _ _ _ _ _
   | exact ih1 _ _ _ _ _ _
   | exact query_May.mono _ _
   | exact LeO.none _
   | refine LeO.ite ?_ ?_
   | refine LeO.bind ?_ (fun _ => ?_)
theorem rule_May.mono : ∀ a0 a1 a2 a3 a4 k, LeO (rule_May.f k a0 a1 a2 a3 a4) (rule_May.f (k + 1) a0 a1 a2 a3 a4) := by
 intro a0 a1 a2 a3 a4 k
 obtain ⟨ih0, ih1⟩ := rule_May.mono_l k
 unfold rule_May.f
 repeat' first
   | (with_reducible exact ih0 _ _ _ _ _ _)
   | (with_reducible exact ih1 _ _ _ _ _ _)
   | (with_reducible exact query_May.mono _ _)
   | (with_reducible exact LeO.refl _)
   | (with_reducible exact LeO.none _)
   | (with_reducible refine LeO.ite ?_ ?_)
   | (with_reducible refine LeO.bind ?_ (fun _ => ?_))
   | exact ih0 _ _ _ _ _ _
   | exact ih1 _ _ _ _ _ _
   | exact query_May.mono _ _
   | exact LeO.none _
   | refine LeO.ite ?_ ?_
   | refine LeO.bind ?_ (fun _ => ?_)
set_option maxHeartbeats 8000000 in
set_option maxRecDepth 100000 in
theorem rule_May.calls (k : Nat) (a0_0 : Int) (a0_1 : ByteArray) (a0_2 : ByteArray) (A0_3 : Option Addr) (c0_3 : Nat) (l0_3 : List (S49)) (A0_4 : Option Addr) (c0_4 : Nat) (l0_4 : List (S49)) (r : Bool) (w : World) (hr0_3 : Kd.C k49 w A0_3 l0_3.length l0_3) (hc0_3 : l0_3.length ≤ c0_3) (hr0_4 : Kd.C k49 w A0_4 l0_4.length l0_4) (hc0_4 : l0_4.length ≤ c0_4) (h : rule_May.f k a0_0 a0_1 a0_2 l0_3 l0_4 = some r) :
  Calls Tryd.prog 12 #[.agg #[.int .i64 a0_0, .string a0_1, .string a0_2, .slice A0_3 l0_3.length c0_3, .slice A0_4 l0_4.length c0_4]] w fun e w' => e = .returned (.bool r) ∧ Below w.heap.size w w' := by
 have hu26 := Tryd.underlying26
 have hu23 := Tryd.underlying23
 have HR0_3 := Aside0.mk hr0_3
 have HC0_3 := Aside0.mk hc0_3
 clear hr0_3 hc0_3
 have HR0_4 := Aside0.mk hr0_4
 have HC0_4 := Aside0.mk hc0_4
 clear hr0_4 hc0_4
 have HB := am_ (Below.refl w.heap.size w)
 have H : ((path_May.f a0_0 a0_1).bind fun t156 => (if t156 = true then (if a0_2.toList = ([] : List UInt8) then (rule_May.j0 k false a0_0 a0_1 a0_2 l0_3 l0_4) else ((rule_Method.f a0_2).bind fun t157 => (rule_May.j0 k (!t157) a0_0 a0_1 a0_2 l0_3 l0_4))) else (rule_May.j0 k true a0_0 a0_1 a0_2 l0_3 l0_4))) = some r := h
 clear h
 have HC2 := Aside0.mk H
 clear H
 go_enter Tryd.func12, Tryd.ntmps12
 go_upto_region 2 with (first | ((with_reducible refine gate_dst (N := 1) rfl ?_); refine box_event ?hg (N := 1) ?hd (cs := #[.int .i64 a0_0, .string a0_1, .string a0_2, .slice A0_3 l0_3.length c0_3, .slice A0_4 l0_4.length c0_4]) (t := 26) ?hr ?_; (case hd => rfl); (case hg => rfl); (case hr => first | (go_simp; done) | (go_simp; rfl)); intro gb155 hg w3 hbox hb; have n0_ := am_ (below_step (bel_ HB.out) hb); have n1_ := am_ (hbox); have n2_ := am_ ((by rw [hg]; exact (below_size (bel_ HB.out)) : w.heap.size ≤ gb155)); have n3_ := am_ ((by rw [hg]; exact (below_size (bel_ HB.out)) : w.heap.size ≤ gb155)); clear HB; have HB := n0_; have BK155 := n1_; have GW155 := n2_; have GE155 := n3_; clear n0_ n1_ n2_ n3_ hb hbox hg))
 (try simp only [Act.put, List.setIfInBounds_toArray, List.set_cons_zero, List.set_cons_succ])
 go_cut [4] (fun v4 wc => ∃ (kq : Nat) (x4_1 : Bool), v4 = .bool x4_1 ∧ Aside0 (rule_May.j0 kq x4_1 a0_0 a0_1 a0_2 l0_3 l0_4 = some r) ∧ Aside0 (kq ≤ k) ∧ Aside0 (wc.heap[gb155]? = some (.cells #[.int .i64 a0_0, .string a0_1, .string a0_2, (.slice A0_3 l0_3.length c0_3), (.slice A0_4 l0_4.length c0_4)] 26 (0, 0))) ∧ Aside0 (Below w.heap.size w wc))
 case first =>
  have H := HC2.out
  clear HC2
  replace H := Option.bind_eq_some_iff.mp H
  obtain ⟨t156, A40, H⟩ := H
  replace H : (if t156 = true then (if a0_2.toList = ([] : List UInt8) then (rule_May.j0 k false a0_0 a0_1 a0_2 l0_3 l0_4) else ((rule_Method.f a0_2).bind fun t157 => (rule_May.j0 k (!t157) a0_0 a0_1 a0_2 l0_3 l0_4))) else (rule_May.j0 k true a0_0 a0_1 a0_2 l0_3 l0_4)) = some r := H
  have A4 := Aside0.mk A40
  clear A40
  by_cases c5 : t156 = true
  ·subst c5
   have H1 : (if a0_2.toList = ([] : List UInt8) then (rule_May.j0 k false a0_0 a0_1 a0_2 l0_3 l0_4) else ((rule_Method.f a0_2).bind fun t157 => (rule_May.j0 k (!t157) a0_0 a0_1 a0_2 l0_3 l0_4))) = some r := by rw [if_pos rfl] at H; exact H
   clear H
   have H := H1
   clear H1
   by_cases c6 : a0_2.toList = ([] : List UInt8)
   ·rw [if_pos c6] at H
    have c6b0 : (a0_2.toList == ([] : List UInt8)) = true := beq_iff_eq.mpr c6
    have c6b1 : (a0_2.toList != ([] : List UInt8)) = false := bne_eq_false_iff_eq.mpr c6
    clear c6
    (first | rw [c6b0] | rw [c6b1] | rw [c6b2] | (simp only [i64_w, i32_w]; rw [c6b0]) | skip)
    have H' := Aside0.mk H
    clear H
    have hcz7_0 : w3.cell? ⟨gb155, 0, none⟩ = some (.int .i64 a0_0) := (blk_cell BK155.out 0).trans rfl
    have hcz7_1 : w3.cell? ⟨gb155, 1, none⟩ = some (.string a0_1) := (blk_cell BK155.out 1).trans rfl
    have hcz7_2 : w3.cell? ⟨gb155, 2, none⟩ = some (.string a0_2) := (blk_cell BK155.out 2).trans rfl
    have hcz7_3 : w3.cell? ⟨gb155, 3, none⟩ = some (.slice A0_3 l0_3.length c0_3) := (blk_cell BK155.out 3).trans rfl
    have hcz7_4 : w3.cell? ⟨gb155, 4, none⟩ = some (.slice A0_4 l0_4.length c0_4) := (blk_cell BK155.out 4).trans rfl
    have hfz7_0 := blk_frozen BK155.out 0
    have hfz7_1 := blk_frozen BK155.out 1
    have hfz7_2 := blk_frozen BK155.out 2
    have hfz7_3 := blk_frozen BK155.out 3
    have hfz7_4 := blk_frozen BK155.out 4
    go_wp2_with (first | ((with_reducible refine gate_callee (f := 27) rfl ?_); refine goesL_ (some 7) rfl rfl Tryd.func27 kr_ rfl #[.agg #[.int .i64 a0_0, .string a0_1]] rfl rl_ ?_; (with_reducible refine (path_May.calls a0_0 a0_1 true _ A4.out).mono ?_); rintro e w8 ⟨rfl, hb⟩; refine ⟨_, rfl, ?_⟩; have n0_ := am_ (blk_below (g := gb155) (o := .cells #[.int .i64 a0_0, .string a0_1, .string a0_2, .slice A0_3 l0_3.length c0_3, .slice A0_4 l0_4.length c0_4] 26 (0, 0)) (blk_ BK155.out) hb); have n1_ := am_ (below_step (bel_ HB.out) hb); clear BK155 HB; have BK155 := n0_; have HB := n1_; clear n0_ n1_; (try clear hb); (try clear hb2); (try clear hk); (try clear hi); have hcz9_0 : w8.cell? ⟨gb155, 0, none⟩ = some (.int .i64 a0_0) := (blk_cell BK155.out 0).trans rfl; have hcz9_1 : w8.cell? ⟨gb155, 1, none⟩ = some (.string a0_1) := (blk_cell BK155.out 1).trans rfl; have hcz9_2 : w8.cell? ⟨gb155, 2, none⟩ = some (.string a0_2) := (blk_cell BK155.out 2).trans rfl; have hcz9_3 : w8.cell? ⟨gb155, 3, none⟩ = some (.slice A0_3 l0_3.length c0_3) := (blk_cell BK155.out 3).trans rfl; have hcz9_4 : w8.cell? ⟨gb155, 4, none⟩ = some (.slice A0_4 l0_4.length c0_4) := (blk_cell BK155.out 4).trans rfl; have hfz9_0 := blk_frozen BK155.out 0; have hfz9_1 := blk_frozen BK155.out 1; have hfz9_2 := blk_frozen BK155.out 2; have hfz9_3 := blk_frozen BK155.out 3; have hfz9_4 := blk_frozen BK155.out 4))
    go_meet
    case rel => exact ⟨_, (false), sd_, H', ⟨by first | omega | exact Nat.le_refl _⟩, ⟨by (with_reducible repeat (first | refine blk_drewN ?_ _ | refine blk_drew ?_ | refine blk_alloc ?_ _)); exact BK155.out⟩, ⟨bel_ HB.out⟩⟩
   ·rw [if_neg c6] at H
    have c6b0 : (a0_2.toList == ([] : List UInt8)) = false := beq_eq_false_iff_ne.mpr c6
    have c6b1 : (a0_2.toList != ([] : List UInt8)) = true := bne_iff_ne.mpr c6
    (first | rw [c6b0] | rw [c6b1] | rw [c6b2] | (simp only [i64_w, i32_w]; rw [c6b0]) | skip)
    replace H := Option.bind_eq_some_iff.mp H
    obtain ⟨t157, A100, H⟩ := H
    replace H : (rule_May.j0 k (!t157) a0_0 a0_1 a0_2 l0_3 l0_4) = some r := H
    have A10 := Aside0.mk A100
    clear A100
    have H' := Aside0.mk H
    clear H
    have hcz11_0 : w3.cell? ⟨gb155, 0, none⟩ = some (.int .i64 a0_0) := (blk_cell BK155.out 0).trans rfl
    have hcz11_1 : w3.cell? ⟨gb155, 1, none⟩ = some (.string a0_1) := (blk_cell BK155.out 1).trans rfl
    have hcz11_2 : w3.cell? ⟨gb155, 2, none⟩ = some (.string a0_2) := (blk_cell BK155.out 2).trans rfl
    have hcz11_3 : w3.cell? ⟨gb155, 3, none⟩ = some (.slice A0_3 l0_3.length c0_3) := (blk_cell BK155.out 3).trans rfl
    have hcz11_4 : w3.cell? ⟨gb155, 4, none⟩ = some (.slice A0_4 l0_4.length c0_4) := (blk_cell BK155.out 4).trans rfl
    have hfz11_0 := blk_frozen BK155.out 0
    have hfz11_1 := blk_frozen BK155.out 1
    have hfz11_2 := blk_frozen BK155.out 2
    have hfz11_3 := blk_frozen BK155.out 3
    have hfz11_4 := blk_frozen BK155.out 4
    go_wp2_with (first | ((with_reducible refine gate_callee (f := 27) rfl ?_); refine goesL_ (some 7) rfl rfl Tryd.func27 kr_ rfl #[.agg #[.int .i64 a0_0, .string a0_1]] rfl rl_ ?_; (with_reducible refine (path_May.calls a0_0 a0_1 true _ A4.out).mono ?_); rintro e w12 ⟨rfl, hb⟩; refine ⟨_, rfl, ?_⟩; have n0_ := am_ (blk_below (g := gb155) (o := .cells #[.int .i64 a0_0, .string a0_1, .string a0_2, .slice A0_3 l0_3.length c0_3, .slice A0_4 l0_4.length c0_4] 26 (0, 0)) (blk_ BK155.out) hb); have n1_ := am_ (below_step (bel_ HB.out) hb); clear BK155 HB; have BK155 := n0_; have HB := n1_; clear n0_ n1_; (try clear hb); (try clear hb2); (try clear hk); (try clear hi); have hcz13_0 : w12.cell? ⟨gb155, 0, none⟩ = some (.int .i64 a0_0) := (blk_cell BK155.out 0).trans rfl; have hcz13_1 : w12.cell? ⟨gb155, 1, none⟩ = some (.string a0_1) := (blk_cell BK155.out 1).trans rfl; have hcz13_2 : w12.cell? ⟨gb155, 2, none⟩ = some (.string a0_2) := (blk_cell BK155.out 2).trans rfl; have hcz13_3 : w12.cell? ⟨gb155, 3, none⟩ = some (.slice A0_3 l0_3.length c0_3) := (blk_cell BK155.out 3).trans rfl; have hcz13_4 : w12.cell? ⟨gb155, 4, none⟩ = some (.slice A0_4 l0_4.length c0_4) := (blk_cell BK155.out 4).trans rfl; have hfz13_0 := blk_frozen BK155.out 0; have hfz13_1 := blk_frozen BK155.out 1; have hfz13_2 := blk_frozen BK155.out 2; have hfz13_3 := blk_frozen BK155.out 3; have hfz13_4 := blk_frozen BK155.out 4) | (go_at_call 16; (with_reducible refine (rule_Method.calls a0_2 t157 _ A10.out).mono ?_); rintro e w14 ⟨rfl, hb⟩; have n0_ := am_ (blk_below (g := gb155) (o := .cells #[.int .i64 a0_0, .string a0_1, .string a0_2, .slice A0_3 l0_3.length c0_3, .slice A0_4 l0_4.length c0_4] 26 (0, 0)) (blk_ BK155.out) hb); have n1_ := am_ (below_step (bel_ HB.out) hb); clear BK155 HB; have BK155 := n0_; have HB := n1_; clear n0_ n1_; (try clear hb); (try clear hb2); (try clear hk); (try clear hi)))
    go_meet
    case rel => exact ⟨_, (!t157), sd_, H', ⟨by first | omega | exact Nat.le_refl _⟩, ⟨by (with_reducible repeat (first | refine blk_drewN ?_ _ | refine blk_drew ?_ | refine blk_alloc ?_ _)); exact BK155.out⟩, ⟨bel_ HB.out⟩⟩
  ·replace c5 := Bool.eq_false_iff.mpr c5
   subst c5
   have H1 : (rule_May.j0 k true a0_0 a0_1 a0_2 l0_3 l0_4) = some r := by rw [if_neg (show ¬ (false = true) by decide)] at H; exact H
   clear H
   have H := H1
   clear H1
   have H' := Aside0.mk H
   clear H
   have hcz15_0 : w3.cell? ⟨gb155, 0, none⟩ = some (.int .i64 a0_0) := (blk_cell BK155.out 0).trans rfl
   have hcz15_1 : w3.cell? ⟨gb155, 1, none⟩ = some (.string a0_1) := (blk_cell BK155.out 1).trans rfl
   have hcz15_2 : w3.cell? ⟨gb155, 2, none⟩ = some (.string a0_2) := (blk_cell BK155.out 2).trans rfl
   have hcz15_3 : w3.cell? ⟨gb155, 3, none⟩ = some (.slice A0_3 l0_3.length c0_3) := (blk_cell BK155.out 3).trans rfl
   have hcz15_4 : w3.cell? ⟨gb155, 4, none⟩ = some (.slice A0_4 l0_4.length c0_4) := (blk_cell BK155.out 4).trans rfl
   have hfz15_0 := blk_frozen BK155.out 0
   have hfz15_1 := blk_frozen BK155.out 1
   have hfz15_2 := blk_frozen BK155.out 2
   have hfz15_3 := blk_frozen BK155.out 3
   have hfz15_4 := blk_frozen BK155.out 4
   go_wp2_with (first | ((with_reducible refine gate_callee (f := 27) rfl ?_); refine goesL_ (some 7) rfl rfl Tryd.func27 kr_ rfl #[.agg #[.int .i64 a0_0, .string a0_1]] rfl rl_ ?_; (with_reducible refine (path_May.calls a0_0 a0_1 false _ A4.out).mono ?_); rintro e w16 ⟨rfl, hb⟩; refine ⟨_, rfl, ?_⟩; have n0_ := am_ (blk_below (g := gb155) (o := .cells #[.int .i64 a0_0, .string a0_1, .string a0_2, .slice A0_3 l0_3.length c0_3, .slice A0_4 l0_4.length c0_4] 26 (0, 0)) (blk_ BK155.out) hb); have n1_ := am_ (below_step (bel_ HB.out) hb); clear BK155 HB; have BK155 := n0_; have HB := n1_; clear n0_ n1_; (try clear hb); (try clear hb2); (try clear hk); (try clear hi)))
   go_meet
   case rel => exact ⟨_, (true), sd_, H', ⟨by first | omega | exact Nat.le_refl _⟩, ⟨by (with_reducible repeat (first | refine blk_drewN ?_ _ | refine blk_drew ?_ | refine blk_alloc ?_ _)); exact BK155.out⟩, ⟨bel_ HB.out⟩⟩
 case rest =>
  clear HC2
  try clear c1
  try clear c2
  try clear p2
  try clear c5
  try clear c6
  try clear c6b0
  try clear c6b1
  try clear c6b2
  try clear c12
  try clear hcz11_0
  try clear hcz11_1
  try clear hcz11_2
  try clear hcz11_3
  try clear hcz11_4
  try clear hcz13_0
  try clear hcz13_1
  try clear hcz13_2
  try clear hcz13_3
  try clear hcz13_4
  try clear hcz15_0
  try clear hcz15_1
  try clear hcz15_2
  try clear hcz15_3
  try clear hcz15_4
  try clear hcz7_0
  try clear hcz7_1
  try clear hcz7_2
  try clear hcz7_3
  try clear hcz7_4
  try clear hcz9_0
  try clear hcz9_1
  try clear hcz9_2
  try clear hcz9_3
  try clear hcz9_4
  try clear hfz11_0
  try clear hfz11_1
  try clear hfz11_2
  try clear hfz11_3
  try clear hfz11_4
  try clear hfz13_0
  try clear hfz13_1
  try clear hfz13_2
  try clear hfz13_3
  try clear hfz13_4
  try clear hfz15_0
  try clear hfz15_1
  try clear hfz15_2
  try clear hfz15_3
  try clear hfz15_4
  try clear hfz7_0
  try clear hfz7_1
  try clear hfz7_2
  try clear hfz7_3
  try clear hfz7_4
  try clear hfz9_0
  try clear hfz9_1
  try clear hfz9_2
  try clear hfz9_3
  try clear hfz9_4
  obtain ⟨kq, x4_1, rfl, HA, HJ1, BK155, HB⟩ := hcut
  cases kq with
  | zero => exact absurd HA.out (by simp [rule_May.j0])
  | succ kj1 =>
   have H := HA.out
   clear HA
   simp only [rule_May.j0] at H
   by_cases c17 : x4_1 = true
   ·subst c17
    have H1 : (some false) = some r := by rw [if_pos rfl] at H; exact H
    clear H
    have H := H1
    clear H1
    obtain rfl := Option.some.inj H
    go_wp2
    go_ret
    exact ⟨fi_, bel_ HB.out⟩
   ·replace c17 := Bool.eq_false_iff.mpr c17
    subst c17
    have H1 : (if (l0_3.length : Int) > 8 then (rule_May.j1 kj1 true a0_0 a0_1 a0_2 l0_3 l0_4) else ((slices_ContainsFunc_with_rule_May_1.f l0_3).bind fun t158 => (if t158 = true then (rule_May.j1 kj1 true a0_0 a0_1 a0_2 l0_3 l0_4) else ((rule_twice_with_pairs_Same.f l0_3).bind fun t159 => (rule_May.j1 kj1 t159 a0_0 a0_1 a0_2 l0_3 l0_4))))) = some r := by rw [if_neg (show ¬ (false = true) by decide)] at H; exact H
    clear H
    have H := H1
    clear H1
    have HC18 := Aside0.mk H
    clear H
    go_upto_region 4 with (fail)
    go_cut [20] (fun v20 wc => ∃ (kq : Nat) (x20_17 : Bool), v20 = .bool x20_17 ∧ Aside0 (rule_May.j1 kq x20_17 a0_0 a0_1 a0_2 l0_3 l0_4 = some r) ∧ Aside0 (kq ≤ kj1) ∧ Aside0 (wc.heap[gb155]? = some (.cells #[.int .i64 a0_0, .string a0_1, .string a0_2, (.slice A0_3 l0_3.length c0_3), (.slice A0_4 l0_4.length c0_4)] 26 (0, 0))) ∧ Aside0 (Below w.heap.size w wc))
    case first =>
     have H := HC18.out
     clear HC18
     by_cases c19 : (l0_3.length : Int) > 8
     ·rw [if_pos c19] at H
      have c19b0 : decide (8 < (l0_3.length : Int)) = true := decide_eq_true c19
      have c19b1 : decide (8 < l0_3.length) = true := decide_eq_true (by omega)
      clear c19
      (first | rw [c19b0] | rw [c19b1] | rw [c19b2] | (simp only [i64_w, i32_w]; rw [c19b0]) | skip)
      have H' := Aside0.mk H
      clear H
      have hcz20_0 : wc.cell? ⟨gb155, 0, none⟩ = some (.int .i64 a0_0) := (blk_cell BK155.out 0).trans rfl
      have hcz20_1 : wc.cell? ⟨gb155, 1, none⟩ = some (.string a0_1) := (blk_cell BK155.out 1).trans rfl
      have hcz20_2 : wc.cell? ⟨gb155, 2, none⟩ = some (.string a0_2) := (blk_cell BK155.out 2).trans rfl
      have hcz20_3 : wc.cell? ⟨gb155, 3, none⟩ = some (.slice A0_3 l0_3.length c0_3) := (blk_cell BK155.out 3).trans rfl
      have hcz20_4 : wc.cell? ⟨gb155, 4, none⟩ = some (.slice A0_4 l0_4.length c0_4) := (blk_cell BK155.out 4).trans rfl
      have hfz20_0 := blk_frozen BK155.out 0
      have hfz20_1 := blk_frozen BK155.out 1
      have hfz20_2 := blk_frozen BK155.out 2
      have hfz20_3 := blk_frozen BK155.out 3
      have hfz20_4 := blk_frozen BK155.out 4
      go_wp2
      go_meet
      case rel => exact ⟨_, (true), sd_, H', ⟨by have := HJ1.out; first | omega | exact Nat.le_refl _⟩, ⟨by (with_reducible repeat (first | refine blk_drewN ?_ _ | refine blk_drew ?_ | refine blk_alloc ?_ _)); exact BK155.out⟩, ⟨bel_ HB.out⟩⟩
     ·rw [if_neg c19] at H
      have c19b0 : decide (8 < (l0_3.length : Int)) = false := decide_eq_false c19
      have c19b1 : decide (8 < l0_3.length) = false := decide_eq_false (by omega)
      clear c19
      (first | rw [c19b0] | rw [c19b1] | rw [c19b2] | (simp only [i64_w, i32_w]; rw [c19b0]) | skip)
      replace H := Option.bind_eq_some_iff.mp H
      obtain ⟨t158, A210, H⟩ := H
      replace H : (if t158 = true then (rule_May.j1 kj1 true a0_0 a0_1 a0_2 l0_3 l0_4) else ((rule_twice_with_pairs_Same.f l0_3).bind fun t159 => (rule_May.j1 kj1 t159 a0_0 a0_1 a0_2 l0_3 l0_4))) = some r := H
      have A21 := Aside0.mk A210
      clear A210
      by_cases c22 : t158 = true
      ·subst c22
       have H1 : (rule_May.j1 kj1 true a0_0 a0_1 a0_2 l0_3 l0_4) = some r := by rw [if_pos rfl] at H; exact H
       clear H
       have H := H1
       clear H1
       have H' := Aside0.mk H
       clear H
       have hcz23_0 : wc.cell? ⟨gb155, 0, none⟩ = some (.int .i64 a0_0) := (blk_cell BK155.out 0).trans rfl
       have hcz23_1 : wc.cell? ⟨gb155, 1, none⟩ = some (.string a0_1) := (blk_cell BK155.out 1).trans rfl
       have hcz23_2 : wc.cell? ⟨gb155, 2, none⟩ = some (.string a0_2) := (blk_cell BK155.out 2).trans rfl
       have hcz23_3 : wc.cell? ⟨gb155, 3, none⟩ = some (.slice A0_3 l0_3.length c0_3) := (blk_cell BK155.out 3).trans rfl
       have hcz23_4 : wc.cell? ⟨gb155, 4, none⟩ = some (.slice A0_4 l0_4.length c0_4) := (blk_cell BK155.out 4).trans rfl
       have hfz23_0 := blk_frozen BK155.out 0
       have hfz23_1 := blk_frozen BK155.out 1
       have hfz23_2 := blk_frozen BK155.out 2
       have hfz23_3 := blk_frozen BK155.out 3
       have hfz23_4 := blk_frozen BK155.out 4
       go_wp2_with (first | (go_at_call 28; (with_reducible refine (slices_ContainsFunc_with_rule_May_1.calls _ _ l0_3 true _ ?side1 ?side2 A21.out).mono ?_); (case side1 => exact C_ (Kd.C_below HR0_3.out HB.out)); (case side2 => exact HC0_3.out); rintro e w24 ⟨rfl, hb⟩; have n0_ := am_ (blk_below (g := gb155) (o := .cells #[.int .i64 a0_0, .string a0_1, .string a0_2, .slice A0_3 l0_3.length c0_3, .slice A0_4 l0_4.length c0_4] 26 (0, 0)) (blk_ BK155.out) hb); have n1_ := am_ (below_step (bel_ HB.out) hb); clear BK155 HB; have BK155 := n0_; have HB := n1_; clear n0_ n1_; (try clear hb); (try clear hb2); (try clear hk); (try clear hi)))
       go_meet
       case rel => exact ⟨_, (true), sd_, H', ⟨by have := HJ1.out; first | omega | exact Nat.le_refl _⟩, ⟨by (with_reducible repeat (first | refine blk_drewN ?_ _ | refine blk_drew ?_ | refine blk_alloc ?_ _)); exact BK155.out⟩, ⟨bel_ HB.out⟩⟩
      ·replace c22 := Bool.eq_false_iff.mpr c22
       subst c22
       have H1 : ((rule_twice_with_pairs_Same.f l0_3).bind fun t159 => (rule_May.j1 kj1 t159 a0_0 a0_1 a0_2 l0_3 l0_4)) = some r := by rw [if_neg (show ¬ (false = true) by decide)] at H; exact H
       clear H
       have H := H1
       clear H1
       replace H := Option.bind_eq_some_iff.mp H
       obtain ⟨t159, A250, H⟩ := H
       replace H : (rule_May.j1 kj1 t159 a0_0 a0_1 a0_2 l0_3 l0_4) = some r := H
       have A25 := Aside0.mk A250
       clear A250
       have H' := Aside0.mk H
       clear H
       have hcz26_0 : wc.cell? ⟨gb155, 0, none⟩ = some (.int .i64 a0_0) := (blk_cell BK155.out 0).trans rfl
       have hcz26_1 : wc.cell? ⟨gb155, 1, none⟩ = some (.string a0_1) := (blk_cell BK155.out 1).trans rfl
       have hcz26_2 : wc.cell? ⟨gb155, 2, none⟩ = some (.string a0_2) := (blk_cell BK155.out 2).trans rfl
       have hcz26_3 : wc.cell? ⟨gb155, 3, none⟩ = some (.slice A0_3 l0_3.length c0_3) := (blk_cell BK155.out 3).trans rfl
       have hcz26_4 : wc.cell? ⟨gb155, 4, none⟩ = some (.slice A0_4 l0_4.length c0_4) := (blk_cell BK155.out 4).trans rfl
       have hfz26_0 := blk_frozen BK155.out 0
       have hfz26_1 := blk_frozen BK155.out 1
       have hfz26_2 := blk_frozen BK155.out 2
       have hfz26_3 := blk_frozen BK155.out 3
       have hfz26_4 := blk_frozen BK155.out 4
       go_wp2_with (first | (go_at_call 28; (with_reducible refine (slices_ContainsFunc_with_rule_May_1.calls _ _ l0_3 false _ ?side1 ?side2 A21.out).mono ?_); (case side1 => exact C_ (Kd.C_below HR0_3.out HB.out)); (case side2 => exact HC0_3.out); rintro e w27 ⟨rfl, hb⟩; have n0_ := am_ (blk_below (g := gb155) (o := .cells #[.int .i64 a0_0, .string a0_1, .string a0_2, .slice A0_3 l0_3.length c0_3, .slice A0_4 l0_4.length c0_4] 26 (0, 0)) (blk_ BK155.out) hb); have n1_ := am_ (below_step (bel_ HB.out) hb); clear BK155 HB; have BK155 := n0_; have HB := n1_; clear n0_ n1_; (try clear hb); (try clear hb2); (try clear hk); (try clear hi); have hcz28_0 : w27.cell? ⟨gb155, 0, none⟩ = some (.int .i64 a0_0) := (blk_cell BK155.out 0).trans rfl; have hcz28_1 : w27.cell? ⟨gb155, 1, none⟩ = some (.string a0_1) := (blk_cell BK155.out 1).trans rfl; have hcz28_2 : w27.cell? ⟨gb155, 2, none⟩ = some (.string a0_2) := (blk_cell BK155.out 2).trans rfl; have hcz28_3 : w27.cell? ⟨gb155, 3, none⟩ = some (.slice A0_3 l0_3.length c0_3) := (blk_cell BK155.out 3).trans rfl; have hcz28_4 : w27.cell? ⟨gb155, 4, none⟩ = some (.slice A0_4 l0_4.length c0_4) := (blk_cell BK155.out 4).trans rfl; have hfz28_0 := blk_frozen BK155.out 0; have hfz28_1 := blk_frozen BK155.out 1; have hfz28_2 := blk_frozen BK155.out 2; have hfz28_3 := blk_frozen BK155.out 3; have hfz28_4 := blk_frozen BK155.out 4) | (go_at_call 29; (with_reducible refine (rule_twice_with_pairs_Same.calls _ _ l0_3 t159 _ ?side1 ?side2 A25.out).mono ?_); (case side1 => exact C_ (Kd.C_below HR0_3.out HB.out)); (case side2 => exact HC0_3.out); rintro e w29 ⟨rfl, hb⟩; have n0_ := am_ (blk_below (g := gb155) (o := .cells #[.int .i64 a0_0, .string a0_1, .string a0_2, .slice A0_3 l0_3.length c0_3, .slice A0_4 l0_4.length c0_4] 26 (0, 0)) (blk_ BK155.out) hb); have n1_ := am_ (below_step (bel_ HB.out) hb); clear BK155 HB; have BK155 := n0_; have HB := n1_; clear n0_ n1_; (try clear hb); (try clear hb2); (try clear hk); (try clear hi)))
       go_meet
       case rel => exact ⟨_, (t159), sd_, H', ⟨by have := HJ1.out; first | omega | exact Nat.le_refl _⟩, ⟨by (with_reducible repeat (first | refine blk_drewN ?_ _ | refine blk_drew ?_ | refine blk_alloc ?_ _)); exact BK155.out⟩, ⟨bel_ HB.out⟩⟩
    case rest =>
     clear HC18
     try clear c1
     try clear c2
     try clear p2
     try clear c5
     try clear c6
     try clear c6b0
     try clear c6b1
     try clear c6b2
     try clear c12
     try clear c17
     try clear c19
     try clear c19b0
     try clear c19b1
     try clear c19b2
     try clear c22
     try clear c27
     try clear hcz11_0
     try clear hcz11_1
     try clear hcz11_2
     try clear hcz11_3
     try clear hcz11_4
     try clear hcz13_0
     try clear hcz13_1
     try clear hcz13_2
     try clear hcz13_3
     try clear hcz13_4
     try clear hcz15_0
     try clear hcz15_1
     try clear hcz15_2
     try clear hcz15_3
     try clear hcz15_4
     try clear hcz20_0
     try clear hcz20_1
     try clear hcz20_2
     try clear hcz20_3
     try clear hcz20_4
     try clear hcz23_0
     try clear hcz23_1
     try clear hcz23_2
     try clear hcz23_3
     try clear hcz23_4
     try clear hcz26_0
     try clear hcz26_1
     try clear hcz26_2
     try clear hcz26_3
     try clear hcz26_4
     try clear hcz28_0
     try clear hcz28_1
     try clear hcz28_2
     try clear hcz28_3
     try clear hcz28_4
     try clear hcz7_0
     try clear hcz7_1
     try clear hcz7_2
     try clear hcz7_3
     try clear hcz7_4
     try clear hcz9_0
     try clear hcz9_1
     try clear hcz9_2
     try clear hcz9_3
     try clear hcz9_4
     try clear hfz11_0
     try clear hfz11_1
     try clear hfz11_2
     try clear hfz11_3
     try clear hfz11_4
     try clear hfz13_0
     try clear hfz13_1
     try clear hfz13_2
     try clear hfz13_3
     try clear hfz13_4
     try clear hfz15_0
     try clear hfz15_1
     try clear hfz15_2
     try clear hfz15_3
     try clear hfz15_4
     try clear hfz20_0
     try clear hfz20_1
     try clear hfz20_2
     try clear hfz20_3
     try clear hfz20_4
     try clear hfz23_0
     try clear hfz23_1
     try clear hfz23_2
     try clear hfz23_3
     try clear hfz23_4
     try clear hfz26_0
     try clear hfz26_1
     try clear hfz26_2
     try clear hfz26_3
     try clear hfz26_4
     try clear hfz28_0
     try clear hfz28_1
     try clear hfz28_2
     try clear hfz28_3
     try clear hfz28_4
     try clear hfz7_0
     try clear hfz7_1
     try clear hfz7_2
     try clear hfz7_3
     try clear hfz7_4
     try clear hfz9_0
     try clear hfz9_1
     try clear hfz9_2
     try clear hfz9_3
     try clear hfz9_4
     try clear p2
     obtain ⟨kq, x20_17, rfl, HA, HJ17, BK155, HB⟩ := hcut
     cases kq with
     | zero => exact absurd HA.out (by simp [rule_May.j1])
     | succ kj17 =>
      have H := HA.out
      clear HA
      simp only [rule_May.j1] at H
      by_cases c30 : x20_17 = true
      ·subst c30
       have H1 : (some false) = some r := by rw [if_pos rfl] at H; exact H
       clear H
       have H := H1
       clear H1
       obtain rfl := Option.some.inj H
       go_wp2
       go_ret
       exact ⟨fi_, bel_ HB.out⟩
      ·replace c30 := Bool.eq_false_iff.mpr c30
       subst c30
       have H1 : (if (l0_4.length : Int) ≤ 8 then ((query_May.f kj17 l0_4).bind fun t160 => (if t160 = true then ((rule_twice_with_rule_May_2.f l0_4).bind fun t161 => (some (!t161))) else (some false))) else (some false)) = some r := by rw [if_neg (show ¬ (false = true) by decide)] at H; exact H
       clear H
       have H := H1
       clear H1
       by_cases c31 : (l0_4.length : Int) ≤ 8
       ·rw [if_pos c31] at H
        have c31b0 : decide ((l0_4.length : Int) ≤ 8) = true := decide_eq_true c31
        have c31b1 : decide (l0_4.length ≤ 8) = true := decide_eq_true (by omega)
        clear c31
        replace H := Option.bind_eq_some_iff.mp H
        obtain ⟨t160, A320, H⟩ := H
        replace H : (if t160 = true then ((rule_twice_with_rule_May_2.f l0_4).bind fun t161 => (some (!t161))) else (some false)) = some r := H
        have A32 := Aside0.mk A320
        clear A320
        by_cases c33 : t160 = true
        ·subst c33
         have H1 : ((rule_twice_with_rule_May_2.f l0_4).bind fun t161 => (some (!t161))) = some r := by rw [if_pos rfl] at H; exact H
         clear H
         have H := H1
         clear H1
         replace H := Option.bind_eq_some_iff.mp H
         obtain ⟨t161, A340, H⟩ := H
         replace H : (some (!t161)) = some r := H
         have A34 := Aside0.mk A340
         clear A340
         obtain rfl := Option.some.inj H
         have hcz35_0 : wc.cell? ⟨gb155, 0, none⟩ = some (.int .i64 a0_0) := (blk_cell BK155.out 0).trans rfl
         have hcz35_1 : wc.cell? ⟨gb155, 1, none⟩ = some (.string a0_1) := (blk_cell BK155.out 1).trans rfl
         have hcz35_2 : wc.cell? ⟨gb155, 2, none⟩ = some (.string a0_2) := (blk_cell BK155.out 2).trans rfl
         have hcz35_3 : wc.cell? ⟨gb155, 3, none⟩ = some (.slice A0_3 l0_3.length c0_3) := (blk_cell BK155.out 3).trans rfl
         have hcz35_4 : wc.cell? ⟨gb155, 4, none⟩ = some (.slice A0_4 l0_4.length c0_4) := (blk_cell BK155.out 4).trans rfl
         have hfz35_0 := blk_frozen BK155.out 0
         have hfz35_1 := blk_frozen BK155.out 1
         have hfz35_2 := blk_frozen BK155.out 2
         have hfz35_3 := blk_frozen BK155.out 3
         have hfz35_4 := blk_frozen BK155.out 4
         go_wp2_with (first | (go_at_call 31; (with_reducible refine (query_May.calls kj17 _ _ l0_4 true _ ?side1 ?side2 A32.out).mono ?_); (case side1 => exact C_ (Kd.C_below HR0_4.out HB.out)); (case side2 => exact HC0_4.out); rintro e w36 ⟨rfl, hb⟩; have n0_ := am_ (blk_below (g := gb155) (o := .cells #[.int .i64 a0_0, .string a0_1, .string a0_2, .slice A0_3 l0_3.length c0_3, .slice A0_4 l0_4.length c0_4] 26 (0, 0)) (blk_ BK155.out) hb); have n1_ := am_ (below_step (bel_ HB.out) hb); clear BK155 HB; have BK155 := n0_; have HB := n1_; clear n0_ n1_; (try clear hb); (try clear hb2); (try clear hk); (try clear hi); have hcz37_0 : w36.cell? ⟨gb155, 0, none⟩ = some (.int .i64 a0_0) := (blk_cell BK155.out 0).trans rfl; have hcz37_1 : w36.cell? ⟨gb155, 1, none⟩ = some (.string a0_1) := (blk_cell BK155.out 1).trans rfl; have hcz37_2 : w36.cell? ⟨gb155, 2, none⟩ = some (.string a0_2) := (blk_cell BK155.out 2).trans rfl; have hcz37_3 : w36.cell? ⟨gb155, 3, none⟩ = some (.slice A0_3 l0_3.length c0_3) := (blk_cell BK155.out 3).trans rfl; have hcz37_4 : w36.cell? ⟨gb155, 4, none⟩ = some (.slice A0_4 l0_4.length c0_4) := (blk_cell BK155.out 4).trans rfl; have hfz37_0 := blk_frozen BK155.out 0; have hfz37_1 := blk_frozen BK155.out 1; have hfz37_2 := blk_frozen BK155.out 2; have hfz37_3 := blk_frozen BK155.out 3; have hfz37_4 := blk_frozen BK155.out 4) | (go_at_call 29; (with_reducible refine (rule_twice_with_rule_May_2.calls _ _ l0_4 t161 _ ?side1 ?side2 A34.out).mono ?_); (case side1 => exact C_ (Kd.C_below HR0_4.out HB.out)); (case side2 => exact HC0_4.out); rintro e w38 ⟨rfl, hb⟩; have n0_ := am_ (blk_below (g := gb155) (o := .cells #[.int .i64 a0_0, .string a0_1, .string a0_2, .slice A0_3 l0_3.length c0_3, .slice A0_4 l0_4.length c0_4] 26 (0, 0)) (blk_ BK155.out) hb); have n1_ := am_ (below_step (bel_ HB.out) hb); clear BK155 HB; have BK155 := n0_; have HB := n1_; clear n0_ n1_; (try clear hb); (try clear hb2); (try clear hk); (try clear hi)))
         go_ret
         exact ⟨fi_, bel_ HB.out⟩
        ·replace c33 := Bool.eq_false_iff.mpr c33
         subst c33
         have H1 : (some false) = some r := by rw [if_neg (show ¬ (false = true) by decide)] at H; exact H
         clear H
         have H := H1
         clear H1
         obtain rfl := Option.some.inj H
         have hcz39_0 : wc.cell? ⟨gb155, 0, none⟩ = some (.int .i64 a0_0) := (blk_cell BK155.out 0).trans rfl
         have hcz39_1 : wc.cell? ⟨gb155, 1, none⟩ = some (.string a0_1) := (blk_cell BK155.out 1).trans rfl
         have hcz39_2 : wc.cell? ⟨gb155, 2, none⟩ = some (.string a0_2) := (blk_cell BK155.out 2).trans rfl
         have hcz39_3 : wc.cell? ⟨gb155, 3, none⟩ = some (.slice A0_3 l0_3.length c0_3) := (blk_cell BK155.out 3).trans rfl
         have hcz39_4 : wc.cell? ⟨gb155, 4, none⟩ = some (.slice A0_4 l0_4.length c0_4) := (blk_cell BK155.out 4).trans rfl
         have hfz39_0 := blk_frozen BK155.out 0
         have hfz39_1 := blk_frozen BK155.out 1
         have hfz39_2 := blk_frozen BK155.out 2
         have hfz39_3 := blk_frozen BK155.out 3
         have hfz39_4 := blk_frozen BK155.out 4
         go_wp2_with (first | (go_at_call 31; (with_reducible refine (query_May.calls kj17 _ _ l0_4 false _ ?side1 ?side2 A32.out).mono ?_); (case side1 => exact C_ (Kd.C_below HR0_4.out HB.out)); (case side2 => exact HC0_4.out); rintro e w40 ⟨rfl, hb⟩; have n0_ := am_ (blk_below (g := gb155) (o := .cells #[.int .i64 a0_0, .string a0_1, .string a0_2, .slice A0_3 l0_3.length c0_3, .slice A0_4 l0_4.length c0_4] 26 (0, 0)) (blk_ BK155.out) hb); have n1_ := am_ (below_step (bel_ HB.out) hb); clear BK155 HB; have BK155 := n0_; have HB := n1_; clear n0_ n1_; (try clear hb); (try clear hb2); (try clear hk); (try clear hi)))
         go_ret
         exact ⟨fi_, bel_ HB.out⟩
       ·rw [if_neg c31] at H
        have c31b0 : decide ((l0_4.length : Int) ≤ 8) = false := decide_eq_false c31
        have c31b1 : decide (l0_4.length ≤ 8) = false := decide_eq_false (by omega)
        clear c31
        obtain rfl := Option.some.inj H
        have hcz41_0 : wc.cell? ⟨gb155, 0, none⟩ = some (.int .i64 a0_0) := (blk_cell BK155.out 0).trans rfl
        have hcz41_1 : wc.cell? ⟨gb155, 1, none⟩ = some (.string a0_1) := (blk_cell BK155.out 1).trans rfl
        have hcz41_2 : wc.cell? ⟨gb155, 2, none⟩ = some (.string a0_2) := (blk_cell BK155.out 2).trans rfl
        have hcz41_3 : wc.cell? ⟨gb155, 3, none⟩ = some (.slice A0_3 l0_3.length c0_3) := (blk_cell BK155.out 3).trans rfl
        have hcz41_4 : wc.cell? ⟨gb155, 4, none⟩ = some (.slice A0_4 l0_4.length c0_4) := (blk_cell BK155.out 4).trans rfl
        have hfz41_0 := blk_frozen BK155.out 0
        have hfz41_1 := blk_frozen BK155.out 1
        have hfz41_2 := blk_frozen BK155.out 2
        have hfz41_3 := blk_frozen BK155.out 3
        have hfz41_4 := blk_frozen BK155.out 4
        go_wp2
        go_ret
        exact ⟨fi_, bel_ HB.out⟩

/-! ### path_Holds: function 38 -/
noncomputable def path_Holds.j0 : Nat → ByteArray → Bool → Int → ByteArray → Option (Bool)
 | 0, _, _, _, _ => none
 | k + 1, x1, x5, x163000, x163001 => if x5 = true then (some false) else (if x163001.toList = x1.toList then (some true) else (if x163000 = 2 then (if x163001.toList = ([47] : List UInt8) then (some true) else (if x163001.size + 1 ≤ 9223372036854775807 then ((strings_HasPrefix.f x1 (x163001 ++ (⟨#[47]⟩ : ByteArray))).bind fun t165 => (some t165)) else (none))) else (some false)))
noncomputable def path_Holds.f (k : Nat) (a0_0 : Int) (a0_1 : ByteArray) (a1 : ByteArray) : Option (Bool) := (path_May.f a0_0 a0_1).bind fun t163 => (if t163 = true then ((path_Is.f a1).bind fun t164 => (path_Holds.j0 k a1 (!t164) a0_0 a0_1)) else (path_Holds.j0 k a1 true a0_0 a0_1))
theorem path_Holds.mono_l : ∀ k, (∀ y0 y1 y2 y3, LeO (path_Holds.j0 k y0 y1 y2 y3) (path_Holds.j0 (k + 1) y0 y1 y2 y3))
 | 0 => fun _ _ _ _ r h => by simp [path_Holds.j0] at h
 | k + 1 => by
  have ih0 := path_Holds.mono_l k
  ·intro y0 y1 y2 y3
   unfold path_Holds.j0
   repeat' first
   | (with_reducible exact ih0 _ _ _ _)
   | (with_reducible exact LeO.refl _)
   | (with_reducible exact LeO.none _)
   | (with_reducible refine LeO.ite ?_ ?_)
   | (with_reducible refine LeO.bind ?_ (fun _ => ?_))
   | exact ih0 _ _ _ _
   | exact LeO.none _
   | refine LeO.ite ?_ ?_
   | refine LeO.bind ?_ (fun _ => ?_)
theorem path_Holds.mono : ∀ a0 a1 a2 k, LeO (path_Holds.f k a0 a1 a2) (path_Holds.f (k + 1) a0 a1 a2) := by
 intro a0 a1 a2 k
 have ih0 := path_Holds.mono_l k
 unfold path_Holds.f
 repeat' first
   | (with_reducible exact ih0 _ _ _ _)
   | (with_reducible exact LeO.refl _)
   | (with_reducible exact LeO.none _)
   | (with_reducible refine LeO.ite ?_ ?_)
   | (with_reducible refine LeO.bind ?_ (fun _ => ?_))
   | exact ih0 _ _ _ _
   | exact LeO.none _
   | refine LeO.ite ?_ ?_
   | refine LeO.bind ?_ (fun _ => ?_)
set_option maxHeartbeats 8000000 in
set_option maxRecDepth 100000 in
theorem path_Holds.calls (k : Nat) (a0_0 : Int) (a0_1 : ByteArray) (a1 : ByteArray) (r : Bool) (w : World) (h : path_Holds.f k a0_0 a0_1 a1 = some r) :
  Calls Tryd.prog 38 #[.agg #[.int .i64 a0_0, .string a0_1], .string a1] w fun e w' => e = .returned (.bool r) ∧ Below w.heap.size w w' := by
 have hu23 := Tryd.underlying23
 have HB := am_ (Below.refl w.heap.size w)
 have H : ((path_May.f a0_0 a0_1).bind fun t163 => (if t163 = true then ((path_Is.f a1).bind fun t164 => (path_Holds.j0 k a1 (!t164) a0_0 a0_1)) else (path_Holds.j0 k a1 true a0_0 a0_1))) = some r := h
 clear h
 have HC3 := Aside0.mk H
 clear H
 go_enter Tryd.func38, Tryd.ntmps38
 go_upto_region 1 with (first | ((with_reducible refine gate_dst (N := 2) rfl ?_); refine box_event ?hg (N := 2) ?hd (cs := #[.int .i64 a0_0, .string a0_1]) (t := 23) ?hr ?_; (case hd => rfl); (case hg => rfl); (case hr => first | (go_simp; done) | (go_simp; rfl)); intro gb162 hg w4 hbox hb; have n0_ := am_ (below_step (bel_ HB.out) hb); have n1_ := am_ (hbox); have n2_ := am_ ((by rw [hg]; exact (below_size (bel_ HB.out)) : w.heap.size ≤ gb162)); have n3_ := am_ ((by rw [hg]; exact (below_size (bel_ HB.out)) : w.heap.size ≤ gb162)); clear HB; have HB := n0_; have BK162 := n1_; have GW162 := n2_; have GE162 := n3_; clear n0_ n1_ n2_ n3_ hb hbox hg))
 (try simp only [Act.put, List.setIfInBounds_toArray, List.set_cons_zero, List.set_cons_succ])
 go_cut [5] (fun v5 wc => ∃ (kq : Nat) (x5_2 : Bool), v5 = .bool x5_2 ∧ Aside0 (path_Holds.j0 kq a1 x5_2 a0_0 a0_1 = some r) ∧ Aside0 (kq ≤ k) ∧ Aside0 (wc.heap[gb162]? = some (.cells #[.int .i64 a0_0, .string a0_1] 23 (0, 0))) ∧ Aside0 (Below w.heap.size w wc))
 case first =>
  have H := HC3.out
  clear HC3
  replace H := Option.bind_eq_some_iff.mp H
  obtain ⟨t163, A50, H⟩ := H
  replace H : (if t163 = true then ((path_Is.f a1).bind fun t164 => (path_Holds.j0 k a1 (!t164) a0_0 a0_1)) else (path_Holds.j0 k a1 true a0_0 a0_1)) = some r := H
  have A5 := Aside0.mk A50
  clear A50
  by_cases c6 : t163 = true
  ·subst c6
   have H1 : ((path_Is.f a1).bind fun t164 => (path_Holds.j0 k a1 (!t164) a0_0 a0_1)) = some r := by rw [if_pos rfl] at H; exact H
   clear H
   have H := H1
   clear H1
   replace H := Option.bind_eq_some_iff.mp H
   obtain ⟨t164, A70, H⟩ := H
   replace H : (path_Holds.j0 k a1 (!t164) a0_0 a0_1) = some r := H
   have A7 := Aside0.mk A70
   clear A70
   have H' := Aside0.mk H
   clear H
   have hcz8_0 : w4.cell? ⟨gb162, 0, none⟩ = some (.int .i64 a0_0) := (blk_cell BK162.out 0).trans rfl
   have hcz8_1 : w4.cell? ⟨gb162, 1, none⟩ = some (.string a0_1) := (blk_cell BK162.out 1).trans rfl
   have hfz8_0 := blk_frozen BK162.out 0
   have hfz8_1 := blk_frozen BK162.out 1
   go_wp2_with (first | ((with_reducible refine gate_callee (f := 27) rfl ?_); refine goesL_ (some 7) rfl rfl Tryd.func27 kr_ rfl #[.agg #[.int .i64 a0_0, .string a0_1]] rfl rl_ ?_; (with_reducible refine (path_May.calls a0_0 a0_1 true _ A5.out).mono ?_); rintro e w9 ⟨rfl, hb⟩; refine ⟨_, rfl, ?_⟩; have n0_ := am_ (blk_below (g := gb162) (o := .cells #[.int .i64 a0_0, .string a0_1] 23 (0, 0)) (blk_ BK162.out) hb); have n1_ := am_ (below_step (bel_ HB.out) hb); clear BK162 HB; have BK162 := n0_; have HB := n1_; clear n0_ n1_; (try clear hb); (try clear hb2); (try clear hk); (try clear hi)) | (go_at_call 49; (with_reducible refine (path_Is.calls a1 t164 _ A7.out).mono ?_); rintro e w10 ⟨rfl, hb⟩; have n0_ := am_ (blk_below (g := gb162) (o := .cells #[.int .i64 a0_0, .string a0_1] 23 (0, 0)) (blk_ BK162.out) hb); have n1_ := am_ (below_step (bel_ HB.out) hb); clear BK162 HB; have BK162 := n0_; have HB := n1_; clear n0_ n1_; (try clear hb); (try clear hb2); (try clear hk); (try clear hi)))
   go_meet
   case rel => exact ⟨_, (!t164), sd_, H', ⟨by first | omega | exact Nat.le_refl _⟩, ⟨by (with_reducible repeat (first | refine blk_drewN ?_ _ | refine blk_drew ?_ | refine blk_alloc ?_ _)); exact BK162.out⟩, ⟨bel_ HB.out⟩⟩
  ·replace c6 := Bool.eq_false_iff.mpr c6
   subst c6
   have H1 : (path_Holds.j0 k a1 true a0_0 a0_1) = some r := by rw [if_neg (show ¬ (false = true) by decide)] at H; exact H
   clear H
   have H := H1
   clear H1
   have H' := Aside0.mk H
   clear H
   have hcz11_0 : w4.cell? ⟨gb162, 0, none⟩ = some (.int .i64 a0_0) := (blk_cell BK162.out 0).trans rfl
   have hcz11_1 : w4.cell? ⟨gb162, 1, none⟩ = some (.string a0_1) := (blk_cell BK162.out 1).trans rfl
   have hfz11_0 := blk_frozen BK162.out 0
   have hfz11_1 := blk_frozen BK162.out 1
   go_wp2_with (first | ((with_reducible refine gate_callee (f := 27) rfl ?_); refine goesL_ (some 7) rfl rfl Tryd.func27 kr_ rfl #[.agg #[.int .i64 a0_0, .string a0_1]] rfl rl_ ?_; (with_reducible refine (path_May.calls a0_0 a0_1 false _ A5.out).mono ?_); rintro e w12 ⟨rfl, hb⟩; refine ⟨_, rfl, ?_⟩; have n0_ := am_ (blk_below (g := gb162) (o := .cells #[.int .i64 a0_0, .string a0_1] 23 (0, 0)) (blk_ BK162.out) hb); have n1_ := am_ (below_step (bel_ HB.out) hb); clear BK162 HB; have BK162 := n0_; have HB := n1_; clear n0_ n1_; (try clear hb); (try clear hb2); (try clear hk); (try clear hi)))
   go_meet
   case rel => exact ⟨_, (true), sd_, H', ⟨by first | omega | exact Nat.le_refl _⟩, ⟨by (with_reducible repeat (first | refine blk_drewN ?_ _ | refine blk_drew ?_ | refine blk_alloc ?_ _)); exact BK162.out⟩, ⟨bel_ HB.out⟩⟩
 case rest =>
  clear HC3
  try clear c2
  try clear p2
  try clear c3
  try clear c6
  try clear hcz11_0
  try clear hcz11_1
  try clear hcz8_0
  try clear hcz8_1
  try clear hfz11_0
  try clear hfz11_1
  try clear hfz8_0
  try clear hfz8_1
  obtain ⟨kq, x5_2, rfl, HA, HJ2, BK162, HB⟩ := hcut
  cases kq with
  | zero => exact absurd HA.out (by simp [path_Holds.j0])
  | succ kj2 =>
   have H := HA.out
   clear HA
   simp only [path_Holds.j0] at H
   by_cases c13 : x5_2 = true
   ·subst c13
    have H1 : (some false) = some r := by rw [if_pos rfl] at H; exact H
    clear H
    have H := H1
    clear H1
    obtain rfl := Option.some.inj H
    go_wp2
    go_ret
    exact ⟨fi_, bel_ HB.out⟩
   ·replace c13 := Bool.eq_false_iff.mpr c13
    subst c13
    have H1 : (if a0_1.toList = a1.toList then (some true) else (if a0_0 = 2 then (if a0_1.toList = ([47] : List UInt8) then (some true) else (if a0_1.size + 1 ≤ 9223372036854775807 then ((strings_HasPrefix.f a1 (a0_1 ++ (⟨#[47]⟩ : ByteArray))).bind fun t165 => (some t165)) else (none))) else (some false))) = some r := by rw [if_neg (show ¬ (false = true) by decide)] at H; exact H
    clear H
    have H := H1
    clear H1
    by_cases c14 : a0_1.toList = a1.toList
    ·rw [if_pos c14] at H
     have c14b0 : (a0_1.toList == a1.toList) = true := beq_iff_eq.mpr c14
     have c14b1 : (a0_1.toList != a1.toList) = false := bne_eq_false_iff_eq.mpr c14
     clear c14
     obtain rfl := Option.some.inj H
     have hcz15_0 : wc.cell? ⟨gb162, 0, none⟩ = some (.int .i64 a0_0) := (blk_cell BK162.out 0).trans rfl
     have hcz15_1 : wc.cell? ⟨gb162, 1, none⟩ = some (.string a0_1) := (blk_cell BK162.out 1).trans rfl
     have hfz15_0 := blk_frozen BK162.out 0
     have hfz15_1 := blk_frozen BK162.out 1
     go_wp2
     go_ret
     exact ⟨fi_, bel_ HB.out⟩
    ·rw [if_neg c14] at H
     have c14b0 : (a0_1.toList == a1.toList) = false := beq_eq_false_iff_ne.mpr c14
     have c14b1 : (a0_1.toList != a1.toList) = true := bne_iff_ne.mpr c14
     by_cases c16 : a0_0 = 2
     ·rw [if_pos c16] at H
      have c16b0 : (a0_0 == 2) = true := beq_iff_eq.mpr c16
      have c16b1 : (a0_0 != 2) = false := bne_eq_false_iff_eq.mpr c16
      clear c16
      by_cases c17 : a0_1.toList = ([47] : List UInt8)
      ·rw [if_pos c17] at H
       have c17b0 : (a0_1.toList == ([47] : List UInt8)) = true := beq_iff_eq.mpr c17
       have c17b1 : (a0_1.toList != ([47] : List UInt8)) = false := bne_eq_false_iff_eq.mpr c17
       clear c17
       obtain rfl := Option.some.inj H
       have hcz18_0 : wc.cell? ⟨gb162, 0, none⟩ = some (.int .i64 a0_0) := (blk_cell BK162.out 0).trans rfl
       have hcz18_1 : wc.cell? ⟨gb162, 1, none⟩ = some (.string a0_1) := (blk_cell BK162.out 1).trans rfl
       have hfz18_0 := blk_frozen BK162.out 0
       have hfz18_1 := blk_frozen BK162.out 1
       go_wp2
       go_ret
       exact ⟨fi_, bel_ HB.out⟩
      ·rw [if_neg c17] at H
       have c17b0 : (a0_1.toList == ([47] : List UInt8)) = false := beq_eq_false_iff_ne.mpr c17
       have c17b1 : (a0_1.toList != ([47] : List UInt8)) = true := bne_iff_ne.mpr c17
       by_cases c19 : a0_1.size + 1 ≤ 9223372036854775807
       ·rw [if_pos c19] at H
        have c19b0 := eq_true c19
        have c19b1 : decide (a0_1.size + 1 ≤ 9223372036854775807) = true := decide_eq_true c19
        try have c19b2 : (9223372036854775807 < a0_1.size + 1) = False := eq_false (Nat.not_lt.2 c19)
        replace H := Option.bind_eq_some_iff.mp H
        obtain ⟨t165, A200, H⟩ := H
        replace H : (some t165) = some r := H
        have A20 := Aside0.mk A200
        clear A200
        obtain rfl := Option.some.inj H
        have hcz21_0 : wc.cell? ⟨gb162, 0, none⟩ = some (.int .i64 a0_0) := (blk_cell BK162.out 0).trans rfl
        have hcz21_1 : wc.cell? ⟨gb162, 1, none⟩ = some (.string a0_1) := (blk_cell BK162.out 1).trans rfl
        have hfz21_0 := blk_frozen BK162.out 0
        have hfz21_1 := blk_frozen BK162.out 1
        go_wp2_with (first | (go_at_call 57; (with_reducible refine (strings_HasPrefix.calls a1 (a0_1 ++ (⟨#[47]⟩ : ByteArray)) t165 _ A20.out).mono ?_); rintro e w' ⟨rfl, ⟨nd, rfl⟩⟩))
        go_ret
        exact ⟨fi_, bel_ HB.out⟩
       ·rw [if_neg c19] at H
        exact absurd H (by simp)
     ·rw [if_neg c16] at H
      have c16b0 : (a0_0 == 2) = false := beq_eq_false_iff_ne.mpr c16
      have c16b1 : (a0_0 != 2) = true := bne_iff_ne.mpr c16
      obtain rfl := Option.some.inj H
      have hcz22_0 : wc.cell? ⟨gb162, 0, none⟩ = some (.int .i64 a0_0) := (blk_cell BK162.out 0).trans rfl
      have hcz22_1 : wc.cell? ⟨gb162, 1, none⟩ = some (.string a0_1) := (blk_cell BK162.out 1).trans rfl
      have hfz22_0 := blk_frozen BK162.out 0
      have hfz22_1 := blk_frozen BK162.out 1
      go_wp2
      go_ret
      exact ⟨fi_, bel_ HB.out⟩

set_option maxHeartbeats 4000000 in
theorem plain_at : SameAt Tryd.prog 58 (fun a b => some (a.toList == b.toList)) := by
 intro W a b r h
 obtain rfl := Option.some.inj h
 clear h
 go_enter Tryd.func58, Tryd.ntmps58
 go_wp2
 go_ret
 exact ⟨rfl, Below.refl _ _⟩
/-! ### pairs_Holds: function 39 -/
noncomputable def holdsQ (fold : Bool) : ByteArray → ByteArray → Option Bool := if fold = true then pairs_Same.f else fun a b => some (a.toList == b.toList)
noncomputable def holdsX (fold : Bool) (l : List (S49)) (x : S49) : Bool := (getI (holdsQ fold) l x.f0).2 && ((getI (holdsQ fold) l x.f0).1.toList == x.f1.toList)
theorem holdsX_true (fold : Bool) (l0 l : List (S49)) (h : ∀ j (hj : j < l0.length), holdsX fold l (l0[j]'hj) = true) : l0.all (holdsX fold l) = true :=
 List.all_eq_true.2 fun x hx => by
  obtain ⟨j, hj, rfl⟩ := List.getElem_of_mem hx
  exact h j hj
theorem holdsX_false (fold : Bool) (l0 l : List (S49)) (k : Nat) (hk : k < l0.length) (h : holdsX fold l (l0[k]'hk) = false) : l0.all (holdsX fold l) = false := by
 rw [List.all_eq_false]
 exact ⟨_, List.getElem_mem hk, by rw [h]; decide⟩
noncomputable def pairs_Holds.f (l0 : List (S49)) (l1 : List (S49)) (a2 : Bool) : Option (Bool) := if (l0.all fun x => qAll (holdsQ a2) l1 x.f0) = true then some (l0.all (holdsX a2 l1)) else none
set_option maxHeartbeats 8000000 in
set_option maxRecDepth 100000 in
theorem pairs_Holds.calls (A0 : Option Addr) (c0 : Nat) (l0 : List (S49)) (A1 : Option Addr) (c1 : Nat) (l1 : List (S49)) (a2 : Bool) (r : Bool) (w : World) (hr0 : Kd.C k49 w A0 l0.length l0) (hc0 : l0.length ≤ c0) (hr1 : Kd.C k49 w A1 l1.length l1) (hc1 : l1.length ≤ c1) (h : pairs_Holds.f l0 l1 a2 = some r) :
  Calls Tryd.prog 39 #[.slice A0 l0.length c0, .slice A1 l1.length c1, .bool a2] w fun e w' => e = .returned (.bool r) ∧ Below w.heap.size w w' := by
 have hall : (l0.all fun x => qAll (holdsQ a2) l1 x.f0) = true := by
  by_cases hx : (l0.all fun x => qAll (holdsQ a2) l1 x.f0) = true
  ·exact hx
  ·rw [pairs_Holds.f, if_neg hx] at h; cases h
 rw [pairs_Holds.f, if_pos hall] at h
 have HR0 := Aside0.mk hr0
 have HR1 := Aside0.mk hr1
 have HA := Aside0.mk hall
 have H := am_ (Option.some.inj h)
 have hmx := hr0.2.1
 have e20 : ∀ args W, (callFunc 30 args).run Tryd.prog W = .ok (.enter 30 args) W := enters_of Tryd.func30 kr_ rfl
 have e30 : ∀ args W, (callFunc 58 args).run Tryd.prog W = .ok (.enter 58 args) W := enters_of Tryd.func58 kr_ rfl
 have E20 := Aside0.mk e20
 have E30 := Aside0.mk e30
 clear h hall hr0 hr1 hc0 hc1 e20 e30
 cases a2 with
 | true =>
  have hsame : SameAt Tryd.prog 30 (holdsQ true) := same_at
  have HSM := Aside0.mk hsame
  clear hsame
  go_enter Tryd.func39, Tryd.ntmps39
  go_wp2_with ((with_reducible refine gate_dst (N := 7) rfl ?_); refine box_event ?hg (N := 7) ?hd (cs := #[.nilFunc]) (t := 70) ?hr ?_; (case hd => rfl); (case hg => rfl); (case hr => first | (go_simp; done) | (go_simp; rfl)); intro gb hg w9 hbox hb; have hc0 : w9.cell? ⟨gb, 0, none⟩ = some .nilFunc := (blk_cell hbox 0).trans rfl; have hf0 := blk_frozen hbox 0; have HX := Aside0.mk hbox; have HB := Aside0.mk hb; have HG := Aside0.mk hg; clear hbox hb hg)
  have HL := am_ (show w.heap.size ≤ gb by rw [HG.out]; exact Nat.le_refl _)
  have hfb : ((w9.setCell ⟨gb, 0, none⟩ (.func (.func 58) #[] #[])).setCell ⟨gb, 0, none⟩ (.func (.func 30) #[] #[])).heap[gb]? = some (.cells #[.func (.func 30) #[] #[]] 70 (0, 0)) := by
   exact blk_put (cs := #[.func (.func 58) #[] #[]]) (blk_put (cs := #[.nilFunc]) HX.out 0 _ rfl) 0 _ rfl
  have hbl : Below w.heap.size w ((w9.setCell ⟨gb, 0, none⟩ (.func (.func 58) #[] #[])).setCell ⟨gb, 0, none⟩ (.func (.func 30) #[] #[])) := by
   exact below_set (below_set HB.out HL.out) HL.out
  clear HX HB HG hc0 hf0
  generalize ((w9.setCell ⟨gb, 0, none⟩ (.func (.func 58) #[] #[])).setCell ⟨gb, 0, none⟩ (.func (.func 30) #[] #[])) = W0 at hfb hbl ⊢
  have HFB := Aside0.mk hfb
  have HBL := Aside0.mk hbl
  clear hfb hbl
  go_loopg [17] l0.length (fun gg s17 wr => ∃ kk : Nat, kk ≤ l0.length ∧ l0.length - kk ≤ gg ∧ s17 = .int .i64 kk ∧ Aside0 (Below w.heap.size w wr) ∧ Aside0 (wr.heap[gb]? = some (.cells #[.func (.func 30) #[] #[]] 70 (0, 0))) ∧ Aside0 (∀ j : Nat, j < kk → holdsX true l1 (rd_T49 l0 j) = true))
  case atStart => exact ⟨0, Nat.zero_le _, by omega, rfl, HBL, HFB, ⟨fun j hj => absurd hj (Nat.not_lt_zero _)⟩⟩
  case round =>
   clear HBL HFB
   obtain ⟨kk, hkk, hg, rfl, BW, FB, AL⟩ := hrel
   by_cases hlt : kk < l0.length
   ·have p1 : (0 : Int) ≤ (kk : Int) := by omega
    have q1 : (kk : Int) < (l0.length : Int) := by omega
    obtain ⟨ad, ea, hx_0, hx_1⟩ := at_T49 HR0.out (kk : Int) p1 q1
    cases ea
    replace hx_0 := (BW.out.cell (World.block_lt_of_cell? w _ hx_0)).trans hx_0
    replace hx_1 := (BW.out.cell (World.block_lt_of_cell? w _ hx_1)).trans hx_1
    have hmem : rd_T49 l0 (kk : Int) ∈ l0 := by
     unfold rd_T49
     rw [Int.toNat_natCast, getD_at _ _ hlt]
     exact List.getElem_mem hlt
    have hqa := List.all_eq_true.1 HA.out _ hmem
    clear hmem
    simp only [Int.toNat_natCast] at hx_0 hx_1
    have hX : holdsX true l1 (rd_T49 l0 (kk : Int)) = ((getI (holdsQ true) l1 (rd_T49 l0 (kk : Int)).f0).2 && ((getI (holdsQ true) l1 (rd_T49 l0 (kk : Int)).f0).1.toList == (rd_T49 l0 (kk : Int)).f1.toList)) := rfl
    have hcall := fun W hW => finder_get.calls 30 (holdsQ true) HSM.out E20.out A1 c1 l1 (rd_T49 l0 (kk : Int)).f0 W hW hqa
    clear hqa
    generalize hy : rd_T49 l0 (kk : Int) = y at *
    have HY := Aside0.mk hy
    clear hy
    generalize (getI (holdsQ true) l1 y.f0).1 = gv at *
    generalize (getI (holdsQ true) l1 y.f0).2 = gi at *
    have HC := Aside0.mk hcall
    have HX := Aside0.mk hX
    clear hcall hX
    replace p1 := eq_true p1
    replace q1 := eq_true q1
    have hfc : wr.cell? ⟨gb, 0, none⟩ = some (.func (.func 30) #[] #[]) := (blk_cell FB.out 0).trans rfl
    have hgl : gb < wr.heap.size := blk_lt FB.out
    by_cases hgi : gi = true
    ·subst hgi
     by_cases hv : gv.toList = y.f1.toList
     ·have hv1 : (gv.toList != y.f1.toList) = false := bne_eq_false_iff_eq.mpr hv
      have hv2 : (gv.toList == y.f1.toList) = true := beq_iff_eq.mpr hv
      have HV := Aside0.mk hv
      clear hv
      go_wp2_with (go_at_call 59; refine (HC.out _ (by exact Kd.C_alloc (Kd.C_below HR1.out BW.out) _)).mono ?_; rintro e w' ⟨rfl, hb'⟩; have BW3 := am_ ((BW.out.alloc BW.out.size _).trans (hb'.mono (by have := BW.out.size; simp; omega))); have FB3 := am_ (blk_below (blk_below FB.out ((Below.refl _ wr).alloc (Nat.le_refl _) _)) hb'); have hp1 : w'.cell? ⟨wr.heap.size, 1, none⟩ = some (.string y.f1) := (hb'.cell (p := ⟨wr.heap.size, 1, none⟩) (by simp)).trans (by simp [World.cell?_alloc_new]); clear hb')
      go_roundg (l0.length - (kk + 1))
      case measure => omega
      case rel =>
       refine ⟨kk + 1, by omega, by omega, by go_num, BW3, FB3, ⟨fun j hj => ?_⟩⟩
       by_cases e : j = kk
       ·subst e
        rw [HY.out, HX.out, HV.out]; simp
       ·exact AL.out j (by omega)
     ·have hv1 : (gv.toList != y.f1.toList) = true := bne_iff_ne.mpr hv
      have hv2 : (gv.toList == y.f1.toList) = false := beq_eq_false_iff_ne.mpr hv
      have HV := Aside0.mk hv2
      clear hv
      go_wp2_with (go_at_call 59; refine (HC.out _ (by exact Kd.C_alloc (Kd.C_below HR1.out BW.out) _)).mono ?_; rintro e w' ⟨rfl, hb'⟩; have BW3 := am_ ((BW.out.alloc BW.out.size _).trans (hb'.mono (by have := BW.out.size; simp; omega))); have FB3 := am_ (blk_below (blk_below FB.out ((Below.refl _ wr).alloc (Nat.le_refl _) _)) hb'); have hp1 : w'.cell? ⟨wr.heap.size, 1, none⟩ = some (.string y.f1) := (hb'.cell (p := ⟨wr.heap.size, 1, none⟩) (by simp)).trans (by simp [World.cell?_alloc_new]); clear hb')
      go_ret
      refine ⟨?_, BW3.out⟩
      rw [show r = false from by rw [← H.out]; exact holdsX_false _ _ _ kk hlt (by have := HX.out; rw [HV.out, ← HY.out] at this; unfold rd_T49 at this; rw [Int.toNat_natCast, getD_at _ _ hlt] at this; rw [this]; rfl)]
      rfl
    ·obtain rfl : gi = false := by simpa using hgi
     clear hgi
     go_wp2_with (go_at_call 59; refine (HC.out _ (by exact Kd.C_alloc (Kd.C_below HR1.out BW.out) _)).mono ?_; rintro e w' ⟨rfl, hb'⟩; have BW3 := am_ ((BW.out.alloc BW.out.size _).trans (hb'.mono (by have := BW.out.size; simp; omega))); have FB3 := am_ (blk_below (blk_below FB.out ((Below.refl _ wr).alloc (Nat.le_refl _) _)) hb'); have hp1 : w'.cell? ⟨wr.heap.size, 1, none⟩ = some (.string y.f1) := (hb'.cell (p := ⟨wr.heap.size, 1, none⟩) (by simp)).trans (by simp [World.cell?_alloc_new]); clear hb')
     go_ret
     refine ⟨?_, BW3.out⟩
     rw [show r = false from by rw [← H.out]; exact holdsX_false _ _ _ kk hlt (by have := HX.out; rw [← HY.out] at this; unfold rd_T49 at this; rw [Int.toNat_natCast, getD_at _ _ hlt] at this; rw [this]; rfl)]
     rfl
   ·have q1 : ¬ (kk : Int) < (l0.length : Int) := by omega
    obtain rfl : kk = l0.length := by omega
    go_wp2
    go_ret
    refine ⟨?_, BW.out⟩
    rw [show r = true from by rw [← H.out]; exact holdsX_true _ _ _ (fun j hj => by have := AL.out j hj; unfold rd_T49 at this; rwa [Int.toNat_natCast, getD_at _ _ hj] at this)]
    rfl
 | false =>
  have hsame : SameAt Tryd.prog 58 (holdsQ false) := plain_at
  have HSM := Aside0.mk hsame
  clear hsame
  go_enter Tryd.func39, Tryd.ntmps39
  go_wp2_with ((with_reducible refine gate_dst (N := 7) rfl ?_); refine box_event ?hg (N := 7) ?hd (cs := #[.nilFunc]) (t := 70) ?hr ?_; (case hd => rfl); (case hg => rfl); (case hr => first | (go_simp; done) | (go_simp; rfl)); intro gb hg w9 hbox hb; have hc0 : w9.cell? ⟨gb, 0, none⟩ = some .nilFunc := (blk_cell hbox 0).trans rfl; have hf0 := blk_frozen hbox 0; have HX := Aside0.mk hbox; have HB := Aside0.mk hb; have HG := Aside0.mk hg; clear hbox hb hg)
  have HL := am_ (show w.heap.size ≤ gb by rw [HG.out]; exact Nat.le_refl _)
  have hfb : (w9.setCell ⟨gb, 0, none⟩ (.func (.func 58) #[] #[])).heap[gb]? = some (.cells #[.func (.func 58) #[] #[]] 70 (0, 0)) := by
   exact blk_put (cs := #[.nilFunc]) HX.out 0 _ rfl
  have hbl : Below w.heap.size w (w9.setCell ⟨gb, 0, none⟩ (.func (.func 58) #[] #[])) := by
   exact below_set HB.out HL.out
  clear HX HB HG hc0 hf0
  generalize (w9.setCell ⟨gb, 0, none⟩ (.func (.func 58) #[] #[])) = W0 at hfb hbl ⊢
  have HFB := Aside0.mk hfb
  have HBL := Aside0.mk hbl
  clear hfb hbl
  go_loopg [17] l0.length (fun gg s17 wr => ∃ kk : Nat, kk ≤ l0.length ∧ l0.length - kk ≤ gg ∧ s17 = .int .i64 kk ∧ Aside0 (Below w.heap.size w wr) ∧ Aside0 (wr.heap[gb]? = some (.cells #[.func (.func 58) #[] #[]] 70 (0, 0))) ∧ Aside0 (∀ j : Nat, j < kk → holdsX false l1 (rd_T49 l0 j) = true))
  case atStart => exact ⟨0, Nat.zero_le _, by omega, rfl, HBL, HFB, ⟨fun j hj => absurd hj (Nat.not_lt_zero _)⟩⟩
  case round =>
   clear HBL HFB
   obtain ⟨kk, hkk, hg, rfl, BW, FB, AL⟩ := hrel
   by_cases hlt : kk < l0.length
   ·have p1 : (0 : Int) ≤ (kk : Int) := by omega
    have q1 : (kk : Int) < (l0.length : Int) := by omega
    obtain ⟨ad, ea, hx_0, hx_1⟩ := at_T49 HR0.out (kk : Int) p1 q1
    cases ea
    replace hx_0 := (BW.out.cell (World.block_lt_of_cell? w _ hx_0)).trans hx_0
    replace hx_1 := (BW.out.cell (World.block_lt_of_cell? w _ hx_1)).trans hx_1
    have hmem : rd_T49 l0 (kk : Int) ∈ l0 := by
     unfold rd_T49
     rw [Int.toNat_natCast, getD_at _ _ hlt]
     exact List.getElem_mem hlt
    have hqa := List.all_eq_true.1 HA.out _ hmem
    clear hmem
    simp only [Int.toNat_natCast] at hx_0 hx_1
    have hX : holdsX false l1 (rd_T49 l0 (kk : Int)) = ((getI (holdsQ false) l1 (rd_T49 l0 (kk : Int)).f0).2 && ((getI (holdsQ false) l1 (rd_T49 l0 (kk : Int)).f0).1.toList == (rd_T49 l0 (kk : Int)).f1.toList)) := rfl
    have hcall := fun W hW => finder_get.calls 58 (holdsQ false) HSM.out E30.out A1 c1 l1 (rd_T49 l0 (kk : Int)).f0 W hW hqa
    clear hqa
    generalize hy : rd_T49 l0 (kk : Int) = y at *
    have HY := Aside0.mk hy
    clear hy
    generalize (getI (holdsQ false) l1 y.f0).1 = gv at *
    generalize (getI (holdsQ false) l1 y.f0).2 = gi at *
    have HC := Aside0.mk hcall
    have HX := Aside0.mk hX
    clear hcall hX
    replace p1 := eq_true p1
    replace q1 := eq_true q1
    have hfc : wr.cell? ⟨gb, 0, none⟩ = some (.func (.func 58) #[] #[]) := (blk_cell FB.out 0).trans rfl
    have hgl : gb < wr.heap.size := blk_lt FB.out
    by_cases hgi : gi = true
    ·subst hgi
     by_cases hv : gv.toList = y.f1.toList
     ·have hv1 : (gv.toList != y.f1.toList) = false := bne_eq_false_iff_eq.mpr hv
      have hv2 : (gv.toList == y.f1.toList) = true := beq_iff_eq.mpr hv
      have HV := Aside0.mk hv
      clear hv
      go_wp2_with (go_at_call 59; refine (HC.out _ (by exact Kd.C_alloc (Kd.C_below HR1.out BW.out) _)).mono ?_; rintro e w' ⟨rfl, hb'⟩; have BW3 := am_ ((BW.out.alloc BW.out.size _).trans (hb'.mono (by have := BW.out.size; simp; omega))); have FB3 := am_ (blk_below (blk_below FB.out ((Below.refl _ wr).alloc (Nat.le_refl _) _)) hb'); have hp1 : w'.cell? ⟨wr.heap.size, 1, none⟩ = some (.string y.f1) := (hb'.cell (p := ⟨wr.heap.size, 1, none⟩) (by simp)).trans (by simp [World.cell?_alloc_new]); clear hb')
      go_roundg (l0.length - (kk + 1))
      case measure => omega
      case rel =>
       refine ⟨kk + 1, by omega, by omega, by go_num, BW3, FB3, ⟨fun j hj => ?_⟩⟩
       by_cases e : j = kk
       ·subst e
        rw [HY.out, HX.out, HV.out]; simp
       ·exact AL.out j (by omega)
     ·have hv1 : (gv.toList != y.f1.toList) = true := bne_iff_ne.mpr hv
      have hv2 : (gv.toList == y.f1.toList) = false := beq_eq_false_iff_ne.mpr hv
      have HV := Aside0.mk hv2
      clear hv
      go_wp2_with (go_at_call 59; refine (HC.out _ (by exact Kd.C_alloc (Kd.C_below HR1.out BW.out) _)).mono ?_; rintro e w' ⟨rfl, hb'⟩; have BW3 := am_ ((BW.out.alloc BW.out.size _).trans (hb'.mono (by have := BW.out.size; simp; omega))); have FB3 := am_ (blk_below (blk_below FB.out ((Below.refl _ wr).alloc (Nat.le_refl _) _)) hb'); have hp1 : w'.cell? ⟨wr.heap.size, 1, none⟩ = some (.string y.f1) := (hb'.cell (p := ⟨wr.heap.size, 1, none⟩) (by simp)).trans (by simp [World.cell?_alloc_new]); clear hb')
      go_ret
      refine ⟨?_, BW3.out⟩
      rw [show r = false from by rw [← H.out]; exact holdsX_false _ _ _ kk hlt (by have := HX.out; rw [HV.out, ← HY.out] at this; unfold rd_T49 at this; rw [Int.toNat_natCast, getD_at _ _ hlt] at this; rw [this]; rfl)]
      rfl
    ·obtain rfl : gi = false := by simpa using hgi
     clear hgi
     go_wp2_with (go_at_call 59; refine (HC.out _ (by exact Kd.C_alloc (Kd.C_below HR1.out BW.out) _)).mono ?_; rintro e w' ⟨rfl, hb'⟩; have BW3 := am_ ((BW.out.alloc BW.out.size _).trans (hb'.mono (by have := BW.out.size; simp; omega))); have FB3 := am_ (blk_below (blk_below FB.out ((Below.refl _ wr).alloc (Nat.le_refl _) _)) hb'); have hp1 : w'.cell? ⟨wr.heap.size, 1, none⟩ = some (.string y.f1) := (hb'.cell (p := ⟨wr.heap.size, 1, none⟩) (by simp)).trans (by simp [World.cell?_alloc_new]); clear hb')
     go_ret
     refine ⟨?_, BW3.out⟩
     rw [show r = false from by rw [← H.out]; exact holdsX_false _ _ _ kk hlt (by have := HX.out; rw [← HY.out] at this; unfold rd_T49 at this; rw [Int.toNat_natCast, getD_at _ _ hlt] at this; rw [this]; rfl)]
     rfl
   ·have q1 : ¬ (kk : Int) < (l0.length : Int) := by omega
    obtain rfl : kk = l0.length := by omega
    go_wp2
    go_ret
    refine ⟨?_, BW.out⟩
    rw [show r = true from by rw [← H.out]; exact holdsX_true _ _ _ (fun j hj => by have := AL.out j hj; unfold rd_T49 at this; rwa [Int.toNat_natCast, getD_at _ _ hj] at this)]
    rfl

end Go.Proofs.YtompldnifiieaaaDoor.P
