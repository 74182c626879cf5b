-- written by wip/tool/hprint.py of this repo: the kit's print, with contracts by hand joined; Lean checks it.
import Derived.Test.YtnldeohdojemlaaDoorPx0
import Derived.Test.YtnldeohdojemlaaDoorPx2
namespace Go.Proofs.YtnldeohdojemlaaDoor.P
open Go.RowKit Go.Proofs.YtnldeohdojemlaaDoorW.PrintWords Go.Proofs.YtnldeohdojemlaaDoorW.PrintLast Go.Proofs.YtnldeohdojemlaaDoorW.PrintMore
attribute [local go_sem] max2_int min2_int max_two min_two max_three min_three max_four min_four   -- for this text's walks alone
set_option linter.unusedVariables false
set_option linter.unusedSimpArgs false

/-! ### pairs_Same: function 12 -/
def pairs_Same.f (a0 : ByteArray) (a1 : ByteArray) : Option (Bool) := (dns_Fold.f a0).bind fun t125 => ((dns_Fold.f a1).bind fun t126 => (some (t125.toList == t126.toList)))
set_option maxHeartbeats 8000000 in
set_option maxRecDepth 100000 in
theorem pairs_Same.calls (a0 : ByteArray) (a1 : ByteArray) (r : Bool) (w : World) (h : pairs_Same.f a0 a1 = some r) :
    Calls Tryd.prog 12 #[.string a0, .string a1] w fun e w' => e = .returned (.bool r) ∧ Below w.heap.size w w' := by
  have HB := Aside0.mk (Below.refl w.heap.size w)
  have H : ((dns_Fold.f a0).bind fun t125 => ((dns_Fold.f a1).bind fun t126 => (some (t125.toList == t126.toList)))) = some r := h
  clear h
  replace H := Option.bind_eq_some_iff.mp H
  obtain ⟨t125, A30, H⟩ := H
  replace H : ((dns_Fold.f a1).bind fun t126 => (some (t125.toList == t126.toList))) = some r := H
  have A3 := Aside0.mk A30
  clear A30
  replace H := Option.bind_eq_some_iff.mp H
  obtain ⟨t126, A40, H⟩ := H
  replace H : (some (t125.toList == t126.toList)) = some r := H
  have A4 := Aside0.mk A40
  clear A40
  obtain rfl := Option.some.inj H
  go_enter Tryd.func12, Tryd.ntmps12
  go_wp2_with (first | ((with_reducible refine gate_callee (f := 20) rfl ?_); refine goesL_ (some 6) rfl rfl Tryd.func20 (by kernel_rfl) rfl #[.string a0] rfl (by (try simp only [List.map_toArray, List.map_cons, List.map_nil]); first | done | rfl | (simp only [List.length_drop, List.length_take]; rfl)) ?_; (with_reducible refine (dns_Fold.calls a0 t125 _ A3.out).mono ?_); rintro e w5 ⟨rfl, hb⟩; refine ⟨_, rfl, ?_⟩; have n0_ := Aside0.mk (below_step (by repeat (first | (with_reducible first | exact HB.out | apply below_alloc | apply pw_below_drewN | apply below_drew1) | exact HB.out)) hb); clear HB; have HB := n0_; clear n0_; (try clear hb); (try clear hb2); (try clear hk); (try clear hi)) | ((with_reducible refine gate_callee (f := 20) rfl ?_); refine goesL_ (some 8) rfl rfl Tryd.func20 (by kernel_rfl) rfl #[.string a1] rfl (by (try simp only [List.map_toArray, List.map_cons, List.map_nil]); first | done | rfl | (simp only [List.length_drop, List.length_take]; rfl)) ?_; (with_reducible refine (dns_Fold.calls a1 t126 _ A4.out).mono ?_); rintro e w6 ⟨rfl, hb⟩; refine ⟨_, rfl, ?_⟩; have n0_ := Aside0.mk (below_step (by repeat (first | (with_reducible first | exact HB.out | apply below_alloc | apply pw_below_drewN | apply below_drew1) | exact HB.out)) hb); clear HB; have HB := n0_; clear n0_; (try clear hb); (try clear hb2); (try clear hk); (try clear hi)))
  go_ret
  exact ⟨by first | rfl | (simp [errW_none, errW_some] <;> rfl) | (simp [*, errW_none, errW_some] <;> rfl), by repeat (first | (with_reducible first | exact HB.out | apply below_alloc | apply pw_below_drewN | apply below_drew1) | exact HB.out)⟩

/-! ### api_Pair_38: function 38 -/
set_option maxHeartbeats 8000000 in
set_option maxRecDepth 100000 in
theorem api_Pair_38.calls (A0 : Option Addr) (c0 : Nat) (l0 : List (S35)) (w : World) (hr0 : Kd.C k35 w A0 l0.length l0) (p : S35 → Bool) (g : Nat) (lb : Array Value)
    (eg : ∀ args W, (callFunc g args).run Tryd.prog W = .ok (.enter g args) W) (hp : PredK Tryd.prog g lb k35 l0 p w) :
    Calls Tryd.prog 38 #[.slice A0 l0.length c0, .func (.func g) #[] lb] w fun e w' => e = .returned (.int .i64 (idxI p l0)) ∧ Below w.heap.size w w' := by
  have HR := Aside0.mk hr0
  have HP := Aside0.mk hp
  have hmx := hr0.2.1
  clear hr0 hp
  go_enter Tryd.func38, Tryd.ntmps38
  go_wp2
  go_loopg [5, 8] l0.length (fun gg _ s8 wr => ∃ kk : Nat, kk ≤ l0.length ∧ l0.length - kk ≤ gg ∧ s8 = .int .i64 kk ∧ Aside0 (Below w.heap.size w wr) ∧ Aside0 (∀ j : Nat, j < kk → p (rd_T35 l0 j) = false))
  case atStart => exact ⟨0, Nat.zero_le _, by omega, rfl, ⟨Below.refl _ w⟩, ⟨fun j hj => absurd hj (Nat.not_lt_zero _)⟩⟩
  case round =>
    obtain ⟨kk, hkk, hg, rfl, BW, AL⟩ := hrel
    by_cases hlt : kk < l0.length
    · have p1 : (0 : Int) ≤ (kk : Int) := by omega
      have q1 : (kk : Int) < (l0.length : Int) := by omega
      obtain ⟨ad, ea, hx_0, hx_1⟩ := at_T35 HR.out (kk : Int) p1 q1
      cases ea
      replace hx_0 := (BW.out.cell (World.block_lt_of_cell? w _ hx_0)).trans hx_0
      replace hx_1 := (BW.out.cell (World.block_lt_of_cell? w _ hx_1)).trans hx_1
      have hmem : rd_T35 l0 (kk : Int) ∈ l0 := by
        unfold rd_T35
        rw [Int.toNat_natCast, getD_at _ _ hlt]
        exact List.getElem_mem hlt
      have hcall := HP.out wr (rd_T35 l0 (kk : Int)) [.string (rd_T35 l0 (kk : Int)).f0, .string (rd_T35 l0 (kk : Int)).f1] hmem BW.out (k35_mk _ _)
      clear hmem
      simp only [Int.toNat_natCast] at hx_0 hx_1
      generalize hy : rd_T35 l0 (kk : Int) = y at *
      have HY := Aside0.mk hy
      clear hy
      replace p1 := eq_true p1
      replace q1 := eq_true q1
      cases hq : p y with
      | true =>
        rw [hq] at hcall
        have HQ := Aside0.mk hq
        clear hq
        have HC := Aside0.mk hcall
        clear hcall
        go_wp2_with (go_at_fn g; refine HC.out.mono ?_; rintro e w' ⟨rfl, hb'⟩; have HB' := Aside0.mk hb'; clear hb')
        go_ret
        refine ⟨?_, HB'.out⟩
        rw [idxI_hit p l0 kk hlt (fun j hj => by have := AL.out j hj; unfold rd_T35 at this; rwa [Int.toNat_natCast, getD_at _ _ (by omega)] at this) (by have := HY.out; unfold rd_T35 at this; rw [Int.toNat_natCast, getD_at _ _ hlt] at this; rw [this]; exact HQ.out)]
        rfl
      | false =>
        rw [hq] at hcall
        have HQ := Aside0.mk hq
        clear hq
        have HC := Aside0.mk hcall
        clear hcall
        go_wp2_with (go_at_fn g; refine HC.out.mono ?_; rintro e w' ⟨rfl, hb'⟩; have HB' := Aside0.mk hb'; clear hb')
        go_roundg (l0.length - (kk + 1))
        case measure => omega
        case rel =>
          refine ⟨kk + 1, by omega, by omega, by go_num, HB', ⟨fun j hj => ?_⟩⟩
          by_cases e : j = kk
          · subst e
            rw [HY.out]; exact HQ.out
          · exact AL.out j (by omega)
    · have q1 : ¬ (kk : Int) < (l0.length : Int) := by omega
      obtain rfl : kk = l0.length := by omega
      go_wp2
      go_ret
      refine ⟨?_, BW.out⟩
      rw [idxI_miss p l0 (fun j hj => by have := AL.out j hj; unfold rd_T35 at this; rwa [Int.toNat_natCast, getD_at _ _ hj] at this)]
      rfl

-- NOT PRINTED: function 39 (pairs_finder_first_1)

-- function 25: told where it is called

-- function 17: told where it is called

/-! ### pairs_finder: function 25 -/
/-- A function value that tells whether two texts are the same. -/
def SameAt (P : Program) (g : Nat) (q : ByteArray → ByteArray → Option Bool) : Prop :=
  ∀ (W : World) (a b : ByteArray) (r : Bool), q a b = some r → Calls P g #[.string a, .string b] W fun e w' => e = .returned (.bool r) ∧ Below W.heap.size W w'
def pOf (q : ByteArray → ByteArray → Option Bool) (name : ByteArray) (x : S35) : Bool := q x.f0 name == some true
def qAll (q : ByteArray → ByteArray → Option Bool) (l : List (S35)) (name : ByteArray) : Bool := l.all fun x => (q x.f0 name).isSome
def getI (q : ByteArray → ByteArray → Option Bool) (l : List (S35)) (name : ByteArray) : ByteArray × Bool := if idxI (pOf q name) l < 0 then ((⟨#[]⟩ : ByteArray), false) else ((rd_T35 l (idxI (pOf q name) l)).f1, true)
theorem idxI_lt {α : Type} (p : α → Bool) (l : List α) : idxI p l < l.length := by
  unfold idxI
  by_cases h : l.any p = true
  · rw [if_pos h]
    have := List.findIdx_lt_length_of_exists (p := p) (xs := l) (by obtain ⟨x, hx, hp⟩ := List.any_eq_true.1 h; exact ⟨x, hx, hp⟩)
    omega
  · rw [if_neg h]; omega
theorem same_at : SameAt Tryd.prog 12 pairs_Same.f := fun W a b r h => pairs_Same.calls a b r W h
set_option maxHeartbeats 8000000 in
set_option maxRecDepth 100000 in
theorem first1.pred (g : Nat) (q : ByteArray → ByteArray → Option Bool) (hs : SameAt Tryd.prog g q) (eg : ∀ args W, (callFunc g args).run Tryd.prog W = .ok (.enter g args) W) (fb nb : Nat) (name : ByteArray) (w : World) (l : List (S35))
    (hfb : fb < w.heap.size) (hnb : nb < w.heap.size) (hf : w.cell? ⟨fb, 0, none⟩ = some (.func (.func g) #[] #[])) (hn : w.cell? ⟨nb, 0, none⟩ = some (.string name)) (hq : qAll q l name = true) :
    PredK Tryd.prog 39 #[.pointer (some ⟨fb, 0, none⟩), .pointer (some ⟨nb, 0, none⟩)] k35 l (pOf q name) w := by
  intro W x cs hx hb hk
  obtain rfl := k35_open hk
  have hqx : q x.f0 name = some (pOf q name x) := by
    have := List.all_eq_true.1 hq x hx
    unfold pOf
    cases h : q x.f0 name with
    | none => rw [h] at this; cases this
    | some b => cases b <;> rfl
  have HQ := Aside0.mk hqx
  have HS := Aside0.mk hs
  have hf' : W.cell? ⟨fb, 0, none⟩ = some (.func (.func g) #[] #[]) := (hb.cell (p := ⟨fb, 0, none⟩) hfb).trans hf
  have hn' : W.cell? ⟨nb, 0, none⟩ = some (.string name) := (hb.cell (p := ⟨nb, 0, none⟩) hnb).trans hn
  have hf1 : fb ≠ W.heap.size := by have := hb.size; omega
  have hn1 : nb ≠ W.heap.size := by have := hb.size; omega
  have hfl : fb < W.heap.size := by have := hb.size; omega
  have hnl : nb < W.heap.size := by have := hb.size; omega
  have HB := Aside0.mk hb
  clear hqx hs hx hb hk hq hf hn hfb hnb
  show Calls Tryd.prog 39 #[.agg #[.string x.f0, .string x.f1], .pointer (some ⟨fb, 0, none⟩), .pointer (some ⟨nb, 0, none⟩)] W _
  generalize pOf q name x = b at HQ
  go_enter Tryd.func39, Tryd.ntmps39
  go_wp2_with (go_at_fn g; refine (HS.out _ x.f0 name b HQ.out).mono ?_; rintro e w' ⟨rfl, hb'⟩; have HB' := Aside0.mk hb'; clear hb')
  go_ret
  exact ⟨rfl, (HB.out.alloc HB.out.size _).trans (HB'.out.mono (by have := HB.out.size; simp; omega))⟩
set_option maxHeartbeats 8000000 in
set_option maxRecDepth 100000 in
theorem finder_first.calls (g : Nat) (q : ByteArray → ByteArray → Option Bool) (hs : SameAt Tryd.prog g q) (eg : ∀ args W, (callFunc g args).run Tryd.prog W = .ok (.enter g args) W) (A0 : Option Addr) (c0 : Nat) (l0 : List (S35)) (name : ByteArray) (w : World)
    (hr0 : Kd.C k35 w A0 l0.length l0) (hq : qAll q l0 name = true) :
    Calls Tryd.prog 25 #[.agg #[.func (.func g) #[] #[]], .slice A0 l0.length c0, .string name] w fun e w' => e = .returned (.int .i64 (idxI (pOf q name) l0)) ∧ Below w.heap.size w w' := by
  have eg1 : ∀ args W, (callFunc 39 args).run Tryd.prog W = .ok (.enter 39 args) W := enters_of Tryd.func39 (by kernel_rfl) rfl
  have EG1 := Aside0.mk eg1
  have HR := Aside0.mk hr0
  have HS := Aside0.mk hs
  have EG := Aside0.mk eg
  have HQ := Aside0.mk hq
  clear eg1 hr0 hs eg hq
  go_enter Tryd.func25, Tryd.ntmps25
  go_wp2_with (go_at_call 38; refine (api_Pair_38.calls A0 c0 l0 _ (by exact Kd.C_alloc (Kd.C_alloc HR.out _) _) (pOf q name) 39 _ EG1.out (by exact first1.pred g q HS.out EG.out w.heap.size (w.heap.size + 1) name _ l0 (by simp; omega) (by simp) (by simp [World.cell?_alloc_lt, World.cell?_alloc_new]) (by simp [World.cell?_alloc_new]) HQ.out)).mono ?_; rintro e w' ⟨rfl, hb'⟩; have HB' := Aside0.mk hb'; clear hb')
  go_ret
  exact ⟨rfl, (((Below.refl _ w).alloc (Nat.le_refl _) _).alloc (by simp) _).trans (HB'.out.mono (by simp; omega))⟩
set_option maxHeartbeats 8000000 in
set_option maxRecDepth 100000 in
theorem finder_get.calls (g : Nat) (q : ByteArray → ByteArray → Option Bool) (hs : SameAt Tryd.prog g q) (eg : ∀ args W, (callFunc g args).run Tryd.prog W = .ok (.enter g args) W) (A0 : Option Addr) (c0 : Nat) (l0 : List (S35)) (name : ByteArray) (w : World)
    (hr0 : Kd.C k35 w A0 l0.length l0) (hq : qAll q l0 name = true) :
    Calls Tryd.prog 17 #[.agg #[.func (.func g) #[] #[]], .slice A0 l0.length c0, .string name] w fun e w' => e = .returned (.tuple #[.string (getI q l0 name).1, .bool (getI q l0 name).2]) ∧ Below w.heap.size w w' := by
  have HR := Aside0.mk hr0
  have HS := Aside0.mk hs
  have EG := Aside0.mk eg
  have HQ := Aside0.mk hq
  have hlt := idxI_lt (pOf q name) l0
  clear hr0 hs eg hq
  unfold getI
  generalize hix : idxI (pOf q name) l0 = ix at hlt ⊢
  have HIX := Aside0.mk hix
  clear hix
  have hfs := fun W (hW : Kd.C k35 W A0 l0.length l0) => finder_first.calls g q HS.out EG.out A0 c0 l0 name W hW HQ.out
  rw [HIX.out] at hfs
  have HFS := Aside0.mk hfs
  clear hfs
  by_cases h0 : ix < 0
  · rw [if_pos h0]
    have h0b : decide (ix < 0) = true := decide_eq_true h0
    clear h0 hlt
    go_enter Tryd.func17, Tryd.ntmps17
    go_wp2_with (go_at_call 25; refine (HFS.out _ (by exact Kd.C_alloc HR.out _)).mono ?_; rintro e w' ⟨rfl, hb'⟩; have HB' := Aside0.mk hb'; clear hb')
    go_ret2
    exact ⟨rfl, ((Below.refl _ w).alloc (Nat.le_refl _) _).trans (HB'.out.mono (by simp))⟩
  · rw [if_neg h0]
    have h0b : decide (ix < 0) = false := decide_eq_false h0
    have h0p : 0 ≤ ix := by omega
    obtain ⟨ad, ea, hx_0, hx_1⟩ := at_T35 HR.out ix h0p hlt
    cases ea
    have hl0 := And.intro (World.block_lt_of_cell? w _ hx_0) (World.block_lt_of_cell? w _ hx_1)
    generalize hy : rd_T35 l0 ix = y at *
    clear hy
    have h0q := eq_true h0p
    have h1q := eq_true hlt
    have HZ := Aside0.mk hl0
    clear hl0
    clear h0 h0p hlt
    go_enter Tryd.func17, Tryd.ntmps17
    go_wp2_with (go_at_call 25; refine (HFS.out _ (by exact Kd.C_alloc HR.out _)).mono ?_; rintro e w' ⟨rfl, hb'⟩; have hz_1 := (hb'.cell (p := _) (Nat.lt_of_lt_of_le HZ.out.2 (by simp))).trans ((((Below.refl _ w).alloc (Nat.le_refl _) _).cell HZ.out.2).trans hx_1); have HB' := Aside0.mk hb'; clear hb')
    go_ret2
    exact ⟨rfl, ((Below.refl _ w).alloc (Nat.le_refl _) _).trans (HB'.out.mono (by simp))⟩

/-! ### pairs_Get: function 7 -/
def pairs_Get.f (l0 : List (S35)) (a1 : ByteArray) : Option (ByteArray × Bool) := if qAll pairs_Same.f l0 a1 = true then some (getI pairs_Same.f l0 a1) else none
set_option maxHeartbeats 8000000 in
set_option maxRecDepth 100000 in
theorem pairs_Get.calls (A0 : Option Addr) (c0 : Nat) (l0 : List (S35)) (a1 : ByteArray) (r1 : ByteArray) (r2 : Bool) (w : World) (hr0 : Kd.C k35 w A0 l0.length l0) (hc0 : l0.length ≤ c0) (h : pairs_Get.f l0 a1 = some (r1, r2)) :
    Calls Tryd.prog 7 #[.slice A0 l0.length c0, .string a1] w fun e w' => e = .returned (.tuple #[.string r1, .bool r2]) ∧ Below w.heap.size w w' := by
  have hq : qAll pairs_Same.f l0 a1 = true := by
    by_cases hx : qAll pairs_Same.f l0 a1 = true
    · exact hx
    · rw [pairs_Get.f, if_neg hx] at h; cases h
  rw [pairs_Get.f, if_pos hq] at h
  have eg : ∀ args W, (callFunc 12 args).run Tryd.prog W = .ok (.enter 12 args) W := enters_of Tryd.func12 (by kernel_rfl) rfl
  have hcall := finder_get.calls 12 pairs_Same.f same_at eg A0 c0 l0 a1 w hr0 hq
  rw [Option.some.inj h] at hcall
  have HC := Aside0.mk hcall
  clear h hq hcall eg hr0 hc0
  go_enter Tryd.func7, Tryd.ntmps7
  go_wp2_with (go_at_call 17; refine HC.out.mono ?_; rintro e w' ⟨rfl, hb'⟩; have HB' := Aside0.mk hb'; clear hb')
  go_ret2
  exact ⟨rfl, HB'.out⟩

/-! ### bytealg_IndexByteString: function 40 -/
def bytealg_IndexByteString.f (a0 : ByteArray) (a1 : Int) : Option (Int) := none
theorem bytealg_IndexByteString.calls (a0 : ByteArray) (a1 : Int) (r : Int) (w : World) (h : bytealg_IndexByteString.f a0 a1 = some r) :
    Calls Tryd.prog 40 #[.string a0, .int .u8 a1] w fun e w' => e = .returned (.int .i64 r) ∧ Drawn0 w w' := by
  exact absurd h (by simp [bytealg_IndexByteString.f])

/-! ### stringslite_IndexByte: function 26 -/
def stringslite_IndexByte.f (a0 : ByteArray) (a1 : Int) : Option (Int) := some (firstIdx a0 a1.toNat.toUInt8)
set_option maxHeartbeats 4000000 in
theorem stringslite_IndexByte.calls (a0 : ByteArray) (a1 : Int) (r : Int) (w : World) (h : stringslite_IndexByte.f a0 a1 = some r) :
    Calls Tryd.prog 26 #[.string a0, .int .u8 a1] w fun e w' => e = .returned (.int .i64 r) ∧ Drawn0 w w' := by
  obtain rfl := Option.some.inj h
  clear h
  have hov : ∀ W, (callFunc 40 #[.string a0, .int .u8 a1]).run Tryd.prog W = .ok (.value (.int .i64 (firstIdx a0 a1.toNat.toUInt8))) W := fun W => by
    rw [run_callFunc_extern Tryd.func40 (by kernel_rfl) (by kernel_rfl) (by kernel_rfl) (e := Extern.BytealgIndexByte.indexByte) (by kernel_rfl), run_indexByte_string]
    rfl
  go_enter Tryd.func26, Tryd.ntmps26
  go_wp2_with (simp only [hov])
  go_ret
  exact ⟨rfl, Drawn0.refl _⟩

/-! ### strings_IndexByte: function 18 -/
def strings_IndexByte.f (a0 : ByteArray) (a1 : Int) : Option (Int) := (stringslite_IndexByte.f a0 a1).bind fun t127 => (some t127)
set_option maxHeartbeats 8000000 in
set_option maxRecDepth 100000 in
theorem strings_IndexByte.calls (a0 : ByteArray) (a1 : Int) (r : Int) (w : World) (h : strings_IndexByte.f a0 a1 = some r) :
    Calls Tryd.prog 18 #[.string a0, .int .u8 a1] w fun e w' => e = .returned (.int .i64 r) ∧ Drawn0 w w' := by
  have H : ((stringslite_IndexByte.f a0 a1).bind fun t127 => (some t127)) = some r := h
  clear h
  replace H := Option.bind_eq_some_iff.mp H
  obtain ⟨t127, A30, H⟩ := H
  replace H : (some t127) = some r := H
  have A3 := Aside0.mk A30
  clear A30
  obtain rfl := Option.some.inj H
  go_enter Tryd.func18, Tryd.ntmps18
  go_wp2_with (first | ((with_reducible refine gate_callee (f := 26) rfl ?_); refine goesL_ (some 7) rfl rfl Tryd.func26 (by kernel_rfl) rfl #[.string a0, .int .u8 a1] rfl (by (try simp only [List.map_toArray, List.map_cons, List.map_nil]); first | done | rfl | (simp only [List.length_drop, List.length_take]; rfl)) ?_; (with_reducible refine (stringslite_IndexByte.calls a0 a1 t127 _ A3.out).mono ?_); rintro e w' ⟨rfl, ⟨nd, rfl⟩⟩; refine ⟨_, rfl, ?_⟩))
  go_ret
  exact ⟨by first | rfl | (simp; done) | (simp [*]; done) | (simp [bne_nil_isEmpty, beq_nil_isEmpty]; done) | (simp [*, bne_nil_isEmpty, beq_nil_isEmpty]; done), by repeat (first | exact Drawn0.refl _ | apply Drawn0.step)⟩

/-! ### pairs_Token: function 8 -/
def pairs_Token.l0 : Nat → ByteArray → Int → Int → Option (Bool)
  | 0, _, _, _ => none
  | k + 1, x0, x6, x7 => if x7 < x6 then (if 0 ≤ x7 then (if x7 < (x0.size : Int) then (if (Go.bits .or .u8 (bt x0 x7) 32) ≥ 97 then (if (Go.bits .or .u8 (bt x0 x7) 32) ≤ 122 then (pairs_Token.l0 k x0 x6 (wrap64 (x7 + 1))) else (if (bt x0 x7) ≥ 48 then (if (bt x0 x7) ≤ 57 then (pairs_Token.l0 k x0 x6 (wrap64 (x7 + 1))) else ((strings_IndexByte.f (⟨#[33, 35, 36, 37, 38, 39, 42, 43, 45, 46, 94, 95, 96, 124, 126]⟩ : ByteArray) (bt x0 x7)).bind fun t128 => (if t128 ≥ 0 then (pairs_Token.l0 k x0 x6 (wrap64 (x7 + 1))) else (some false)))) else ((strings_IndexByte.f (⟨#[33, 35, 36, 37, 38, 39, 42, 43, 45, 46, 94, 95, 96, 124, 126]⟩ : ByteArray) (bt x0 x7)).bind fun t129 => (if t129 ≥ 0 then (pairs_Token.l0 k x0 x6 (wrap64 (x7 + 1))) else (some false))))) else (if (bt x0 x7) ≥ 48 then (if (bt x0 x7) ≤ 57 then (pairs_Token.l0 k x0 x6 (wrap64 (x7 + 1))) else ((strings_IndexByte.f (⟨#[33, 35, 36, 37, 38, 39, 42, 43, 45, 46, 94, 95, 96, 124, 126]⟩ : ByteArray) (bt x0 x7)).bind fun t130 => (if t130 ≥ 0 then (pairs_Token.l0 k x0 x6 (wrap64 (x7 + 1))) else (some false)))) else ((strings_IndexByte.f (⟨#[33, 35, 36, 37, 38, 39, 42, 43, 45, 46, 94, 95, 96, 124, 126]⟩ : ByteArray) (bt x0 x7)).bind fun t131 => (if t131 ≥ 0 then (pairs_Token.l0 k x0 x6 (wrap64 (x7 + 1))) else (some false))))) else (none)) else (none)) else (if x0.toList = ([] : List UInt8) then (some false) else (some (decide ((x0.size : Int) ≤ 40))))
def pairs_Token.f (k : Nat) (a0 : ByteArray) : Option (Bool) := pairs_Token.l0 k a0 (a0.size : Int) 0
theorem pairs_Token.mono_l : ∀ k, (∀ y0 y1 y2, LeO (pairs_Token.l0 k y0 y1 y2) (pairs_Token.l0 (k + 1) y0 y1 y2))
  | 0 => fun _ _ _ r h => by simp [pairs_Token.l0] at h
  | k + 1 => by
    have ih0 := pairs_Token.mono_l k
    · intro y0 y1 y2
      unfold pairs_Token.l0
      repeat' first
      | (with_reducible exact ih0 _ _ _)
      | (with_reducible exact LeO.refl _)
      | (with_reducible exact LeO.none _)
      | (with_reducible refine LeO.ite ?_ ?_)
      | (with_reducible refine LeO.bind ?_ (fun _ => ?_))
      | exact ih0 _ _ _
      | exact LeO.none _
      | refine LeO.ite ?_ ?_
      | refine LeO.bind ?_ (fun _ => ?_)
theorem pairs_Token.mono : ∀ a0 k, LeO (pairs_Token.f k a0) (pairs_Token.f (k + 1) a0) := by
  intro a0 k
  have ih0 := pairs_Token.mono_l k
  unfold pairs_Token.f
  repeat' first
      | (with_reducible exact ih0 _ _ _)
      | (with_reducible exact LeO.refl _)
      | (with_reducible exact LeO.none _)
      | (with_reducible refine LeO.ite ?_ ?_)
      | (with_reducible refine LeO.bind ?_ (fun _ => ?_))
      | exact ih0 _ _ _
      | exact LeO.none _
      | refine LeO.ite ?_ ?_
      | refine LeO.bind ?_ (fun _ => ?_)
set_option maxHeartbeats 8000000 in
set_option maxRecDepth 100000 in
theorem pairs_Token.calls (k : Nat) (a0 : ByteArray) (r : Bool) (w : World) (h : pairs_Token.f k a0 = some r) :
    Calls Tryd.prog 8 #[.string a0] w fun e w' => e = .returned (.bool r) ∧ Drawn0 w w' := by
  have H : (pairs_Token.l0 k a0 (a0.size : Int) 0) = some r := h
  clear h
  have H' := Aside0.mk H
  clear H
  go_enter Tryd.func8, Tryd.ntmps8
  go_wp2
  go_loopg [7] k (fun kq v7 w' => ∃ (x7_1 : Int), v7 = .int .i64 x7_1 ∧ Aside0 (pairs_Token.l0 kq a0 (a0.size : Int) x7_1 = some r) ∧ Aside0 (kq ≤ k) ∧ Drawn0 w w')
  case atStart => exact ⟨(0), (by first | rfl | (simp; done) | (simp [*]; done) | (simp [bne_nil_isEmpty, beq_nil_isEmpty]; done) | (simp [*, bne_nil_isEmpty, beq_nil_isEmpty]; done)), H', ⟨Nat.le_refl _⟩, by repeat (first | exact Drawn0.refl _ | apply Drawn0.step)⟩
  case round =>
    clear H'
    obtain ⟨x7_1, rfl, HA, HK1, ⟨m1, rfl⟩⟩ := hrel
    cases gk with
    | zero => exact absurd HA.out (by simp [pairs_Token.l0])
    | succ k1 =>
      have H := HA.out
      clear HA
      simp only [pairs_Token.l0] at H
      by_cases c2 : x7_1 < (a0.size : Int)
      · rw [if_pos c2] at H
        have c2b0 : decide (x7_1 < (a0.size : Int)) = true := decide_eq_true c2
        clear c2
        by_cases c3 : 0 ≤ x7_1
        · rw [if_pos c3] at H
          have c3b0 : decide (0 ≤ x7_1) = true := decide_eq_true c3
          clear c3
          by_cases c4 : x7_1 < (a0.size : Int)
          · rw [if_pos c4] at H
            have c4b0 : decide (x7_1 < (a0.size : Int)) = true := decide_eq_true c4
            clear c4
            by_cases c6 : (Go.bits .or .u8 (bt a0 x7_1) 32) ≥ 97
            · rw [if_pos c6] at H
              have c6b0 : decide (97 ≤ (Go.bits .or .u8 (bt a0 x7_1) 32)) = true := decide_eq_true c6
              clear c6
              by_cases c7 : (Go.bits .or .u8 (bt a0 x7_1) 32) ≤ 122
              · rw [if_pos c7] at H
                have c7b0 : decide ((Go.bits .or .u8 (bt a0 x7_1) 32) ≤ 122) = true := decide_eq_true c7
                clear c7
                have H' := Aside0.mk H
                clear H
                have p5 : 0 ≤ (x7_1 : Int) := of_decide_eq_true (by first | (with_reducible assumption) | assumption)
                have q5 : x7_1 < (a0.size : Int) := of_decide_eq_true (by first | (with_reducible assumption) | assumption)
                have hx5 := bt_at a0 x7_1
                replace p5 := eq_true p5
                replace q5 := eq_true q5
                go_wp2
                go_roundg k1
                case measure => have := HK1.out; omega
                case rel => exact ⟨(wrap64 (x7_1 + 1)), (by first | rfl | (simp; done) | (simp [*]; done) | (simp [bne_nil_isEmpty, beq_nil_isEmpty]; done) | (simp [*, bne_nil_isEmpty, beq_nil_isEmpty]; done)), H', ⟨by have := HK1.out; omega⟩, by repeat (first | exact Drawn0.refl _ | apply Drawn0.step)⟩
              · rw [if_neg c7] at H
                have c7b0 : decide ((Go.bits .or .u8 (bt a0 x7_1) 32) ≤ 122) = false := decide_eq_false c7
                clear c7
                by_cases c9 : (bt a0 x7_1) ≥ 48
                · rw [if_pos c9] at H
                  have c9b0 : decide (48 ≤ (bt a0 x7_1)) = true := decide_eq_true c9
                  clear c9
                  by_cases c11 : (bt a0 x7_1) ≤ 57
                  · rw [if_pos c11] at H
                    have c11b0 : decide ((bt a0 x7_1) ≤ 57) = true := decide_eq_true c11
                    clear c11
                    have H' := Aside0.mk H
                    clear H
                    have p5 : 0 ≤ (x7_1 : Int) := of_decide_eq_true (by first | (with_reducible assumption) | assumption)
                    have q5 : x7_1 < (a0.size : Int) := of_decide_eq_true (by first | (with_reducible assumption) | assumption)
                    have hx5 := bt_at a0 x7_1
                    replace p5 := eq_true p5
                    replace q5 := eq_true q5
                    have p8 : 0 ≤ (x7_1 : Int) := of_decide_eq_true (by first | (with_reducible assumption) | assumption)
                    have q8 : x7_1 < (a0.size : Int) := of_decide_eq_true (by first | (with_reducible assumption) | assumption)
                    have hx8 := bt_at a0 x7_1
                    replace p8 := eq_true p8
                    replace q8 := eq_true q8
                    have p10 : 0 ≤ (x7_1 : Int) := of_decide_eq_true (by first | (with_reducible assumption) | assumption)
                    have q10 : x7_1 < (a0.size : Int) := of_decide_eq_true (by first | (with_reducible assumption) | assumption)
                    have hx10 := bt_at a0 x7_1
                    replace p10 := eq_true p10
                    replace q10 := eq_true q10
                    go_wp2
                    go_roundg k1
                    case measure => have := HK1.out; omega
                    case rel => exact ⟨(wrap64 (x7_1 + 1)), (by first | rfl | (simp; done) | (simp [*]; done) | (simp [bne_nil_isEmpty, beq_nil_isEmpty]; done) | (simp [*, bne_nil_isEmpty, beq_nil_isEmpty]; done)), H', ⟨by have := HK1.out; omega⟩, by repeat (first | exact Drawn0.refl _ | apply Drawn0.step)⟩
                  · rw [if_neg c11] at H
                    have c11b0 : decide ((bt a0 x7_1) ≤ 57) = false := decide_eq_false c11
                    clear c11
                    replace H := Option.bind_eq_some_iff.mp H
                    obtain ⟨t128, A130, H⟩ := H
                    replace H : (if t128 ≥ 0 then (pairs_Token.l0 k1 a0 (a0.size : Int) (wrap64 (x7_1 + 1))) else (some false)) = some r := H
                    have A13 := Aside0.mk A130
                    clear A130
                    by_cases c14 : t128 ≥ 0
                    · rw [if_pos c14] at H
                      have c14b0 : decide (0 ≤ t128) = true := decide_eq_true c14
                      clear c14
                      have H' := Aside0.mk H
                      clear H
                      have p5 : 0 ≤ (x7_1 : Int) := of_decide_eq_true (by first | (with_reducible assumption) | assumption)
                      have q5 : x7_1 < (a0.size : Int) := of_decide_eq_true (by first | (with_reducible assumption) | assumption)
                      have hx5 := bt_at a0 x7_1
                      replace p5 := eq_true p5
                      replace q5 := eq_true q5
                      have p8 : 0 ≤ (x7_1 : Int) := of_decide_eq_true (by first | (with_reducible assumption) | assumption)
                      have q8 : x7_1 < (a0.size : Int) := of_decide_eq_true (by first | (with_reducible assumption) | assumption)
                      have hx8 := bt_at a0 x7_1
                      replace p8 := eq_true p8
                      replace q8 := eq_true q8
                      have p10 : 0 ≤ (x7_1 : Int) := of_decide_eq_true (by first | (with_reducible assumption) | assumption)
                      have q10 : x7_1 < (a0.size : Int) := of_decide_eq_true (by first | (with_reducible assumption) | assumption)
                      have hx10 := bt_at a0 x7_1
                      replace p10 := eq_true p10
                      replace q10 := eq_true q10
                      have p12 : 0 ≤ (x7_1 : Int) := of_decide_eq_true (by first | (with_reducible assumption) | assumption)
                      have q12 : x7_1 < (a0.size : Int) := of_decide_eq_true (by first | (with_reducible assumption) | assumption)
                      have hx12 := bt_at a0 x7_1
                      replace p12 := eq_true p12
                      replace q12 := eq_true q12
                      go_wp2_with (first | (go_at_call 18; (with_reducible refine (strings_IndexByte.calls (⟨#[33, 35, 36, 37, 38, 39, 42, 43, 45, 46, 94, 95, 96, 124, 126]⟩ : ByteArray) (bt a0 x7_1) t128 _ A13.out).mono ?_); rintro e w' ⟨rfl, ⟨nd, rfl⟩⟩))
                      go_roundg k1
                      case measure => have := HK1.out; omega
                      case rel => exact ⟨(wrap64 (x7_1 + 1)), (by first | rfl | (simp; done) | (simp [*]; done) | (simp [bne_nil_isEmpty, beq_nil_isEmpty]; done) | (simp [*, bne_nil_isEmpty, beq_nil_isEmpty]; done)), H', ⟨by have := HK1.out; omega⟩, by repeat (first | exact Drawn0.refl _ | apply Drawn0.step)⟩
                    · rw [if_neg c14] at H
                      have c14b0 : decide (0 ≤ t128) = false := decide_eq_false c14
                      clear c14
                      obtain rfl := Option.some.inj H
                      have p5 : 0 ≤ (x7_1 : Int) := of_decide_eq_true (by first | (with_reducible assumption) | assumption)
                      have q5 : x7_1 < (a0.size : Int) := of_decide_eq_true (by first | (with_reducible assumption) | assumption)
                      have hx5 := bt_at a0 x7_1
                      replace p5 := eq_true p5
                      replace q5 := eq_true q5
                      have p8 : 0 ≤ (x7_1 : Int) := of_decide_eq_true (by first | (with_reducible assumption) | assumption)
                      have q8 : x7_1 < (a0.size : Int) := of_decide_eq_true (by first | (with_reducible assumption) | assumption)
                      have hx8 := bt_at a0 x7_1
                      replace p8 := eq_true p8
                      replace q8 := eq_true q8
                      have p10 : 0 ≤ (x7_1 : Int) := of_decide_eq_true (by first | (with_reducible assumption) | assumption)
                      have q10 : x7_1 < (a0.size : Int) := of_decide_eq_true (by first | (with_reducible assumption) | assumption)
                      have hx10 := bt_at a0 x7_1
                      replace p10 := eq_true p10
                      replace q10 := eq_true q10
                      have p12 : 0 ≤ (x7_1 : Int) := of_decide_eq_true (by first | (with_reducible assumption) | assumption)
                      have q12 : x7_1 < (a0.size : Int) := of_decide_eq_true (by first | (with_reducible assumption) | assumption)
                      have hx12 := bt_at a0 x7_1
                      replace p12 := eq_true p12
                      replace q12 := eq_true q12
                      go_wp2_with (first | (go_at_call 18; (with_reducible refine (strings_IndexByte.calls (⟨#[33, 35, 36, 37, 38, 39, 42, 43, 45, 46, 94, 95, 96, 124, 126]⟩ : ByteArray) (bt a0 x7_1) t128 _ A13.out).mono ?_); rintro e w' ⟨rfl, ⟨nd, rfl⟩⟩))
                      go_ret
                      exact ⟨by first | rfl | (simp; done) | (simp [*]; done) | (simp [bne_nil_isEmpty, beq_nil_isEmpty]; done) | (simp [*, bne_nil_isEmpty, beq_nil_isEmpty]; done), by repeat (first | exact Drawn0.refl _ | apply Drawn0.step)⟩
                · rw [if_neg c9] at H
                  have c9b0 : decide (48 ≤ (bt a0 x7_1)) = false := decide_eq_false c9
                  clear c9
                  replace H := Option.bind_eq_some_iff.mp H
                  obtain ⟨t129, A160, H⟩ := H
                  replace H : (if t129 ≥ 0 then (pairs_Token.l0 k1 a0 (a0.size : Int) (wrap64 (x7_1 + 1))) else (some false)) = some r := H
                  have A16 := Aside0.mk A160
                  clear A160
                  by_cases c17 : t129 ≥ 0
                  · rw [if_pos c17] at H
                    have c17b0 : decide (0 ≤ t129) = true := decide_eq_true c17
                    clear c17
                    have H' := Aside0.mk H
                    clear H
                    have p5 : 0 ≤ (x7_1 : Int) := of_decide_eq_true (by first | (with_reducible assumption) | assumption)
                    have q5 : x7_1 < (a0.size : Int) := of_decide_eq_true (by first | (with_reducible assumption) | assumption)
                    have hx5 := bt_at a0 x7_1
                    replace p5 := eq_true p5
                    replace q5 := eq_true q5
                    have p8 : 0 ≤ (x7_1 : Int) := of_decide_eq_true (by first | (with_reducible assumption) | assumption)
                    have q8 : x7_1 < (a0.size : Int) := of_decide_eq_true (by first | (with_reducible assumption) | assumption)
                    have hx8 := bt_at a0 x7_1
                    replace p8 := eq_true p8
                    replace q8 := eq_true q8
                    have p15 : 0 ≤ (x7_1 : Int) := of_decide_eq_true (by first | (with_reducible assumption) | assumption)
                    have q15 : x7_1 < (a0.size : Int) := of_decide_eq_true (by first | (with_reducible assumption) | assumption)
                    have hx15 := bt_at a0 x7_1
                    replace p15 := eq_true p15
                    replace q15 := eq_true q15
                    go_wp2_with (first | (go_at_call 18; (with_reducible refine (strings_IndexByte.calls (⟨#[33, 35, 36, 37, 38, 39, 42, 43, 45, 46, 94, 95, 96, 124, 126]⟩ : ByteArray) (bt a0 x7_1) t129 _ A16.out).mono ?_); rintro e w' ⟨rfl, ⟨nd, rfl⟩⟩))
                    go_roundg k1
                    case measure => have := HK1.out; omega
                    case rel => exact ⟨(wrap64 (x7_1 + 1)), (by first | rfl | (simp; done) | (simp [*]; done) | (simp [bne_nil_isEmpty, beq_nil_isEmpty]; done) | (simp [*, bne_nil_isEmpty, beq_nil_isEmpty]; done)), H', ⟨by have := HK1.out; omega⟩, by repeat (first | exact Drawn0.refl _ | apply Drawn0.step)⟩
                  · rw [if_neg c17] at H
                    have c17b0 : decide (0 ≤ t129) = false := decide_eq_false c17
                    clear c17
                    obtain rfl := Option.some.inj H
                    have p5 : 0 ≤ (x7_1 : Int) := of_decide_eq_true (by first | (with_reducible assumption) | assumption)
                    have q5 : x7_1 < (a0.size : Int) := of_decide_eq_true (by first | (with_reducible assumption) | assumption)
                    have hx5 := bt_at a0 x7_1
                    replace p5 := eq_true p5
                    replace q5 := eq_true q5
                    have p8 : 0 ≤ (x7_1 : Int) := of_decide_eq_true (by first | (with_reducible assumption) | assumption)
                    have q8 : x7_1 < (a0.size : Int) := of_decide_eq_true (by first | (with_reducible assumption) | assumption)
                    have hx8 := bt_at a0 x7_1
                    replace p8 := eq_true p8
                    replace q8 := eq_true q8
                    have p15 : 0 ≤ (x7_1 : Int) := of_decide_eq_true (by first | (with_reducible assumption) | assumption)
                    have q15 : x7_1 < (a0.size : Int) := of_decide_eq_true (by first | (with_reducible assumption) | assumption)
                    have hx15 := bt_at a0 x7_1
                    replace p15 := eq_true p15
                    replace q15 := eq_true q15
                    go_wp2_with (first | (go_at_call 18; (with_reducible refine (strings_IndexByte.calls (⟨#[33, 35, 36, 37, 38, 39, 42, 43, 45, 46, 94, 95, 96, 124, 126]⟩ : ByteArray) (bt a0 x7_1) t129 _ A16.out).mono ?_); rintro e w' ⟨rfl, ⟨nd, rfl⟩⟩))
                    go_ret
                    exact ⟨by first | rfl | (simp; done) | (simp [*]; done) | (simp [bne_nil_isEmpty, beq_nil_isEmpty]; done) | (simp [*, bne_nil_isEmpty, beq_nil_isEmpty]; done), by repeat (first | exact Drawn0.refl _ | apply Drawn0.step)⟩
            · rw [if_neg c6] at H
              have c6b0 : decide (97 ≤ (Go.bits .or .u8 (bt a0 x7_1) 32)) = false := decide_eq_false c6
              clear c6
              by_cases c19 : (bt a0 x7_1) ≥ 48
              · rw [if_pos c19] at H
                have c19b0 : decide (48 ≤ (bt a0 x7_1)) = true := decide_eq_true c19
                clear c19
                by_cases c21 : (bt a0 x7_1) ≤ 57
                · rw [if_pos c21] at H
                  have c21b0 : decide ((bt a0 x7_1) ≤ 57) = true := decide_eq_true c21
                  clear c21
                  have H' := Aside0.mk H
                  clear H
                  have p5 : 0 ≤ (x7_1 : Int) := of_decide_eq_true (by first | (with_reducible assumption) | assumption)
                  have q5 : x7_1 < (a0.size : Int) := of_decide_eq_true (by first | (with_reducible assumption) | assumption)
                  have hx5 := bt_at a0 x7_1
                  replace p5 := eq_true p5
                  replace q5 := eq_true q5
                  have p18 : 0 ≤ (x7_1 : Int) := of_decide_eq_true (by first | (with_reducible assumption) | assumption)
                  have q18 : x7_1 < (a0.size : Int) := of_decide_eq_true (by first | (with_reducible assumption) | assumption)
                  have hx18 := bt_at a0 x7_1
                  replace p18 := eq_true p18
                  replace q18 := eq_true q18
                  have p20 : 0 ≤ (x7_1 : Int) := of_decide_eq_true (by first | (with_reducible assumption) | assumption)
                  have q20 : x7_1 < (a0.size : Int) := of_decide_eq_true (by first | (with_reducible assumption) | assumption)
                  have hx20 := bt_at a0 x7_1
                  replace p20 := eq_true p20
                  replace q20 := eq_true q20
                  go_wp2
                  go_roundg k1
                  case measure => have := HK1.out; omega
                  case rel => exact ⟨(wrap64 (x7_1 + 1)), (by first | rfl | (simp; done) | (simp [*]; done) | (simp [bne_nil_isEmpty, beq_nil_isEmpty]; done) | (simp [*, bne_nil_isEmpty, beq_nil_isEmpty]; done)), H', ⟨by have := HK1.out; omega⟩, by repeat (first | exact Drawn0.refl _ | apply Drawn0.step)⟩
                · rw [if_neg c21] at H
                  have c21b0 : decide ((bt a0 x7_1) ≤ 57) = false := decide_eq_false c21
                  clear c21
                  replace H := Option.bind_eq_some_iff.mp H
                  obtain ⟨t130, A230, H⟩ := H
                  replace H : (if t130 ≥ 0 then (pairs_Token.l0 k1 a0 (a0.size : Int) (wrap64 (x7_1 + 1))) else (some false)) = some r := H
                  have A23 := Aside0.mk A230
                  clear A230
                  by_cases c24 : t130 ≥ 0
                  · rw [if_pos c24] at H
                    have c24b0 : decide (0 ≤ t130) = true := decide_eq_true c24
                    clear c24
                    have H' := Aside0.mk H
                    clear H
                    have p5 : 0 ≤ (x7_1 : Int) := of_decide_eq_true (by first | (with_reducible assumption) | assumption)
                    have q5 : x7_1 < (a0.size : Int) := of_decide_eq_true (by first | (with_reducible assumption) | assumption)
                    have hx5 := bt_at a0 x7_1
                    replace p5 := eq_true p5
                    replace q5 := eq_true q5
                    have p18 : 0 ≤ (x7_1 : Int) := of_decide_eq_true (by first | (with_reducible assumption) | assumption)
                    have q18 : x7_1 < (a0.size : Int) := of_decide_eq_true (by first | (with_reducible assumption) | assumption)
                    have hx18 := bt_at a0 x7_1
                    replace p18 := eq_true p18
                    replace q18 := eq_true q18
                    have p20 : 0 ≤ (x7_1 : Int) := of_decide_eq_true (by first | (with_reducible assumption) | assumption)
                    have q20 : x7_1 < (a0.size : Int) := of_decide_eq_true (by first | (with_reducible assumption) | assumption)
                    have hx20 := bt_at a0 x7_1
                    replace p20 := eq_true p20
                    replace q20 := eq_true q20
                    have p22 : 0 ≤ (x7_1 : Int) := of_decide_eq_true (by first | (with_reducible assumption) | assumption)
                    have q22 : x7_1 < (a0.size : Int) := of_decide_eq_true (by first | (with_reducible assumption) | assumption)
                    have hx22 := bt_at a0 x7_1
                    replace p22 := eq_true p22
                    replace q22 := eq_true q22
                    go_wp2_with (first | (go_at_call 18; (with_reducible refine (strings_IndexByte.calls (⟨#[33, 35, 36, 37, 38, 39, 42, 43, 45, 46, 94, 95, 96, 124, 126]⟩ : ByteArray) (bt a0 x7_1) t130 _ A23.out).mono ?_); rintro e w' ⟨rfl, ⟨nd, rfl⟩⟩))
                    go_roundg k1
                    case measure => have := HK1.out; omega
                    case rel => exact ⟨(wrap64 (x7_1 + 1)), (by first | rfl | (simp; done) | (simp [*]; done) | (simp [bne_nil_isEmpty, beq_nil_isEmpty]; done) | (simp [*, bne_nil_isEmpty, beq_nil_isEmpty]; done)), H', ⟨by have := HK1.out; omega⟩, by repeat (first | exact Drawn0.refl _ | apply Drawn0.step)⟩
                  · rw [if_neg c24] at H
                    have c24b0 : decide (0 ≤ t130) = false := decide_eq_false c24
                    clear c24
                    obtain rfl := Option.some.inj H
                    have p5 : 0 ≤ (x7_1 : Int) := of_decide_eq_true (by first | (with_reducible assumption) | assumption)
                    have q5 : x7_1 < (a0.size : Int) := of_decide_eq_true (by first | (with_reducible assumption) | assumption)
                    have hx5 := bt_at a0 x7_1
                    replace p5 := eq_true p5
                    replace q5 := eq_true q5
                    have p18 : 0 ≤ (x7_1 : Int) := of_decide_eq_true (by first | (with_reducible assumption) | assumption)
                    have q18 : x7_1 < (a0.size : Int) := of_decide_eq_true (by first | (with_reducible assumption) | assumption)
                    have hx18 := bt_at a0 x7_1
                    replace p18 := eq_true p18
                    replace q18 := eq_true q18
                    have p20 : 0 ≤ (x7_1 : Int) := of_decide_eq_true (by first | (with_reducible assumption) | assumption)
                    have q20 : x7_1 < (a0.size : Int) := of_decide_eq_true (by first | (with_reducible assumption) | assumption)
                    have hx20 := bt_at a0 x7_1
                    replace p20 := eq_true p20
                    replace q20 := eq_true q20
                    have p22 : 0 ≤ (x7_1 : Int) := of_decide_eq_true (by first | (with_reducible assumption) | assumption)
                    have q22 : x7_1 < (a0.size : Int) := of_decide_eq_true (by first | (with_reducible assumption) | assumption)
                    have hx22 := bt_at a0 x7_1
                    replace p22 := eq_true p22
                    replace q22 := eq_true q22
                    go_wp2_with (first | (go_at_call 18; (with_reducible refine (strings_IndexByte.calls (⟨#[33, 35, 36, 37, 38, 39, 42, 43, 45, 46, 94, 95, 96, 124, 126]⟩ : ByteArray) (bt a0 x7_1) t130 _ A23.out).mono ?_); rintro e w' ⟨rfl, ⟨nd, rfl⟩⟩))
                    go_ret
                    exact ⟨by first | rfl | (simp; done) | (simp [*]; done) | (simp [bne_nil_isEmpty, beq_nil_isEmpty]; done) | (simp [*, bne_nil_isEmpty, beq_nil_isEmpty]; done), by repeat (first | exact Drawn0.refl _ | apply Drawn0.step)⟩
              · rw [if_neg c19] at H
                have c19b0 : decide (48 ≤ (bt a0 x7_1)) = false := decide_eq_false c19
                clear c19
                replace H := Option.bind_eq_some_iff.mp H
                obtain ⟨t131, A260, H⟩ := H
                replace H : (if t131 ≥ 0 then (pairs_Token.l0 k1 a0 (a0.size : Int) (wrap64 (x7_1 + 1))) else (some false)) = some r := H
                have A26 := Aside0.mk A260
                clear A260
                by_cases c27 : t131 ≥ 0
                · rw [if_pos c27] at H
                  have c27b0 : decide (0 ≤ t131) = true := decide_eq_true c27
                  clear c27
                  have H' := Aside0.mk H
                  clear H
                  have p5 : 0 ≤ (x7_1 : Int) := of_decide_eq_true (by first | (with_reducible assumption) | assumption)
                  have q5 : x7_1 < (a0.size : Int) := of_decide_eq_true (by first | (with_reducible assumption) | assumption)
                  have hx5 := bt_at a0 x7_1
                  replace p5 := eq_true p5
                  replace q5 := eq_true q5
                  have p18 : 0 ≤ (x7_1 : Int) := of_decide_eq_true (by first | (with_reducible assumption) | assumption)
                  have q18 : x7_1 < (a0.size : Int) := of_decide_eq_true (by first | (with_reducible assumption) | assumption)
                  have hx18 := bt_at a0 x7_1
                  replace p18 := eq_true p18
                  replace q18 := eq_true q18
                  have p25 : 0 ≤ (x7_1 : Int) := of_decide_eq_true (by first | (with_reducible assumption) | assumption)
                  have q25 : x7_1 < (a0.size : Int) := of_decide_eq_true (by first | (with_reducible assumption) | assumption)
                  have hx25 := bt_at a0 x7_1
                  replace p25 := eq_true p25
                  replace q25 := eq_true q25
                  go_wp2_with (first | (go_at_call 18; (with_reducible refine (strings_IndexByte.calls (⟨#[33, 35, 36, 37, 38, 39, 42, 43, 45, 46, 94, 95, 96, 124, 126]⟩ : ByteArray) (bt a0 x7_1) t131 _ A26.out).mono ?_); rintro e w' ⟨rfl, ⟨nd, rfl⟩⟩))
                  go_roundg k1
                  case measure => have := HK1.out; omega
                  case rel => exact ⟨(wrap64 (x7_1 + 1)), (by first | rfl | (simp; done) | (simp [*]; done) | (simp [bne_nil_isEmpty, beq_nil_isEmpty]; done) | (simp [*, bne_nil_isEmpty, beq_nil_isEmpty]; done)), H', ⟨by have := HK1.out; omega⟩, by repeat (first | exact Drawn0.refl _ | apply Drawn0.step)⟩
                · rw [if_neg c27] at H
                  have c27b0 : decide (0 ≤ t131) = false := decide_eq_false c27
                  clear c27
                  obtain rfl := Option.some.inj H
                  have p5 : 0 ≤ (x7_1 : Int) := of_decide_eq_true (by first | (with_reducible assumption) | assumption)
                  have q5 : x7_1 < (a0.size : Int) := of_decide_eq_true (by first | (with_reducible assumption) | assumption)
                  have hx5 := bt_at a0 x7_1
                  replace p5 := eq_true p5
                  replace q5 := eq_true q5
                  have p18 : 0 ≤ (x7_1 : Int) := of_decide_eq_true (by first | (with_reducible assumption) | assumption)
                  have q18 : x7_1 < (a0.size : Int) := of_decide_eq_true (by first | (with_reducible assumption) | assumption)
                  have hx18 := bt_at a0 x7_1
                  replace p18 := eq_true p18
                  replace q18 := eq_true q18
                  have p25 : 0 ≤ (x7_1 : Int) := of_decide_eq_true (by first | (with_reducible assumption) | assumption)
                  have q25 : x7_1 < (a0.size : Int) := of_decide_eq_true (by first | (with_reducible assumption) | assumption)
                  have hx25 := bt_at a0 x7_1
                  replace p25 := eq_true p25
                  replace q25 := eq_true q25
                  go_wp2_with (first | (go_at_call 18; (with_reducible refine (strings_IndexByte.calls (⟨#[33, 35, 36, 37, 38, 39, 42, 43, 45, 46, 94, 95, 96, 124, 126]⟩ : ByteArray) (bt a0 x7_1) t131 _ A26.out).mono ?_); rintro e w' ⟨rfl, ⟨nd, rfl⟩⟩))
                  go_ret
                  exact ⟨by first | rfl | (simp; done) | (simp [*]; done) | (simp [bne_nil_isEmpty, beq_nil_isEmpty]; done) | (simp [*, bne_nil_isEmpty, beq_nil_isEmpty]; done), by repeat (first | exact Drawn0.refl _ | apply Drawn0.step)⟩
          · rw [if_neg c4] at H
            exact absurd H (by simp)
        · rw [if_neg c3] at H
          exact absurd H (by simp)
      · rw [if_neg c2] at H
        have c2b0 : decide (x7_1 < (a0.size : Int)) = false := decide_eq_false c2
        clear c2
        by_cases c28 : a0.toList = ([] : List UInt8)
        · rw [if_pos c28] at H
          have c28b0 : (a0.toList == ([] : List UInt8)) = true := beq_iff_eq.mpr c28
          have c28b1 : (a0.toList != ([] : List UInt8)) = false := bne_eq_false_iff_eq.mpr c28
          clear c28
          obtain rfl := Option.some.inj H
          go_wp2
          go_ret
          exact ⟨by first | rfl | (simp; done) | (simp [*]; done) | (simp [bne_nil_isEmpty, beq_nil_isEmpty]; done) | (simp [*, bne_nil_isEmpty, beq_nil_isEmpty]; done), by repeat (first | exact Drawn0.refl _ | apply Drawn0.step)⟩
        · rw [if_neg c28] at H
          have c28b0 : (a0.toList == ([] : List UInt8)) = false := beq_eq_false_iff_ne.mpr c28
          have c28b1 : (a0.toList != ([] : List UInt8)) = true := bne_iff_ne.mpr c28
          obtain rfl := Option.some.inj H
          go_wp2
          go_ret
          exact ⟨by first | rfl | (simp; done) | (simp [*]; done) | (simp [bne_nil_isEmpty, beq_nil_isEmpty]; done) | (simp [*, bne_nil_isEmpty, beq_nil_isEmpty]; done), by repeat (first | exact Drawn0.refl _ | apply Drawn0.step)⟩

end Go.Proofs.YtnldeohdojemlaaDoor.P
