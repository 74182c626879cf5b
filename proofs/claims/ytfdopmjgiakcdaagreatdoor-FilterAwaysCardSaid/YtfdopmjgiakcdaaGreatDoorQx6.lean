-- written by wip/tool/hprint.py of this repo: the kit's print, with contracts by hand joined; Lean checks it.
import Derived.Test.YtfdopmjgiakcdaaGreatDoorQx0
import Derived.Test.YtfdopmjgiakcdaaGreatDoorQx5
namespace Go.Proofs.YtfdopmjgiakcdaaGreatDoor.Q
open Go.RowKit Go.Proofs.YtfdopmjgiakcdaaGreatDoorW.PrintWords Go.Proofs.YtfdopmjgiakcdaaGreatDoorW.PrintLast Go.Proofs.YtfdopmjgiakcdaaGreatDoorW.PrintMore
attribute [local go_sem] max2_int min2_int max_two min_two max_three min_three max_four min_four   -- for this text's walks alone
set_option linter.unusedVariables false
set_option linter.unusedSimpArgs false

/-! ### dns_Fold: function 59 -/
def dns_Fold.b (c : UInt8) : UInt8 := if 65 ≤ c.toNat ∧ c.toNat ≤ 90 then UInt8.ofNat (c.toNat + 32) else c
def dns_Fold.f (a0 : ByteArray) : Option (ByteArray) := if a0.size ≤ 9223372036854775807 then some ⟨(a0.data.toList.map dns_Fold.b).toArray⟩ else none
/-- The octets as numbers, the first k of them folded. -/
def dns_Fold.at_ (s : ByteArray) (k j : Nat) : Int := if j < k then ((dns_Fold.b (s.data.toList.getD j 0)).toNat : Int) else ((s.data.toList.getD j 0).toNat : Int)
theorem dns_Fold.bits_or (c : Int) (h0 : 65 ≤ c) (h1 : c ≤ 90) : Go.bits .or .u8 c 32 = c + 32 := by
 have h : ∀ n : Fin 26, Go.bits .or .u8 (65 + (n.val : Int)) 32 = 97 + (n.val : Int) := by decide
 have := h ⟨(c - 65).toNat, by omega⟩
 simp only [Int.toNat_of_nonneg (show 0 ≤ c - 65 by omega)] at this
 rw [show (65 : Int) + (c - 65) = c by omega, show (97 : Int) + (c - 65) = c + 32 by omega] at this
 exact this
theorem dns_Fold.in_ (c : UInt8) (h0 : 65 ≤ c.toNat) (h1 : c.toNat ≤ 90) : ((dns_Fold.b c).toNat : Int) = (c.toNat : Int) + 32 := by
 unfold dns_Fold.b
 rw [if_pos ⟨h0, h1⟩, UInt8.toNat_ofNat']
 omega
theorem dns_Fold.out_ (c : UInt8) (h : ¬ (65 ≤ c.toNat ∧ c.toNat ≤ 90)) : dns_Fold.b c = c := by
 unfold dns_Fold.b
 rw [if_neg h]
theorem dns_Fold.frozen_ (w : World) (e : TypeId) (s : ByteArray) (j : Nat) (hj : j < s.size) : (Lib.bytesWorld w e s).frozen? ⟨w.heap.size, j, none⟩ = false := by
 have h := Lib.bytesWorld_at_new w e s
 have hl : s.size ≤ (Lib.bytesCells w e s).size := by
  have hd : s.data.size = s.size := rfl
  simp [Lib.bytesCells] <;> omega
 simp [World.frozen?, h]
 try omega
theorem dns_Fold.below_ (w : World) (e : TypeId) (s : ByteArray) : Below w.heap.size w (Lib.bytesWorld w e s) :=
 ⟨rfl, rfl, rfl, by rw [Lib.bytesWorld_size]; omega, fun i hi => Lib.bytesWorld_at_old w e s i hi⟩
set_option maxHeartbeats 8000000 in
set_option maxRecDepth 100000 in
theorem dns_Fold.calls (a0 : ByteArray) (r : ByteArray) (w : World) (h : dns_Fold.f a0 = some r) :
  Calls Tryz.prog 59 #[.string a0] w fun e w' => e = .returned (.string r) ∧ Below w.heap.size w w' := by
 have hmx : a0.size ≤ 9223372036854775807 := by
  by_cases hx : a0.size ≤ 9223372036854775807
  ·exact hx
  ·rw [dns_Fold.f, if_neg hx] at h; cases h
 rw [dns_Fold.f, if_pos hmx] at h
 have H := Aside0.mk h
 clear h
 have hcv := fun (W : World) => Lib.run_convert_string_bytes (P := Tryz.prog) W 9 87 5 a0 Tryz.underlying9 Tryz.underlying87 Tryz.underlying5
 have hsz : a0.data.toList.length = a0.size := data_length a0
 have HSZ := Aside0.mk hsz
 clear hsz
 go_enter Tryz.func59, Tryz.ntmps59
 go_wp2
 clear hcv
 have hc0 := am_ (fun j (hj : j < a0.size) => Lib.bytesWorld_cell w 5 a0 j hj)
 have hf0 := am_ (fun j (hj : j < a0.size) => dns_Fold.frozen_ w 5 a0 j hj)
 have hb0 := am_ (dns_Fold.below_ w 5 a0)
 generalize Lib.bytesWorld w 5 a0 = W1 at hc0 hf0 hb0 ⊢
 generalize grownCap w a0.size 0 5 = cp
 go_loopw [10] (fun i wr => ∃ k : Nat, k ≤ a0.size ∧ i = .int .i64 k ∧ Aside0 (Below w.heap.size w wr) ∧ Aside0 (∀ j, j < a0.size → wr.cell? ⟨w.heap.size, j, none⟩ = some (.int .u8 (dns_Fold.at_ a0 k j))) ∧ Aside0 (∀ j, j < a0.size → wr.frozen? ⟨w.heap.size, j, none⟩ = false)) (fun i _ => a0.size - (intOf i).toNat)
 case atStart => exact ⟨0, Nat.zero_le _, rfl, hb0, ⟨fun j hj => by rw [hc0.out j hj]; unfold dns_Fold.at_; rw [if_neg (by omega)]⟩, hf0⟩
 case round =>
  clear hb0 hc0 hf0
  obtain ⟨k, hk, rfl, hb, hc, hf⟩ := hrel
  by_cases hlt : k < a0.size
  ·have hck := hc.out k hlt
   have hfk := hf.out k hlt
   have hwb := hb.out.size
   have hat : dns_Fold.at_ a0 k k = ((a0.data.toList.getD k 0).toNat : Int) := by unfold dns_Fold.at_; rw [if_neg (by omega)]
   rw [hat] at hck
   clear hat
   have hn := (a0.data.toList.getD k 0).toNat_lt
   have hst : ∀ j, j ≠ k → dns_Fold.at_ a0 (k + 1) j = dns_Fold.at_ a0 k j := by
    intro j hj
    unfold dns_Fold.at_
    by_cases h1 : j < k
    ·rw [if_pos h1, if_pos (by omega)]
    ·rw [if_neg h1, if_neg (by omega)]
   have HST := Aside0.mk hst
   have hsk : dns_Fold.at_ a0 (k + 1) k = ((dns_Fold.b (a0.data.toList.getD k 0)).toNat : Int) := by unfold dns_Fold.at_; rw [if_pos (by omega)]
   have HSK := Aside0.mk hsk
   clear hst hsk
   have hltz : (k : Int) < (a0.size : Int) := by omega
   have HIN := am_ (dns_Fold.in_ (a0.data.toList.getD k 0))
   have HOUT := am_ (dns_Fold.out_ (a0.data.toList.getD k 0))
   generalize a0.data.toList.getD k 0 = c at hck hn HSK HIN HOUT
   by_cases h1 : 65 ≤ c.toNat
   ·have b1 : decide (65 ≤ (c.toNat : Int)) = true := decide_eq_true (by omega)
    by_cases h2 : c.toNat ≤ 90
    ·have b2 : decide ((c.toNat : Int) ≤ 90) = true := decide_eq_true (by omega)
     have hor := dns_Fold.bits_or (c.toNat : Int) (by omega) (by omega)
     rw [HIN.out h1 h2] at HSK
     clear HIN HOUT h1 h2
     go_wp2
     go_roundw
     case rel =>
      refine ⟨k + 1, by omega, by go_num, ⟨hb.out.setCell (p := ⟨w.heap.size, k, none⟩) (Nat.le_refl _) _⟩, ⟨fun j hj => ?_⟩, ⟨fun j hj => by rw [World.frozen?_setCell]; exact hf.out j hj⟩⟩
      by_cases hjk : j = k
      ·subst hjk
       rw [HSK.out]
       exact World.cell?_setCell_same _ _ _ (hc.out j hj)
      ·rw [HST.out j hjk, World.cell?_setCell_other _ _ _ _ (by intro h; injection h with _ h _; exact hjk h.symm)]
       exact hc.out j hj
     case measure => simp [intOf]; omega
    ·have b2 : decide ((c.toNat : Int) ≤ 90) = false := decide_eq_false (by omega)
     rw [HOUT.out (by omega)] at HSK
     clear HIN HOUT h1 h2
     go_wp2
     go_roundw
     case rel =>
      refine ⟨k + 1, by omega, by go_num, hb, ⟨fun j hj => ?_⟩, hf⟩
      by_cases hjk : j = k
      ·subst hjk
       rw [HSK.out]
       exact hck
      ·rw [HST.out j hjk]; exact hc.out j hj
     case measure => simp [intOf]; omega
   ·have b1 : decide (65 ≤ (c.toNat : Int)) = false := decide_eq_false (by omega)
    rw [HOUT.out (by omega)] at HSK
    clear HIN HOUT h1
    go_wp2
    go_roundw
    case rel =>
     refine ⟨k + 1, by omega, by go_num, hb, ⟨fun j hj => ?_⟩, hf⟩
     by_cases hjk : j = k
     ·subst hjk
      rw [HSK.out]
      exact hck
     ·rw [HST.out j hjk]; exact hc.out j hj
    case measure => simp [intOf]; omega
  ·have hge : decide ((k : Int) < (a0.size : Int)) = false := decide_eq_false (by omega)
   obtain rfl : k = a0.size := by omega
   have hcv := fun dst hd => run_convert_bytes_arg (P := Tryz.prog) wr 87 5 Tryz.underlying87 Tryz.underlying5 w.heap.size 0 a0.size cp (a0.data.toList.map fun b => ((dns_Fold.b b).toNat : Int)) (by rw [List.length_map]; exact HSZ.out) (fun i hi => by
    rw [Nat.zero_add, hc.out i hi]
    unfold dns_Fold.at_
    rw [if_pos hi]
    have hl : i < a0.data.toList.length := by rw [HSZ.out]; exact hi
    simp [List.getD, List.getElem?_eq_getElem hl]) dst hd
   have hcv2 := hcv 9 Tryz.underlying9
   clear hcv
   have hr : r = strOfNums (a0.data.toList.map fun b => ((dns_Fold.b b).toNat : Int)) := by
    have h := Option.some.inj H.out
    rw [← h]
    unfold strOfNums
    congr 2
    rw [List.map_map]
    refine List.map_congr_left fun b _ => ?_
    simp
   have HR := Aside0.mk hr
   clear hr H
   generalize strOfNums (a0.data.toList.map fun b => ((dns_Fold.b b).toNat : Int)) = rr at hcv2 HR
   obtain rfl := HR.out
   clear HR
   go_wp2
   go_ret
   exact ⟨rfl, hb.out⟩

/-! ### pairs_Same: function 36 -/
def pairs_Same.f (a0 : ByteArray) (a1 : ByteArray) : Option (Bool) := (dns_Fold.f a0).bind fun t132 => ((dns_Fold.f a1).bind fun t133 => (some (t132.toList == t133.toList)))
set_option maxHeartbeats 8000000 in
set_option maxRecDepth 100000 in
theorem pairs_Same.calls (a0 : ByteArray) (a1 : ByteArray) (r : Bool) (w : World) (h : pairs_Same.f a0 a1 = some r) :
  Calls Tryz.prog 36 #[.string a0, .string a1] w fun e w' => e = .returned (.bool r) ∧ Below w.heap.size w w' := by
 have HB := am_ (Below.refl w.heap.size w)
 have H : ((dns_Fold.f a0).bind fun t132 => ((dns_Fold.f a1).bind fun t133 => (some (t132.toList == t133.toList)))) = some r := h
 clear h
 replace H := Option.bind_eq_some_iff.mp H
 obtain ⟨t132, A30, H⟩ := H
 replace H : ((dns_Fold.f a1).bind fun t133 => (some (t132.toList == t133.toList))) = some r := H
 have A3 := Aside0.mk A30
 clear A30
 replace H := Option.bind_eq_some_iff.mp H
 obtain ⟨t133, A40, H⟩ := H
 replace H : (some (t132.toList == t133.toList)) = some r := H
 have A4 := Aside0.mk A40
 clear A40
 obtain rfl := Option.some.inj H
 go_enter Tryz.func36, Tryz.ntmps36
 go_wp2_with (first | ((with_reducible refine gate_callee (f := 59) rfl ?_); refine goesL_ (some 6) rfl rfl Tryz.func59 kr_ rfl #[.string a0] rfl rl_ ?_; (with_reducible refine (dns_Fold.calls a0 t132 _ A3.out).mono ?_); rintro e w5 ⟨rfl, hb⟩; refine ⟨_, rfl, ?_⟩; have n0_ := am_ (below_step (bel_ HB.out) hb); clear HB; have HB := n0_; clear n0_; (try clear hb); (try clear hb2); (try clear hk); (try clear hi)) | ((with_reducible refine gate_callee (f := 59) rfl ?_); refine goesL_ (some 8) rfl rfl Tryz.func59 kr_ rfl #[.string a1] rfl rl_ ?_; (with_reducible refine (dns_Fold.calls a1 t133 _ A4.out).mono ?_); rintro e w6 ⟨rfl, hb⟩; refine ⟨_, rfl, ?_⟩; have n0_ := am_ (below_step (bel_ HB.out) hb); clear HB; have HB := n0_; clear n0_; (try clear hb); (try clear hb2); (try clear hk); (try clear hi)))
 go_ret
 exact ⟨fi_, bel_ HB.out⟩

/-! ### api_Filter_45: function 45 -/
set_option maxHeartbeats 8000000 in
set_option maxRecDepth 100000 in
theorem api_Filter_45.calls (A0 : Option Addr) (c0 : Nat) (l0 : List (S26)) (w : World) (hr0 : Kd.C k26 w A0 l0.length l0) (p : S26 → Bool) (g : Nat) (lb : Array Value)
  (eg : ∀ args W, (callFunc g args).run Tryz.prog W = .ok (.enter g args) W) (hp : PredK Tryz.prog g lb k26 l0 p w) :
  Calls Tryz.prog 45 #[.slice A0 l0.length c0, .func (.func g) #[] lb] w fun e w' => e = .returned (.int .i64 (idxI p l0)) ∧ Below w.heap.size w w' := by
 have HR := Aside0.mk hr0
 have HP := Aside0.mk hp
 have hmx := hr0.2.1
 clear hr0 hp
 go_enter Tryz.func45, Tryz.ntmps45
 go_wp2
 go_loopg [5, 8] l0.length (fun gg _ s8 wr => ∃ kk : Nat, kk ≤ l0.length ∧ l0.length - kk ≤ gg ∧ s8 = .int .i64 kk ∧ Aside0 (Below w.heap.size w wr) ∧ Aside0 (∀ j : Nat, j < kk → p (rd_T26 l0 j) = false))
 case atStart => exact ⟨0, Nat.zero_le _, by omega, rfl, ⟨Below.refl _ w⟩, ⟨fun j hj => absurd hj (Nat.not_lt_zero _)⟩⟩
 case round =>
  obtain ⟨kk, hkk, hg, rfl, BW, AL⟩ := hrel
  by_cases hlt : kk < l0.length
  ·have p1 : (0 : Int) ≤ (kk : Int) := by omega
   have q1 : (kk : Int) < (l0.length : Int) := by omega
   obtain ⟨ad, ea, hx_0, hx_1, hx_2, hx_3, hx_4, hx_5, hx_6, hx_7⟩ := at_T26 HR.out (kk : Int) p1 q1
   cases ea
   replace hx_0 := (BW.out.cell (World.block_lt_of_cell? w _ hx_0)).trans hx_0
   replace hx_1 := (BW.out.cell (World.block_lt_of_cell? w _ hx_1)).trans hx_1
   replace hx_2 := (BW.out.cell (World.block_lt_of_cell? w _ hx_2)).trans hx_2
   replace hx_3 := (BW.out.cell (World.block_lt_of_cell? w _ hx_3)).trans hx_3
   replace hx_4 := (BW.out.cell (World.block_lt_of_cell? w _ hx_4)).trans hx_4
   replace hx_5 := (BW.out.cell (World.block_lt_of_cell? w _ hx_5)).trans hx_5
   replace hx_6 := (BW.out.cell (World.block_lt_of_cell? w _ hx_6)).trans hx_6
   replace hx_7 := (BW.out.cell (World.block_lt_of_cell? w _ hx_7)).trans hx_7
   have hmem : rd_T26 l0 (kk : Int) ∈ l0 := by
    unfold rd_T26
    rw [Int.toNat_natCast, getD_at _ _ hlt]
    exact List.getElem_mem hlt
   have hcall := HP.out wr (rd_T26 l0 (kk : Int)) [.int .i64 (rd_T26 l0 (kk : Int)).f0, .string (rd_T26 l0 (kk : Int)).f1, .string (rd_T26 l0 (kk : Int)).f2, .string (rd_T26 l0 (kk : Int)).f3, .int .i64 (rd_T26 l0 (kk : Int)).f4, .string (rd_T26 l0 (kk : Int)).f5, .bool (rd_T26 l0 (kk : Int)).f6, .int .i64 (rd_T26 l0 (kk : Int)).f7] hmem BW.out (k26_mk _ _)
   clear hmem
   simp only [Int.toNat_natCast] at hx_0 hx_1 hx_2 hx_3 hx_4 hx_5 hx_6 hx_7
   generalize hy : rd_T26 l0 (kk : Int) = y at *
   have HY := Aside0.mk hy
   clear hy
   replace p1 := eq_true p1
   replace q1 := eq_true q1
   cases hq : p y with
   | true =>
    rw [hq] at hcall
    have HQ := Aside0.mk hq
    clear hq
    have HC := Aside0.mk hcall
    clear hcall
    go_wp2_with (go_at_fn g; refine HC.out.mono ?_; rintro e w' ⟨rfl, hb'⟩; have HB' := Aside0.mk hb'; clear hb')
    go_ret
    refine ⟨?_, HB'.out⟩
    rw [idxI_hit p l0 kk hlt (fun j hj => by have := AL.out j hj; unfold rd_T26 at this; rwa [Int.toNat_natCast, getD_at _ _ (by omega)] at this) (by have := HY.out; unfold rd_T26 at this; rw [Int.toNat_natCast, getD_at _ _ hlt] at this; rw [this]; exact HQ.out)]
    rfl
   | false =>
    rw [hq] at hcall
    have HQ := Aside0.mk hq
    clear hq
    have HC := Aside0.mk hcall
    clear hcall
    go_wp2_with (go_at_fn g; refine HC.out.mono ?_; rintro e w' ⟨rfl, hb'⟩; have HB' := Aside0.mk hb'; clear hb')
    go_roundg (l0.length - (kk + 1))
    case measure => omega
    case rel =>
     refine ⟨kk + 1, by omega, by omega, by go_num, HB', ⟨fun j hj => ?_⟩⟩
     by_cases e : j = kk
     ·subst e
      rw [HY.out]; exact HQ.out
     ·exact AL.out j (by omega)
  ·have q1 : ¬ (kk : Int) < (l0.length : Int) := by omega
   obtain rfl : kk = l0.length := by omega
   go_wp2
   go_ret
   refine ⟨?_, BW.out⟩
   rw [idxI_miss p l0 (fun j hj => by have := AL.out j hj; unfold rd_T26 at this; rwa [Int.toNat_natCast, getD_at _ _ hj] at this)]
   rfl

/-! ### filters_ContainsFunc: function 37 -/
theorem idxI_any {α : Type} (p : α → Bool) (l : List α) : decide (idxI p l ≥ 0) = l.any p := by
 unfold idxI
 by_cases h : l.any p = true
 ·rw [if_pos h, h]; exact decide_eq_true (by omega)
 ·rw [if_neg h]
  have : l.any p = false := by simpa using h
  rw [this]; rfl
set_option maxHeartbeats 4000000 in
theorem filters_ContainsFunc_at (A0 : Option Addr) (c0 : Nat) (l0 : List (S26)) (w : World) (hr0 : Kd.C k26 w A0 l0.length l0) (p : S26 → Bool) (g : Nat) (lb : Array Value)
  (eg : ∀ args W, (callFunc g args).run Tryz.prog W = .ok (.enter g args) W) (hp : PredK Tryz.prog g lb k26 l0 p w) :
  Calls Tryz.prog 37 #[.slice A0 l0.length c0, .func (.func g) #[] lb] w fun e w' => e = .returned (.bool (l0.any p)) ∧ Below w.heap.size w w' := by
 have HI := am_ (api_Filter_45.calls A0 c0 l0 w hr0 p g lb eg hp)
 have HA := am_ (idxI_any p l0)
 clear hr0 hp eg
 generalize idxI p l0 = x at HI HA
 go_enter Tryz.func37, Tryz.ntmps37
 go_wp2_with (go_at_call 45; refine HI.out.mono ?_; rintro e w' ⟨rfl, hb'⟩; have HB' := Aside0.mk hb'; clear hb')
 go_ret
 refine ⟨?_, HB'.out⟩
 rw [← HA.out]
 rfl
/-! ### filter_All: function 12 -/
def likeF (y x : S26) : Option Bool :=
 (filter_turner.f x.f0 x.f1 x.f2 x.f3 x.f4 x.f5 x.f6 x.f7).bind fun a => (filter_turner.f y.f0 y.f1 y.f2 y.f3 y.f4 y.f5 y.f6 y.f7).bind fun b =>
  if (a && b) = true then some true else if x.f0 = y.f0 then pairs_Same.f x.f1 y.f1 else some false
def likeAny (y : S26) (l : List (S26)) : Option Bool := if (l.all fun x => (likeF y x).isSome) = true then some (l.any fun x => likeF y x == some true) else none
def filter_All.go (k : Nat) (pre : List (S26)) : List (S26) → Option Bool
 | [] => some (decide ((pre.length : Int) ≤ 8))
 | y :: r => (filter_May.f k y.f0 y.f1 y.f2 y.f3 y.f4 y.f5 y.f6 y.f7).bind fun a => if a = true then (likeAny y pre).bind fun b => if b = true then some false else filter_All.go k (pre ++ [y]) r else some false
def filter_All.f (k : Nat) (l0 : List (S26)) : Option Bool := filter_All.go k [] l0
theorem filter_All.go_mono : ∀ r pre k, LeO (filter_All.go k pre r) (filter_All.go (k + 1) pre r) := by
 intro r
 induction r with
 | nil => exact fun _ _ => LeO.refl _
 | cons y r ih =>
  intro pre k
  unfold filter_All.go
  exact LeO.bind (filter_May.mono _ _ _ _ _ _ _ _ _) (fun _ => LeO.ite (LeO.bind (LeO.refl _) (fun _ => LeO.ite (LeO.refl _) (ih _ k))) (LeO.refl _))
theorem filter_All.mono : ∀ a0 k, LeO (filter_All.f k a0) (filter_All.f (k + 1) a0) := fun a0 k => filter_All.go_mono a0 [] k
set_option maxHeartbeats 8000000 in
set_option maxRecDepth 100000 in
theorem like_pred (pb : Nat) (y : S26) (w : World) (l : List (S26)) (hn : w.heap[pb]? = some (.cells #[.int .i64 y.f0, .string y.f1, .string y.f2, .string y.f3, .int .i64 y.f4, .string y.f5, .bool y.f6, .int .i64 y.f7] 26 (0, 0))) (hq : ∀ x ∈ l, (likeF y x).isSome = true) :
  PredK Tryz.prog 34 #[.pointer (some ⟨pb, 0, none⟩)] k26 l (fun x => likeF y x == some true) w := by
 have hu26 := Tryz.underlying26
 intro W x cs hx hb hk
 obtain rfl := k26_open hk
 obtain ⟨b, hqx⟩ := Option.isSome_iff_exists.1 (hq x hx)
 simp only [hqx]
 rw [show (some b == some true) = b by cases b <;> rfl]
 rw [likeF] at hqx
 obtain ⟨a, ha, hqx⟩ := Option.bind_eq_some_iff.1 hqx
 obtain ⟨a2, ha2, hqx⟩ := Option.bind_eq_some_iff.1 hqx
 have BP := am_ (blk_below hn hb)
 have HB := am_ hb
 have HL := am_ hqx
 have HA := am_ ha
 have HA2 := am_ ha2
 clear hn hq hx hk hb hqx ha ha2
 show Calls Tryz.prog 34 #[.agg #[.int .i64 x.f0, .string x.f1, .string x.f2, .string x.f3, .int .i64 x.f4, .string x.f5, .bool x.f6, .int .i64 x.f7], .pointer (some ⟨pb, 0, none⟩)] W fun e w' => e = .returned (.bool b) ∧ Below w.heap.size w w'
 go_enter Tryz.func34, Tryz.ntmps34
 go_upto_region 1 with (first | ((with_reducible refine gate_dst (N := 2) rfl ?_); refine box_event ?hg (N := 2) ?hd (cs := #[.int .i64 x.f0, .string x.f1, .string x.f2, .string x.f3, .int .i64 x.f4, .string x.f5, .bool x.f6, .int .i64 x.f7]) (t := 26) ?hr ?_; (case hd => rfl); (case hg => rfl); (case hr => first | (go_simp; done) | (go_simp; rfl)); intro gb hg w3 hbox hb3; have HB3 := am_ (below_step HB.out hb3); have BX := am_ hbox; have BP3 := am_ (blk_below BP.out hb3); clear HB BP hb3 hbox hg))
 have hca_0 : w3.cell? ⟨gb, 0, none⟩ = some (.int .i64 x.f0) := (blk_cell BX.out 0).trans rfl
 have hca_1 : w3.cell? ⟨gb, 1, none⟩ = some (.string x.f1) := (blk_cell BX.out 1).trans rfl
 have hca_2 : w3.cell? ⟨gb, 2, none⟩ = some (.string x.f2) := (blk_cell BX.out 2).trans rfl
 have hca_3 : w3.cell? ⟨gb, 3, none⟩ = some (.string x.f3) := (blk_cell BX.out 3).trans rfl
 have hca_4 : w3.cell? ⟨gb, 4, none⟩ = some (.int .i64 x.f4) := (blk_cell BX.out 4).trans rfl
 have hca_5 : w3.cell? ⟨gb, 5, none⟩ = some (.string x.f5) := (blk_cell BX.out 5).trans rfl
 have hca_6 : w3.cell? ⟨gb, 6, none⟩ = some (.bool x.f6) := (blk_cell BX.out 6).trans rfl
 have hca_7 : w3.cell? ⟨gb, 7, none⟩ = some (.int .i64 x.f7) := (blk_cell BX.out 7).trans rfl
 have hfa_0 := blk_frozen BX.out 0
 have hfa_1 := blk_frozen BX.out 1
 have hfa_2 := blk_frozen BX.out 2
 have hfa_3 := blk_frozen BX.out 3
 have hfa_4 := blk_frozen BX.out 4
 have hfa_5 := blk_frozen BX.out 5
 have hfa_6 := blk_frozen BX.out 6
 have hfa_7 := blk_frozen BX.out 7
 have hcb_0 : w3.cell? ⟨pb, 0, none⟩ = some (.int .i64 y.f0) := (blk_cell BP3.out 0).trans rfl
 have hcb_1 : w3.cell? ⟨pb, 1, none⟩ = some (.string y.f1) := (blk_cell BP3.out 1).trans rfl
 have hcb_2 : w3.cell? ⟨pb, 2, none⟩ = some (.string y.f2) := (blk_cell BP3.out 2).trans rfl
 have hcb_3 : w3.cell? ⟨pb, 3, none⟩ = some (.string y.f3) := (blk_cell BP3.out 3).trans rfl
 have hcb_4 : w3.cell? ⟨pb, 4, none⟩ = some (.int .i64 y.f4) := (blk_cell BP3.out 4).trans rfl
 have hcb_5 : w3.cell? ⟨pb, 5, none⟩ = some (.string y.f5) := (blk_cell BP3.out 5).trans rfl
 have hcb_6 : w3.cell? ⟨pb, 6, none⟩ = some (.bool y.f6) := (blk_cell BP3.out 6).trans rfl
 have hcb_7 : w3.cell? ⟨pb, 7, none⟩ = some (.int .i64 y.f7) := (blk_cell BP3.out 7).trans rfl
 have hfb_0 := blk_frozen BP3.out 0
 have hfb_1 := blk_frozen BP3.out 1
 have hfb_2 := blk_frozen BP3.out 2
 have hfb_3 := blk_frozen BP3.out 3
 have hfb_4 := blk_frozen BP3.out 4
 have hfb_5 := blk_frozen BP3.out 5
 have hfb_6 := blk_frozen BP3.out 6
 have hfb_7 := blk_frozen BP3.out 7
 go_wp2_with fail
 refine (filter_turner.calls x.f0 x.f1 x.f2 x.f3 x.f4 x.f5 x.f6 x.f7 a _ HA.out).mono ?_
 rintro e w4 ⟨rfl, hb4⟩
 have HB4 := am_ (below_step HB3.out hb4)
 have BX4 := am_ (blk_below BX.out hb4)
 have BP4 := am_ (blk_below BP3.out hb4)
 clear hca_0 hfa_0 hca_1 hfa_1 hca_2 hfa_2 hca_3 hfa_3 hca_4 hfa_4 hca_5 hfa_5 hca_6 hfa_6 hca_7 hfa_7 hcb_0 hfb_0 hcb_1 hfb_1 hcb_2 hfb_2 hcb_3 hfb_3 hcb_4 hfb_4 hcb_5 hfb_5 hcb_6 hfb_6 hcb_7 hfb_7 HB3 BX BP3 hb4
 have hcc_0 : w4.cell? ⟨gb, 0, none⟩ = some (.int .i64 x.f0) := (blk_cell BX4.out 0).trans rfl
 have hcc_1 : w4.cell? ⟨gb, 1, none⟩ = some (.string x.f1) := (blk_cell BX4.out 1).trans rfl
 have hcc_2 : w4.cell? ⟨gb, 2, none⟩ = some (.string x.f2) := (blk_cell BX4.out 2).trans rfl
 have hcc_3 : w4.cell? ⟨gb, 3, none⟩ = some (.string x.f3) := (blk_cell BX4.out 3).trans rfl
 have hcc_4 : w4.cell? ⟨gb, 4, none⟩ = some (.int .i64 x.f4) := (blk_cell BX4.out 4).trans rfl
 have hcc_5 : w4.cell? ⟨gb, 5, none⟩ = some (.string x.f5) := (blk_cell BX4.out 5).trans rfl
 have hcc_6 : w4.cell? ⟨gb, 6, none⟩ = some (.bool x.f6) := (blk_cell BX4.out 6).trans rfl
 have hcc_7 : w4.cell? ⟨gb, 7, none⟩ = some (.int .i64 x.f7) := (blk_cell BX4.out 7).trans rfl
 have hfc_0 := blk_frozen BX4.out 0
 have hfc_1 := blk_frozen BX4.out 1
 have hfc_2 := blk_frozen BX4.out 2
 have hfc_3 := blk_frozen BX4.out 3
 have hfc_4 := blk_frozen BX4.out 4
 have hfc_5 := blk_frozen BX4.out 5
 have hfc_6 := blk_frozen BX4.out 6
 have hfc_7 := blk_frozen BX4.out 7
 have hcd_0 : w4.cell? ⟨pb, 0, none⟩ = some (.int .i64 y.f0) := (blk_cell BP4.out 0).trans rfl
 have hcd_1 : w4.cell? ⟨pb, 1, none⟩ = some (.string y.f1) := (blk_cell BP4.out 1).trans rfl
 have hcd_2 : w4.cell? ⟨pb, 2, none⟩ = some (.string y.f2) := (blk_cell BP4.out 2).trans rfl
 have hcd_3 : w4.cell? ⟨pb, 3, none⟩ = some (.string y.f3) := (blk_cell BP4.out 3).trans rfl
 have hcd_4 : w4.cell? ⟨pb, 4, none⟩ = some (.int .i64 y.f4) := (blk_cell BP4.out 4).trans rfl
 have hcd_5 : w4.cell? ⟨pb, 5, none⟩ = some (.string y.f5) := (blk_cell BP4.out 5).trans rfl
 have hcd_6 : w4.cell? ⟨pb, 6, none⟩ = some (.bool y.f6) := (blk_cell BP4.out 6).trans rfl
 have hcd_7 : w4.cell? ⟨pb, 7, none⟩ = some (.int .i64 y.f7) := (blk_cell BP4.out 7).trans rfl
 have hfd_0 := blk_frozen BP4.out 0
 have hfd_1 := blk_frozen BP4.out 1
 have hfd_2 := blk_frozen BP4.out 2
 have hfd_3 := blk_frozen BP4.out 3
 have hfd_4 := blk_frozen BP4.out 4
 have hfd_5 := blk_frozen BP4.out 5
 have hfd_6 := blk_frozen BP4.out 6
 have hfd_7 := blk_frozen BP4.out 7
 cases a with
 | true =>
  go_wp2_with fail
  refine (filter_turner.calls y.f0 y.f1 y.f2 y.f3 y.f4 y.f5 y.f6 y.f7 a2 _ HA2.out).mono ?_
  rintro e w5 ⟨rfl, hb5⟩
  have HB5 := am_ (below_step HB4.out hb5)
  have BX5 := am_ (blk_below BX4.out hb5)
  have BP5 := am_ (blk_below BP4.out hb5)
  clear hcc_0 hfc_0 hcc_1 hfc_1 hcc_2 hfc_2 hcc_3 hfc_3 hcc_4 hfc_4 hcc_5 hfc_5 hcc_6 hfc_6 hcc_7 hfc_7 hcd_0 hfd_0 hcd_1 hfd_1 hcd_2 hfd_2 hcd_3 hfd_3 hcd_4 hfd_4 hcd_5 hfd_5 hcd_6 hfd_6 hcd_7 hfd_7 HB4 BX4 BP4 hb5
  have hce_0 : w5.cell? ⟨gb, 0, none⟩ = some (.int .i64 x.f0) := (blk_cell BX5.out 0).trans rfl
  have hce_1 : w5.cell? ⟨gb, 1, none⟩ = some (.string x.f1) := (blk_cell BX5.out 1).trans rfl
  have hce_2 : w5.cell? ⟨gb, 2, none⟩ = some (.string x.f2) := (blk_cell BX5.out 2).trans rfl
  have hce_3 : w5.cell? ⟨gb, 3, none⟩ = some (.string x.f3) := (blk_cell BX5.out 3).trans rfl
  have hce_4 : w5.cell? ⟨gb, 4, none⟩ = some (.int .i64 x.f4) := (blk_cell BX5.out 4).trans rfl
  have hce_5 : w5.cell? ⟨gb, 5, none⟩ = some (.string x.f5) := (blk_cell BX5.out 5).trans rfl
  have hce_6 : w5.cell? ⟨gb, 6, none⟩ = some (.bool x.f6) := (blk_cell BX5.out 6).trans rfl
  have hce_7 : w5.cell? ⟨gb, 7, none⟩ = some (.int .i64 x.f7) := (blk_cell BX5.out 7).trans rfl
  have hfe_0 := blk_frozen BX5.out 0
  have hfe_1 := blk_frozen BX5.out 1
  have hfe_2 := blk_frozen BX5.out 2
  have hfe_3 := blk_frozen BX5.out 3
  have hfe_4 := blk_frozen BX5.out 4
  have hfe_5 := blk_frozen BX5.out 5
  have hfe_6 := blk_frozen BX5.out 6
  have hfe_7 := blk_frozen BX5.out 7
  have hcf_0 : w5.cell? ⟨pb, 0, none⟩ = some (.int .i64 y.f0) := (blk_cell BP5.out 0).trans rfl
  have hcf_1 : w5.cell? ⟨pb, 1, none⟩ = some (.string y.f1) := (blk_cell BP5.out 1).trans rfl
  have hcf_2 : w5.cell? ⟨pb, 2, none⟩ = some (.string y.f2) := (blk_cell BP5.out 2).trans rfl
  have hcf_3 : w5.cell? ⟨pb, 3, none⟩ = some (.string y.f3) := (blk_cell BP5.out 3).trans rfl
  have hcf_4 : w5.cell? ⟨pb, 4, none⟩ = some (.int .i64 y.f4) := (blk_cell BP5.out 4).trans rfl
  have hcf_5 : w5.cell? ⟨pb, 5, none⟩ = some (.string y.f5) := (blk_cell BP5.out 5).trans rfl
  have hcf_6 : w5.cell? ⟨pb, 6, none⟩ = some (.bool y.f6) := (blk_cell BP5.out 6).trans rfl
  have hcf_7 : w5.cell? ⟨pb, 7, none⟩ = some (.int .i64 y.f7) := (blk_cell BP5.out 7).trans rfl
  have hff_0 := blk_frozen BP5.out 0
  have hff_1 := blk_frozen BP5.out 1
  have hff_2 := blk_frozen BP5.out 2
  have hff_3 := blk_frozen BP5.out 3
  have hff_4 := blk_frozen BP5.out 4
  have hff_5 := blk_frozen BP5.out 5
  have hff_6 := blk_frozen BP5.out 6
  have hff_7 := blk_frozen BP5.out 7
  cases a2 with
  | true =>
   have hL := HL.out
   rw [if_pos (show (true && true) = true from rfl)] at hL
   obtain rfl := Option.some.inj hL
   go_wp2
   go_ret
   exact ⟨fi_, HB5.out⟩
  | false =>
   have hL := HL.out
   rw [if_neg (show ¬ (true && false) = true by decide)] at hL
   by_cases hk : x.f0 = y.f0
   ·rw [if_pos hk] at hL
    have c0 : (x.f0 == y.f0) = true := beq_iff_eq.mpr hk
    have HL2 := am_ hL
    clear hL hk
    go_wp2_with fail
    refine (pairs_Same.calls x.f1 y.f1 b _ HL2.out).mono ?_
    rintro e w6 ⟨rfl, hb6⟩
    have HB6 := am_ (below_step HB5.out hb6)
    clear hb6
    go_wp2
    go_ret
    exact ⟨fi_, HB6.out⟩
   ·rw [if_neg hk] at hL
    obtain rfl := Option.some.inj hL
    have c0 : (x.f0 == y.f0) = false := beq_eq_false_iff_ne.mpr hk
    clear hL
    go_wp2
    go_ret
    exact ⟨fi_, HB5.out⟩
 | false =>
  have hL := HL.out
  rw [if_neg (show ¬ (false && a2) = true by simp)] at hL
  by_cases hk : x.f0 = y.f0
  ·rw [if_pos hk] at hL
   have c0 : (x.f0 == y.f0) = true := beq_iff_eq.mpr hk
   have HL2 := am_ hL
   clear hL hk
   go_wp2_with fail
   refine (pairs_Same.calls x.f1 y.f1 b _ HL2.out).mono ?_
   rintro e w6 ⟨rfl, hb6⟩
   have HB6 := am_ (below_step HB4.out hb6)
   clear hb6
   go_wp2
   go_ret
   exact ⟨fi_, HB6.out⟩
  ·rw [if_neg hk] at hL
   obtain rfl := Option.some.inj hL
   have c0 : (x.f0 == y.f0) = false := beq_eq_false_iff_ne.mpr hk
   clear hL
   go_wp2
   go_ret
   exact ⟨fi_, HB4.out⟩
theorem C_takeF {α : Type} {d : Kd α} {w : World} {A : Option Addr} {l : List α} (h : Kd.C d w A l.length l) (i : Nat) : Kd.C d w A (l.take i).length (l.take i) := by
 obtain ⟨h1, h2, h3⟩ := h
 refine ⟨rfl, by rw [List.length_take]; omega, fun h0 => ?_⟩
 obtain ⟨ad, e, h4⟩ := h3 (by rw [List.length_take] at h0; omega)
 refine ⟨ad, e, fun j p hj => h4 j p ?_⟩
 rw [List.getElem?_take] at hj
 split at hj
 ·exact hj
 ·cases hj
set_option maxHeartbeats 8000000 in
set_option maxRecDepth 100000 in
theorem filter_All.calls (k : Nat) (A0 : Option Addr) (c0 : Nat) (l0 : List (S26)) (r : Bool) (w : World) (hr0 : Kd.C k26 w A0 l0.length l0) (hc0 : l0.length ≤ c0) (h : filter_All.f k l0 = some r) :
 Calls Tryz.prog 12 #[.slice A0 l0.length c0] w fun e w' => e = .returned (.bool r) ∧ Below w.heap.size w w' := by
 have EG1 : Aside0 (∀ args W, (callFunc 34 args).run Tryz.prog W = .ok (.enter 34 args) W) := am_ (enters_of Tryz.func34 kr_ rfl)
 have HR := am_ hr0
 have H0 := am_ (show filter_All.go k [] l0 = some r from h)
 have hmx := hr0.2.1
 have hu26 := Tryz.underlying26
 clear hr0 h
 go_enter Tryz.func12, Tryz.ntmps12
 go_wp2
 go_loopg [8] l0.length (fun gg s8 wr => ∃ kk : Nat, kk ≤ l0.length ∧ l0.length - kk ≤ gg ∧ s8 = .int .i64 kk ∧ Aside0 (Below w.heap.size w wr) ∧ Aside0 (filter_All.go k (l0.take kk) (l0.drop kk) = some r))
 case atStart => exact ⟨0, Nat.zero_le _, by omega, rfl, ⟨Below.refl _ w⟩, ⟨by rw [List.take_zero, List.drop_zero]; exact H0.out⟩⟩
 case round =>
  obtain ⟨kk, hkk, hg, rfl, BW, HK⟩ := hrel
  clear H0
  by_cases hlt : kk < l0.length
  ·have p1 : (0 : Int) ≤ (kk : Int) := by omega
   have q1 : (kk : Int) < (l0.length : Int) := by omega
   have q2 : (kk : Int) ≤ (l0.length : Int) := by omega
   have q3 : (kk : Int) ≤ (c0 : Int) := by omega
   obtain ⟨ad, ea, hx_0, hx_1, hx_2, hx_3, hx_4, hx_5, hx_6, hx_7⟩ := at_T26 HR.out (kk : Int) p1 q1
   cases ea
   replace hx_0 := (BW.out.cell (World.block_lt_of_cell? w _ hx_0)).trans hx_0
   replace hx_1 := (BW.out.cell (World.block_lt_of_cell? w _ hx_1)).trans hx_1
   replace hx_2 := (BW.out.cell (World.block_lt_of_cell? w _ hx_2)).trans hx_2
   replace hx_3 := (BW.out.cell (World.block_lt_of_cell? w _ hx_3)).trans hx_3
   replace hx_4 := (BW.out.cell (World.block_lt_of_cell? w _ hx_4)).trans hx_4
   replace hx_5 := (BW.out.cell (World.block_lt_of_cell? w _ hx_5)).trans hx_5
   replace hx_6 := (BW.out.cell (World.block_lt_of_cell? w _ hx_6)).trans hx_6
   replace hx_7 := (BW.out.cell (World.block_lt_of_cell? w _ hx_7)).trans hx_7
   simp only [Int.toNat_natCast] at hx_0 hx_1 hx_2 hx_3 hx_4 hx_5 hx_6 hx_7
   have hy0 : rd_T26 l0 (kk : Int) = l0[kk]'hlt := by
    unfold rd_T26
    rw [Int.toNat_natCast, getD_at _ _ hlt]
   have hdk : l0.drop kk = rd_T26 l0 (kk : Int) :: l0.drop (kk + 1) := by rw [hy0]; exact List.drop_eq_getElem_cons hlt
   have htk : l0.take (kk + 1) = l0.take kk ++ [rd_T26 l0 (kk : Int)] := by rw [hy0]; exact List.take_succ_eq_append_getElem hlt
   have hk1 := HK.out
   rw [hdk] at hk1
   have htl : (l0.take kk).length = kk := by rw [List.length_take]; omega
   have HTK := am_ htk
   have HTL := am_ htl
   clear hy0 hdk HK htk htl
   generalize rd_T26 l0 (kk : Int) = y at *
   rw [filter_All.go] at hk1
   obtain ⟨a, ha, hk2⟩ := Option.bind_eq_some_iff.1 hk1
   have HA := am_ ha
   have HK2 := am_ hk2
   clear hk1 ha hk2
   replace p1 := eq_true p1
   replace q1 := eq_true q1
   replace q2 := eq_true q2
   replace q3 := eq_true q3
   go_upto_region 4 with (first | ((with_reducible refine gate_dst (N := 4) rfl ?_); refine box_event ?hg (N := 4) ?hd (cs := #[.int .i64 0, .string ⟨#[]⟩, .string ⟨#[]⟩, .string ⟨#[]⟩, .int .i64 0, .string ⟨#[]⟩, .bool false, .int .i64 0]) (t := 26) ?hr ?_; (case hd => rfl); (case hg => rfl); (case hr => first | (go_simp; done) | (go_simp; rfl)); intro gb hg3 w3 hbox hb3; have hgw := am_ (show wr.heap.size ≤ gb from hg3 ▸ Nat.le_refl _); have BX := am_ hbox; have HB3 := am_ hb3; clear hb3 hbox hg3; replace hx_0 := (HB3.out.cell (World.block_lt_of_cell? _ _ hx_0)).trans hx_0; replace hx_1 := (HB3.out.cell (World.block_lt_of_cell? _ _ hx_1)).trans hx_1; replace hx_2 := (HB3.out.cell (World.block_lt_of_cell? _ _ hx_2)).trans hx_2; replace hx_3 := (HB3.out.cell (World.block_lt_of_cell? _ _ hx_3)).trans hx_3; replace hx_4 := (HB3.out.cell (World.block_lt_of_cell? _ _ hx_4)).trans hx_4; replace hx_5 := (HB3.out.cell (World.block_lt_of_cell? _ _ hx_5)).trans hx_5; replace hx_6 := (HB3.out.cell (World.block_lt_of_cell? _ _ hx_6)).trans hx_6; replace hx_7 := (HB3.out.cell (World.block_lt_of_cell? _ _ hx_7)).trans hx_7; have hcz_0 : w3.cell? ⟨gb, 0, none⟩ = some (.int .i64 0) := (blk_cell BX.out 0).trans rfl; have hfz_0 := blk_frozen BX.out 0; have hcz_1 : w3.cell? ⟨gb, 1, none⟩ = some (.string ⟨#[]⟩) := (blk_cell BX.out 1).trans rfl; have hfz_1 := blk_frozen BX.out 1; have hcz_2 : w3.cell? ⟨gb, 2, none⟩ = some (.string ⟨#[]⟩) := (blk_cell BX.out 2).trans rfl; have hfz_2 := blk_frozen BX.out 2; have hcz_3 : w3.cell? ⟨gb, 3, none⟩ = some (.string ⟨#[]⟩) := (blk_cell BX.out 3).trans rfl; have hfz_3 := blk_frozen BX.out 3; have hcz_4 : w3.cell? ⟨gb, 4, none⟩ = some (.int .i64 0) := (blk_cell BX.out 4).trans rfl; have hfz_4 := blk_frozen BX.out 4; have hcz_5 : w3.cell? ⟨gb, 5, none⟩ = some (.string ⟨#[]⟩) := (blk_cell BX.out 5).trans rfl; have hfz_5 := blk_frozen BX.out 5; have hcz_6 : w3.cell? ⟨gb, 6, none⟩ = some (.bool false) := (blk_cell BX.out 6).trans rfl; have hfz_6 := blk_frozen BX.out 6; have hcz_7 : w3.cell? ⟨gb, 7, none⟩ = some (.int .i64 0) := (blk_cell BX.out 7).trans rfl; have hfz_7 := blk_frozen BX.out 7))
   have BX4 := am_ (blk_put (cs' := #[.int .i64 y.f0, .string y.f1, .string y.f2, .string y.f3, .int .i64 y.f4, .string y.f5, .bool y.f6, .int .i64 y.f7]) (blk_put (cs' := #[.int .i64 y.f0, .string y.f1, .string y.f2, .string y.f3, .int .i64 y.f4, .string y.f5, .bool y.f6, .int .i64 0]) (blk_put (cs' := #[.int .i64 y.f0, .string y.f1, .string y.f2, .string y.f3, .int .i64 y.f4, .string y.f5, .bool false, .int .i64 0]) (blk_put (cs' := #[.int .i64 y.f0, .string y.f1, .string y.f2, .string y.f3, .int .i64 y.f4, .string ⟨#[]⟩, .bool false, .int .i64 0]) (blk_put (cs' := #[.int .i64 y.f0, .string y.f1, .string y.f2, .string y.f3, .int .i64 0, .string ⟨#[]⟩, .bool false, .int .i64 0]) (blk_put (cs' := #[.int .i64 y.f0, .string y.f1, .string y.f2, .string ⟨#[]⟩, .int .i64 0, .string ⟨#[]⟩, .bool false, .int .i64 0]) (blk_put (cs' := #[.int .i64 y.f0, .string y.f1, .string ⟨#[]⟩, .string ⟨#[]⟩, .int .i64 0, .string ⟨#[]⟩, .bool false, .int .i64 0]) (blk_put (cs' := #[.int .i64 y.f0, .string ⟨#[]⟩, .string ⟨#[]⟩, .string ⟨#[]⟩, .int .i64 0, .string ⟨#[]⟩, .bool false, .int .i64 0]) BX.out 0 (.int .i64 y.f0) rfl) 1 (.string y.f1) rfl) 2 (.string y.f2) rfl) 3 (.string y.f3) rfl) 4 (.int .i64 y.f4) rfl) 5 (.string y.f5) rfl) 6 (.bool y.f6) rfl) 7 (.int .i64 y.f7) rfl)
   have HB4 := am_ ((((((((HB3.out.setCell (p := ⟨gb, 0, none⟩) hgw.out (.int .i64 y.f0)).setCell (p := ⟨gb, 1, none⟩) hgw.out (.string y.f1)).setCell (p := ⟨gb, 2, none⟩) hgw.out (.string y.f2)).setCell (p := ⟨gb, 3, none⟩) hgw.out (.string y.f3)).setCell (p := ⟨gb, 4, none⟩) hgw.out (.int .i64 y.f4)).setCell (p := ⟨gb, 5, none⟩) hgw.out (.string y.f5)).setCell (p := ⟨gb, 6, none⟩) hgw.out (.bool y.f6)).setCell (p := ⟨gb, 7, none⟩) hgw.out (.int .i64 y.f7))
   generalize ((((((((w3.setCell ⟨gb, 0, none⟩ (.int .i64 y.f0)).setCell ⟨gb, 1, none⟩ (.string y.f1)).setCell ⟨gb, 2, none⟩ (.string y.f2)).setCell ⟨gb, 3, none⟩ (.string y.f3)).setCell ⟨gb, 4, none⟩ (.int .i64 y.f4)).setCell ⟨gb, 5, none⟩ (.string y.f5)).setCell ⟨gb, 6, none⟩ (.bool y.f6)).setCell ⟨gb, 7, none⟩ (.int .i64 y.f7)) = W4 at BX4 HB4 ⊢
   clear hcz_0 hfz_0 hcz_1 hfz_1 hcz_2 hfz_2 hcz_3 hfz_3 hcz_4 hfz_4 hcz_5 hfz_5 hcz_6 hfz_6 hcz_7 hfz_7
   have HBW := am_ (below_step BW.out HB4.out)
   have hca_0 : W4.cell? ⟨gb, 0, none⟩ = some (.int .i64 y.f0) := (blk_cell BX4.out 0).trans rfl
   have hca_1 : W4.cell? ⟨gb, 1, none⟩ = some (.string y.f1) := (blk_cell BX4.out 1).trans rfl
   have hca_2 : W4.cell? ⟨gb, 2, none⟩ = some (.string y.f2) := (blk_cell BX4.out 2).trans rfl
   have hca_3 : W4.cell? ⟨gb, 3, none⟩ = some (.string y.f3) := (blk_cell BX4.out 3).trans rfl
   have hca_4 : W4.cell? ⟨gb, 4, none⟩ = some (.int .i64 y.f4) := (blk_cell BX4.out 4).trans rfl
   have hca_5 : W4.cell? ⟨gb, 5, none⟩ = some (.string y.f5) := (blk_cell BX4.out 5).trans rfl
   have hca_6 : W4.cell? ⟨gb, 6, none⟩ = some (.bool y.f6) := (blk_cell BX4.out 6).trans rfl
   have hca_7 : W4.cell? ⟨gb, 7, none⟩ = some (.int .i64 y.f7) := (blk_cell BX4.out 7).trans rfl
   have hfa_0 := blk_frozen BX4.out 0
   have hfa_1 := blk_frozen BX4.out 1
   have hfa_2 := blk_frozen BX4.out 2
   have hfa_3 := blk_frozen BX4.out 3
   have hfa_4 := blk_frozen BX4.out 4
   have hfa_5 := blk_frozen BX4.out 5
   have hfa_6 := blk_frozen BX4.out 6
   have hfa_7 := blk_frozen BX4.out 7
   clear hx_0 hx_1 hx_2 hx_3 hx_4 hx_5 hx_6 hx_7
   go_wp2_with fail
   refine (filter_May.calls k y.f0 y.f1 y.f2 y.f3 y.f4 y.f5 y.f6 y.f7 a _ HA.out).mono ?_
   rintro e w5 ⟨rfl, hb5⟩
   have HBW5 := am_ (below_step HBW.out hb5)
   have HB5 := am_ (below_step HB4.out hb5)
   have BX5 := am_ (blk_below BX4.out hb5)
   clear hca_0 hfa_0 hca_1 hfa_1 hca_2 hfa_2 hca_3 hfa_3 hca_4 hfa_4 hca_5 hfa_5 hca_6 hfa_6 hca_7 hfa_7 HBW HB4 BX4 hb5
   cases a with
   | false =>
    have hk2 := HK2.out
    rw [if_neg (by decide)] at hk2
    obtain rfl := Option.some.inj hk2
    clear hk2
    go_wp2
    go_ret
    exact ⟨fi_, HBW5.out⟩
   | true =>
    have hk2 := HK2.out
    rw [if_pos rfl] at hk2
    obtain ⟨b, hb', hk3⟩ := Option.bind_eq_some_iff.1 hk2
    rw [likeAny] at hb'
    by_cases hall : ((l0.take kk).all fun x => (likeF y x).isSome) = true
    ·rw [if_pos hall] at hb'
     have hany := Option.some.inj hb'
     have hcall : ∀ W, Below w5.heap.size w5 W → Calls Tryz.prog 37 #[.slice (some ad) kk c0, .func (.func 34) #[] #[.pointer (some ⟨gb, 0, none⟩)]] W fun e w' => e = .returned (.bool b) ∧ Below W.heap.size W w' := fun W hW => by
      have hCW : Kd.C k26 W (some ad) (l0.take kk).length (l0.take kk) := C_takeF (Kd.C_below (Kd.C_below HR.out HBW5.out) hW) kk
      have := filters_ContainsFunc_at (some ad) c0 (l0.take kk) W hCW (fun x => likeF y x == some true) 34 _ EG1.out (like_pred gb y W (l0.take kk) (blk_below BX5.out hW) (List.all_eq_true.1 hall))
      rw [HTL.out, hany] at this
      exact this
     have HC := am_ hcall
     have HK3 := am_ hk3
     clear hcall hk3 hk2 hb' hany hall HK2 HA HB3 BX HB5 hgw
     cases b with
     | true =>
      have hk3 := HK3.out
      rw [if_pos rfl] at hk3
      obtain rfl := Option.some.inj hk3
      clear hk3
      go_wp2_with (go_at_call 37; refine (HC.out _ (bel_ (Below.refl _ w5))).mono ?_; rintro e w6 ⟨rfl, hb6⟩; have HBW6 := am_ (below_step HBW5.out hb6); clear hb6)
      go_ret
      exact ⟨fi_, HBW6.out⟩
     | false =>
      have hk3 := HK3.out
      rw [if_neg (by decide), ← HTK.out] at hk3
      have HK4 := am_ hk3
      clear hk3 HK3
      go_wp2_with (go_at_call 37; refine (HC.out _ (bel_ (Below.refl _ w5))).mono ?_; rintro e w6 ⟨rfl, hb6⟩; have HBW6 := am_ (below_step HBW5.out hb6); clear hb6)
      go_roundg (l0.length - (kk + 1))
      case measure => omega
      case rel => exact ⟨kk + 1, by omega, by omega, by go_num, HBW6, HK4⟩
    ·rw [if_neg hall] at hb'; cases hb'
  ·have q1 : ¬ (kk : Int) < (l0.length : Int) := by omega
   obtain rfl : kk = l0.length := by omega
   have hk1 := HK.out
   rw [List.take_length, List.drop_length, filter_All.go] at hk1
   obtain rfl := Option.some.inj hk1
   clear hk1 HK
   go_wp2
   go_ret
   exact ⟨fi_, BW.out⟩

/-! ### path_Holds: function 39 -/
def path_Holds.j0 : Nat → ByteArray → Bool → Int → ByteArray → Option (Bool)
 | 0, _, _, _, _ => none
 | k + 1, x1, x5, x135000, x135001 => if x5 = true then (some false) else (if x135001.toList = x1.toList then (some true) else (if x135000 = 2 then (if x135001.toList = ([47] : List UInt8) then (some true) else (if x135001.size + 1 ≤ 9223372036854775807 then ((strings_HasPrefix.f x1 (x135001 ++ (⟨#[47]⟩ : ByteArray))).bind fun t137 => (some t137)) else (none))) else (some false)))
def path_Holds.f (k : Nat) (a0_0 : Int) (a0_1 : ByteArray) (a1 : ByteArray) : Option (Bool) := (path_May.f a0_0 a0_1).bind fun t135 => (if t135 = true then ((path_Is.f a1).bind fun t136 => (path_Holds.j0 k a1 (!t136) a0_0 a0_1)) else (path_Holds.j0 k a1 true a0_0 a0_1))
theorem path_Holds.mono_l : ∀ k, (∀ y0 y1 y2 y3, LeO (path_Holds.j0 k y0 y1 y2 y3) (path_Holds.j0 (k + 1) y0 y1 y2 y3))
 | 0 => fun _ _ _ _ r h => by simp [path_Holds.j0] at h
 | k + 1 => by
  have ih0 := path_Holds.mono_l k
  ·intro y0 y1 y2 y3
   unfold path_Holds.j0
   repeat' first
   | (with_reducible exact ih0 _ _ _ _)
   | (with_reducible exact LeO.refl _)
   | (with_reducible exact LeO.none _)
   | (with_reducible refine LeO.ite ?_ ?_)
   | (with_reducible refine LeO.bind ?_ (fun _ => ?_))
   | exact ih0 _ _ _ _
   | exact LeO.none _
   | refine LeO.ite ?_ ?_
   | refine LeO.bind ?_ (fun _ => ?_)
theorem path_Holds.mono : ∀ a0 a1 a2 k, LeO (path_Holds.f k a0 a1 a2) (path_Holds.f (k + 1) a0 a1 a2) := by
 intro a0 a1 a2 k
 have ih0 := path_Holds.mono_l k
 unfold path_Holds.f
 repeat' first
   | (with_reducible exact ih0 _ _ _ _)
   | (with_reducible exact LeO.refl _)
   | (with_reducible exact LeO.none _)
   | (with_reducible refine LeO.ite ?_ ?_)
   | (with_reducible refine LeO.bind ?_ (fun _ => ?_))
   | exact ih0 _ _ _ _
   | exact LeO.none _
   | refine LeO.ite ?_ ?_
   | refine LeO.bind ?_ (fun _ => ?_)
set_option maxHeartbeats 8000000 in
set_option maxRecDepth 100000 in
theorem path_Holds.calls (k : Nat) (a0_0 : Int) (a0_1 : ByteArray) (a1 : ByteArray) (r : Bool) (w : World) (h : path_Holds.f k a0_0 a0_1 a1 = some r) :
  Calls Tryz.prog 39 #[.agg #[.int .i64 a0_0, .string a0_1], .string a1] w fun e w' => e = .returned (.bool r) ∧ Below w.heap.size w w' := by
 have hu30 := Tryz.underlying30
 have HB := am_ (Below.refl w.heap.size w)
 have H : ((path_May.f a0_0 a0_1).bind fun t135 => (if t135 = true then ((path_Is.f a1).bind fun t136 => (path_Holds.j0 k a1 (!t136) a0_0 a0_1)) else (path_Holds.j0 k a1 true a0_0 a0_1))) = some r := h
 clear h
 have HC3 := Aside0.mk H
 clear H
 go_enter Tryz.func39, Tryz.ntmps39
 go_upto_region 1 with (first | ((with_reducible refine gate_dst (N := 2) rfl ?_); refine box_event ?hg (N := 2) ?hd (cs := #[.int .i64 a0_0, .string a0_1]) (t := 30) ?hr ?_; (case hd => rfl); (case hg => rfl); (case hr => first | (go_simp; done) | (go_simp; rfl)); intro gb134 hg w4 hbox hb; have n0_ := am_ (below_step (bel_ HB.out) hb); have n1_ := am_ (hbox); have n2_ := am_ ((by rw [hg]; exact (below_size (bel_ HB.out)) : w.heap.size ≤ gb134)); have n3_ := am_ ((by rw [hg]; exact (below_size (bel_ HB.out)) : w.heap.size ≤ gb134)); clear HB; have HB := n0_; have BK134 := n1_; have GW134 := n2_; have GE134 := n3_; clear n0_ n1_ n2_ n3_ hb hbox hg))
 (try simp only [Act.put, List.setIfInBounds_toArray, List.set_cons_zero, List.set_cons_succ])
 go_cut [5] (fun v5 wc => ∃ (kq : Nat) (x5_2 : Bool), v5 = .bool x5_2 ∧ Aside0 (path_Holds.j0 kq a1 x5_2 a0_0 a0_1 = some r) ∧ Aside0 (kq ≤ k) ∧ Aside0 (wc.heap[gb134]? = some (.cells #[.int .i64 a0_0, .string a0_1] 30 (0, 0))) ∧ Aside0 (Below w.heap.size w wc))
 case first =>
  have H := HC3.out
  clear HC3
  replace H := Option.bind_eq_some_iff.mp H
  obtain ⟨t135, A50, H⟩ := H
  replace H : (if t135 = true then ((path_Is.f a1).bind fun t136 => (path_Holds.j0 k a1 (!t136) a0_0 a0_1)) else (path_Holds.j0 k a1 true a0_0 a0_1)) = some r := H
  have A5 := Aside0.mk A50
  clear A50
  by_cases c6 : t135 = true
  ·subst c6
   have H1 : ((path_Is.f a1).bind fun t136 => (path_Holds.j0 k a1 (!t136) a0_0 a0_1)) = some r := by rw [if_pos rfl] at H; exact H
   clear H
   have H := H1
   clear H1
   replace H := Option.bind_eq_some_iff.mp H
   obtain ⟨t136, A70, H⟩ := H
   replace H : (path_Holds.j0 k a1 (!t136) a0_0 a0_1) = some r := H
   have A7 := Aside0.mk A70
   clear A70
   have H' := Aside0.mk H
   clear H
   have hcz8_0 : w4.cell? ⟨gb134, 0, none⟩ = some (.int .i64 a0_0) := (blk_cell BK134.out 0).trans rfl
   have hcz8_1 : w4.cell? ⟨gb134, 1, none⟩ = some (.string a0_1) := (blk_cell BK134.out 1).trans rfl
   have hfz8_0 := blk_frozen BK134.out 0
   have hfz8_1 := blk_frozen BK134.out 1
   go_wp2_with (first | ((with_reducible refine gate_callee (f := 55) rfl ?_); refine goesL_ (some 7) rfl rfl Tryz.func55 kr_ rfl #[.agg #[.int .i64 a0_0, .string a0_1]] rfl rl_ ?_; (with_reducible refine (path_May.calls a0_0 a0_1 true _ A5.out).mono ?_); rintro e w9 ⟨rfl, hb⟩; refine ⟨_, rfl, ?_⟩; have n0_ := am_ (blk_below (g := gb134) (o := .cells #[.int .i64 a0_0, .string a0_1] 30 (0, 0)) (blk_ BK134.out) hb); have n1_ := am_ (below_step (bel_ HB.out) hb); clear BK134 HB; have BK134 := n0_; have HB := n1_; clear n0_ n1_; (try clear hb); (try clear hb2); (try clear hk); (try clear hi)) | (go_at_call 54; (with_reducible refine (path_Is.calls a1 t136 _ A7.out).mono ?_); rintro e w10 ⟨rfl, hb⟩; have n0_ := am_ (blk_below (g := gb134) (o := .cells #[.int .i64 a0_0, .string a0_1] 30 (0, 0)) (blk_ BK134.out) hb); have n1_ := am_ (below_step (bel_ HB.out) hb); clear BK134 HB; have BK134 := n0_; have HB := n1_; clear n0_ n1_; (try clear hb); (try clear hb2); (try clear hk); (try clear hi)))
   go_meet
   case rel => exact ⟨_, (!t136), sd_, H', ⟨by first | omega | exact Nat.le_refl _⟩, ⟨by (with_reducible repeat (first | refine blk_drewN ?_ _ | refine blk_drew ?_ | refine blk_alloc ?_ _)); exact BK134.out⟩, ⟨bel_ HB.out⟩⟩
  ·replace c6 := Bool.eq_false_iff.mpr c6
   subst c6
   have H1 : (path_Holds.j0 k a1 true a0_0 a0_1) = some r := by rw [if_neg (show ¬ (false = true) by decide)] at H; exact H
   clear H
   have H := H1
   clear H1
   have H' := Aside0.mk H
   clear H
   have hcz11_0 : w4.cell? ⟨gb134, 0, none⟩ = some (.int .i64 a0_0) := (blk_cell BK134.out 0).trans rfl
   have hcz11_1 : w4.cell? ⟨gb134, 1, none⟩ = some (.string a0_1) := (blk_cell BK134.out 1).trans rfl
   have hfz11_0 := blk_frozen BK134.out 0
   have hfz11_1 := blk_frozen BK134.out 1
   go_wp2_with (first | ((with_reducible refine gate_callee (f := 55) rfl ?_); refine goesL_ (some 7) rfl rfl Tryz.func55 kr_ rfl #[.agg #[.int .i64 a0_0, .string a0_1]] rfl rl_ ?_; (with_reducible refine (path_May.calls a0_0 a0_1 false _ A5.out).mono ?_); rintro e w12 ⟨rfl, hb⟩; refine ⟨_, rfl, ?_⟩; have n0_ := am_ (blk_below (g := gb134) (o := .cells #[.int .i64 a0_0, .string a0_1] 30 (0, 0)) (blk_ BK134.out) hb); have n1_ := am_ (below_step (bel_ HB.out) hb); clear BK134 HB; have BK134 := n0_; have HB := n1_; clear n0_ n1_; (try clear hb); (try clear hb2); (try clear hk); (try clear hi)))
   go_meet
   case rel => exact ⟨_, (true), sd_, H', ⟨by first | omega | exact Nat.le_refl _⟩, ⟨by (with_reducible repeat (first | refine blk_drewN ?_ _ | refine blk_drew ?_ | refine blk_alloc ?_ _)); exact BK134.out⟩, ⟨bel_ HB.out⟩⟩
 case rest =>
  clear HC3
  try clear p2
  try clear c3
  try clear c5
  try clear c6
  try clear hcz11_0
  try clear hcz11_1
  try clear hcz8_0
  try clear hcz8_1
  try clear hfz11_0
  try clear hfz11_1
  try clear hfz8_0
  try clear hfz8_1
  obtain ⟨kq, x5_2, rfl, HA, HJ2, BK134, HB⟩ := hcut
  cases kq with
  | zero => exact absurd HA.out (by simp [path_Holds.j0])
  | succ kj2 =>
   have H := HA.out
   clear HA
   simp only [path_Holds.j0] at H
   by_cases c13 : x5_2 = true
   ·subst c13
    have H1 : (some false) = some r := by rw [if_pos rfl] at H; exact H
    clear H
    have H := H1
    clear H1
    obtain rfl := Option.some.inj H
    go_wp2
    go_ret
    exact ⟨fi_, bel_ HB.out⟩
   ·replace c13 := Bool.eq_false_iff.mpr c13
    subst c13
    have H1 : (if a0_1.toList = a1.toList then (some true) else (if a0_0 = 2 then (if a0_1.toList = ([47] : List UInt8) then (some true) else (if a0_1.size + 1 ≤ 9223372036854775807 then ((strings_HasPrefix.f a1 (a0_1 ++ (⟨#[47]⟩ : ByteArray))).bind fun t137 => (some t137)) else (none))) else (some false))) = some r := by rw [if_neg (show ¬ (false = true) by decide)] at H; exact H
    clear H
    have H := H1
    clear H1
    by_cases c14 : a0_1.toList = a1.toList
    ·rw [if_pos c14] at H
     have c14b0 : (a0_1.toList == a1.toList) = true := beq_iff_eq.mpr c14
     have c14b1 : (a0_1.toList != a1.toList) = false := bne_eq_false_iff_eq.mpr c14
     clear c14
     obtain rfl := Option.some.inj H
     have hcz15_0 : wc.cell? ⟨gb134, 0, none⟩ = some (.int .i64 a0_0) := (blk_cell BK134.out 0).trans rfl
     have hcz15_1 : wc.cell? ⟨gb134, 1, none⟩ = some (.string a0_1) := (blk_cell BK134.out 1).trans rfl
     have hfz15_0 := blk_frozen BK134.out 0
     have hfz15_1 := blk_frozen BK134.out 1
     go_wp2
     go_ret
     exact ⟨fi_, bel_ HB.out⟩
    ·rw [if_neg c14] at H
     have c14b0 : (a0_1.toList == a1.toList) = false := beq_eq_false_iff_ne.mpr c14
     have c14b1 : (a0_1.toList != a1.toList) = true := bne_iff_ne.mpr c14
     by_cases c16 : a0_0 = 2
     ·rw [if_pos c16] at H
      have c16b0 : (a0_0 == 2) = true := beq_iff_eq.mpr c16
      have c16b1 : (a0_0 != 2) = false := bne_eq_false_iff_eq.mpr c16
      clear c16
      by_cases c17 : a0_1.toList = ([47] : List UInt8)
      ·rw [if_pos c17] at H
       have c17b0 : (a0_1.toList == ([47] : List UInt8)) = true := beq_iff_eq.mpr c17
       have c17b1 : (a0_1.toList != ([47] : List UInt8)) = false := bne_eq_false_iff_eq.mpr c17
       clear c17
       obtain rfl := Option.some.inj H
       have hcz18_0 : wc.cell? ⟨gb134, 0, none⟩ = some (.int .i64 a0_0) := (blk_cell BK134.out 0).trans rfl
       have hcz18_1 : wc.cell? ⟨gb134, 1, none⟩ = some (.string a0_1) := (blk_cell BK134.out 1).trans rfl
       have hfz18_0 := blk_frozen BK134.out 0
       have hfz18_1 := blk_frozen BK134.out 1
       go_wp2
       go_ret
       exact ⟨fi_, bel_ HB.out⟩
      ·rw [if_neg c17] at H
       have c17b0 : (a0_1.toList == ([47] : List UInt8)) = false := beq_eq_false_iff_ne.mpr c17
       have c17b1 : (a0_1.toList != ([47] : List UInt8)) = true := bne_iff_ne.mpr c17
       by_cases c19 : a0_1.size + 1 ≤ 9223372036854775807
       ·rw [if_pos c19] at H
        have c19b0 := eq_true c19
        have c19b1 : decide (a0_1.size + 1 ≤ 9223372036854775807) = true := decide_eq_true c19
        try have c19b2 : (9223372036854775807 < a0_1.size + 1) = False := eq_false (Nat.not_lt.2 c19)
        replace H := Option.bind_eq_some_iff.mp H
        obtain ⟨t137, A200, H⟩ := H
        replace H : (some t137) = some r := H
        have A20 := Aside0.mk A200
        clear A200
        obtain rfl := Option.some.inj H
        have hcz21_0 : wc.cell? ⟨gb134, 0, none⟩ = some (.int .i64 a0_0) := (blk_cell BK134.out 0).trans rfl
        have hcz21_1 : wc.cell? ⟨gb134, 1, none⟩ = some (.string a0_1) := (blk_cell BK134.out 1).trans rfl
        have hfz21_0 := blk_frozen BK134.out 0
        have hfz21_1 := blk_frozen BK134.out 1
        go_wp2_with (first | (go_at_call 60; (with_reducible refine (strings_HasPrefix.calls a1 (a0_1 ++ (⟨#[47]⟩ : ByteArray)) t137 _ A20.out).mono ?_); rintro e w' ⟨rfl, ⟨nd, rfl⟩⟩))
        go_ret
        exact ⟨fi_, bel_ HB.out⟩
       ·rw [if_neg c19] at H
        exact absurd H (by simp)
     ·rw [if_neg c16] at H
      have c16b0 : (a0_0 == 2) = false := beq_eq_false_iff_ne.mpr c16
      have c16b1 : (a0_0 != 2) = true := bne_iff_ne.mpr c16
      obtain rfl := Option.some.inj H
      have hcz22_0 : wc.cell? ⟨gb134, 0, none⟩ = some (.int .i64 a0_0) := (blk_cell BK134.out 0).trans rfl
      have hcz22_1 : wc.cell? ⟨gb134, 1, none⟩ = some (.string a0_1) := (blk_cell BK134.out 1).trans rfl
      have hfz22_0 := blk_frozen BK134.out 0
      have hfz22_1 := blk_frozen BK134.out 1
      go_wp2
      go_ret
      exact ⟨fi_, bel_ HB.out⟩

/-! ### api_Pair_101: function 101 -/
def api_Pair_101.f (l0 : List (S59)) : Option (List (S59)) := if l0.length * 32 ≤ 140737488355328 then some l0 else none
set_option maxHeartbeats 8000000 in
set_option maxRecDepth 100000 in
theorem api_Pair_101.calls (A0 : Option Addr) (c0 : Nat) (l0 : List (S59)) (r : List (S59)) (w : World) (hr0 : Kd.C k59 w A0 l0.length l0) (hc0 : l0.length ≤ c0) (h : api_Pair_101.f l0 = some r) :
  Calls Tryz.prog 101 #[.slice A0 l0.length c0] w fun e w' => ∃ v0_ : Value, e = .returned (v0_) ∧ Kd.R k59 59 w' w.heap.size (fun _ => True) v0_ r ∧ Below w.heap.size w w' := by
 have hlim : l0.length * 32 ≤ 140737488355328 := by
  by_cases hx : l0.length * 32 ≤ 140737488355328
  ·exact hx
  ·rw [api_Pair_101.f, if_neg hx] at h; cases h
 rw [api_Pair_101.f, if_pos hlim] at h
 obtain rfl := Option.some.inj h
 clear h
 have HR := Aside0.mk hr0
 have LM := Aside0.mk hlim
 clear hlim hc0
 have hq := fun (W : World) (a : Option Addr) (n c n' c' : Nat) => Lib.run_eql_slice_nil (P := Tryz.prog) W 31 59 a n c n' c' Tryz.underlying31
 cases A0 with
 | none =>
  have h0 : l0 = [] := by
   rcases Nat.eq_zero_or_pos l0.length with h0 | h0
   ·exact List.eq_nil_of_length_eq_zero h0
   ·obtain ⟨ad, he, _⟩ := hr0.2.2 h0
    cases he
  subst h0
  clear hr0 HR
  go_enter Tryz.func101, Tryz.ntmps101
  go_wp2
  go_ret
  exact ⟨_, rfl, Kd.R_nil _ _ _ _ _, Below.refl _ _⟩
 | some ad =>
  clear hr0
  go_enter Tryz.func101, Tryz.ntmps101
  go_wp2_with (at_builtin; refine Kd.R_append_rows k59 (w0 := w) w.heap.size rfl (.tmp 5) (.tmp 6) 31 59 (.agg #[(.string ⟨#[]⟩), (.string ⟨#[]⟩)]) 32 rfl Tryz.underlying31 info59 rfl (by decide) (by decide) (.slice (some ⟨w.heap.size, 0, none⟩) 0 0) [] l0 (some ad) l0.length c0 (fun _ => True) (fun _ => False) rfl rfl ?aO ?aR (fun _ _ h => h) (fun _ h => h.elim) (fun _ _ => trivial) ?aB ?aS ?aL ?_; (case aO => exact ⟨fun _ _ => trivial, [], World.ownsRow_made w #[] 0 (Nat.le_refl _) (Nat.zero_le _) (by simp), Reps.none _ _⟩); (case aR => exact Kd.C_alloc HR.out _); (case aB => exact (Below.refl _ w).alloc (Nat.le_refl _) _); (case aS => simp); (case aL => have := LM.out; simp; omega); intro v1 w1 ho hb hg hat; rw [List.nil_append] at ho; have n0_ := Aside0.mk ho; have n1_ := Aside0.mk hb; clear ho hb hg hat)
  go_ret
  exact ⟨_, rfl, n0_.out, n1_.out⟩

/-! ### pairs_Add: function 85 -/
def pairs_Add.f (l0 : List (S59)) (a1 : ByteArray) (a2 : ByteArray) : Option ((List (S59))) := (api_Pair_101.f l0).bind fun t138 => (if t138.length < 4398046511104 then (some (t138 ++ [(⟨a1, a2⟩ : S59)])) else (none))
set_option maxHeartbeats 8000000 in
set_option maxRecDepth 100000 in
theorem pairs_Add.calls (A0 : Option Addr) (c0 : Nat) (l0 : List (S59)) (a1 : ByteArray) (a2 : ByteArray) (r : List (S59)) (w : World) (hr0 : Kd.C k59 w A0 l0.length l0) (hc0 : l0.length ≤ c0) (h : pairs_Add.f l0 a1 a2 = some r) :
  Calls Tryz.prog 85 #[.slice A0 l0.length c0, .string a1, .string a2] w fun e w' => ∃ v0_ : Value, e = .returned (v0_) ∧ Kd.R k59 59 w' w.heap.size (fun _ => True) v0_ r ∧ Below w.heap.size w w' := by
 have hu59 := Tryz.underlying59
 have HR0 := Aside0.mk hr0
 have HC0 := Aside0.mk hc0
 clear hr0 hc0
 have HB := am_ (Below.refl w.heap.size w)
 have H : ((api_Pair_101.f l0).bind fun t138 => (if t138.length < 4398046511104 then (some (t138 ++ [(⟨a1, a2⟩ : S59)])) else (none))) = some r := h
 clear h
 replace H := Option.bind_eq_some_iff.mp H
 obtain ⟨t138, A40, H⟩ := H
 replace H : (if t138.length < 4398046511104 then (some (t138 ++ [(⟨a1, a2⟩ : S59)])) else (none)) = some r := H
 have A4 := Aside0.mk A40
 clear A40
 by_cases c5 : t138.length < 4398046511104
 ·rw [if_pos c5] at H
  have LMc5 := Aside0.mk c5
  clear c5
  obtain ⟨y141, hy141⟩ : ∃ y_ : List (S59), y_ = (t138 ++ [(⟨a1, a2⟩ : S59)]) := ⟨_, rfl⟩
  replace H : (some y141) = some r := by first | (rw [hy141]; with_reducible exact H) | (have H2_ := (Option.bind_some _ _).symm.trans H; rw [hy141]; with_reducible exact H2_) | (have H2_ := (Option.bind_some _ _).symm.trans H; with_reducible exact H2_) | with_reducible exact H | (rw [hy141]; exact H) | exact H
  have Ny141 := Aside0.mk hy141
  clear hy141
  obtain rfl := Option.some.inj H
  go_enter Tryz.func85, Tryz.ntmps85
  go_wp2_with (first | ((with_reducible refine gate_callee (f := 101) rfl ?_); refine goesL_ (some 8) rfl rfl Tryz.func101 kr_ rfl #[.slice A0 l0.length c0] rfl rl_ ?_; (with_reducible refine (api_Pair_101.calls _ _ l0 t138 _ ?side1 ?side2 A4.out).mono ?_); (case side1 => exact C_ HR0.out); (case side2 => exact HC0.out); rintro e w6 ⟨v139, rfl, ho0, hb⟩; refine ⟨_, rfl, ?_⟩; have n0_ := am_ (Kd.R_lower ho0 (below_size (bel_ HB.out))); have n1_ := am_ (below_step (bel_ HB.out) hb); clear HB; have HO140 := n0_; have HB := n1_; clear n0_ n1_; (try clear hb); (try clear hb2); (try clear hk); (try clear hi); (try clear ho0)) | ((with_reducible refine gate_builtin (b := .append) (xs := #[.tmp 8, .tmp 12]) rfl ?_); at_builtin; refine Kd.R_append k59 (w0 := w) w.heap.size rfl (.tmp 8) (.tmp 12) 31 59 (.agg #[(.string ⟨#[]⟩), (.string ⟨#[]⟩)]) 32 rfl Tryz.underlying31 info59 rfl (by decide) (by omega) v139 t138 (⟨a1, a2⟩ : S59) [.string a1, .string a2] (fun _ => True) (fun _ => False) rfl rfl ?aP (fun _ hk => hk.elim) ?aF ?aO ?aB ?aS ?aL ?_; (case aP => exact k59_mkM _ _ _ (⟨a1, a2⟩ : S59)); (case aB => exact (bel_ HB.out)); (case aF => exact (fun _ _ => trivial)); (case aO => exact (R_ HO140.out)); (case aS => exact (below_size (bel_ HB.out))); (case aL => have := LMc5.out; omega); intro v142 w7 ho hb hg hat; rw [← Ny141.out] at ho; have n0_ := am_ (hb); have n1_ := am_ (ho); clear HB HO140; have HB := n0_; have HO143 := n1_; clear n0_ n1_ ho hb hg hat))
  go_ret
  exact ⟨_, by first | rfl | (simp [errW_none, errW_some] <;> rfl) | (simp [*, errW_none, errW_some] <;> rfl), by (with_reducible repeat (first | apply Kd.R_alloc | apply Kd.R_drewN | apply Kd.R_drew)); exact HO143.out, bel_ HB.out⟩
 ·rw [if_neg c5] at H
  exact absurd H (by simp)

/-! ### api_Pair_115: function 115 -/
set_option maxHeartbeats 8000000 in
set_option maxRecDepth 100000 in
theorem api_Pair_115.calls (A0 : Option Addr) (c0 : Nat) (l0 : List (S59)) (w : World) (hr0 : Kd.C k59 w A0 l0.length l0) (p : S59 → Bool) (g : Nat) (lb : Array Value)
  (eg : ∀ args W, (callFunc g args).run Tryz.prog W = .ok (.enter g args) W) (hp : PredK Tryz.prog g lb k59 l0 p w) :
  Calls Tryz.prog 115 #[.slice A0 l0.length c0, .func (.func g) #[] lb] w fun e w' => e = .returned (.int .i64 (idxI p l0)) ∧ Below w.heap.size w w' := by
 have HR := Aside0.mk hr0
 have HP := Aside0.mk hp
 have hmx := hr0.2.1
 clear hr0 hp
 go_enter Tryz.func115, Tryz.ntmps115
 go_wp2
 go_loopg [5, 8] l0.length (fun gg _ s8 wr => ∃ kk : Nat, kk ≤ l0.length ∧ l0.length - kk ≤ gg ∧ s8 = .int .i64 kk ∧ Aside0 (Below w.heap.size w wr) ∧ Aside0 (∀ j : Nat, j < kk → p (rd_T59 l0 j) = false))
 case atStart => exact ⟨0, Nat.zero_le _, by omega, rfl, ⟨Below.refl _ w⟩, ⟨fun j hj => absurd hj (Nat.not_lt_zero _)⟩⟩
 case round =>
  obtain ⟨kk, hkk, hg, rfl, BW, AL⟩ := hrel
  by_cases hlt : kk < l0.length
  ·have p1 : (0 : Int) ≤ (kk : Int) := by omega
   have q1 : (kk : Int) < (l0.length : Int) := by omega
   obtain ⟨ad, ea, hx_0, hx_1⟩ := at_T59 HR.out (kk : Int) p1 q1
   cases ea
   replace hx_0 := (BW.out.cell (World.block_lt_of_cell? w _ hx_0)).trans hx_0
   replace hx_1 := (BW.out.cell (World.block_lt_of_cell? w _ hx_1)).trans hx_1
   have hmem : rd_T59 l0 (kk : Int) ∈ l0 := by
    unfold rd_T59
    rw [Int.toNat_natCast, getD_at _ _ hlt]
    exact List.getElem_mem hlt
   have hcall := HP.out wr (rd_T59 l0 (kk : Int)) [.string (rd_T59 l0 (kk : Int)).f0, .string (rd_T59 l0 (kk : Int)).f1] hmem BW.out (k59_mk _ _)
   clear hmem
   simp only [Int.toNat_natCast] at hx_0 hx_1
   generalize hy : rd_T59 l0 (kk : Int) = y at *
   have HY := Aside0.mk hy
   clear hy
   replace p1 := eq_true p1
   replace q1 := eq_true q1
   cases hq : p y with
   | true =>
    rw [hq] at hcall
    have HQ := Aside0.mk hq
    clear hq
    have HC := Aside0.mk hcall
    clear hcall
    go_wp2_with (go_at_fn g; refine HC.out.mono ?_; rintro e w' ⟨rfl, hb'⟩; have HB' := Aside0.mk hb'; clear hb')
    go_ret
    refine ⟨?_, HB'.out⟩
    rw [idxI_hit p l0 kk hlt (fun j hj => by have := AL.out j hj; unfold rd_T59 at this; rwa [Int.toNat_natCast, getD_at _ _ (by omega)] at this) (by have := HY.out; unfold rd_T59 at this; rw [Int.toNat_natCast, getD_at _ _ hlt] at this; rw [this]; exact HQ.out)]
    rfl
   | false =>
    rw [hq] at hcall
    have HQ := Aside0.mk hq
    clear hq
    have HC := Aside0.mk hcall
    clear hcall
    go_wp2_with (go_at_fn g; refine HC.out.mono ?_; rintro e w' ⟨rfl, hb'⟩; have HB' := Aside0.mk hb'; clear hb')
    go_roundg (l0.length - (kk + 1))
    case measure => omega
    case rel =>
     refine ⟨kk + 1, by omega, by omega, by go_num, HB', ⟨fun j hj => ?_⟩⟩
     by_cases e : j = kk
     ·subst e
      rw [HY.out]; exact HQ.out
     ·exact AL.out j (by omega)
  ·have q1 : ¬ (kk : Int) < (l0.length : Int) := by omega
   obtain rfl : kk = l0.length := by omega
   go_wp2
   go_ret
   refine ⟨?_, BW.out⟩
   rw [idxI_miss p l0 (fun j hj => by have := AL.out j hj; unfold rd_T59 at this; rwa [Int.toNat_natCast, getD_at _ _ hj] at this)]
   rfl

/-- Pairs in a block of cells of their own. -/
def Row2 (w : World) (g cap : Nat) (l : List S59) : Prop := ∃ cur, w.heap[g]? = some (.cells cur 59 (0, 0)) ∧ cur.size = cap * 2 ∧ l.length ≤ cap ∧ ∀ j (hj : j < l.length), cur[j * 2]? = some (.string (l[j]'hj).f0) ∧ cur[j * 2 + 1]? = some (.string (l[j]'hj).f1)
theorem Row2.cell {w : World} {g cap : Nat} {l : List S59} (h : Row2 w g cap l) (j : Nat) (hj : j < l.length) : w.cell? ⟨g, j * 2, none⟩ = some (.string (l[j]'hj).f0) ∧ w.cell? ⟨g, j * 2 + 1, none⟩ = some (.string (l[j]'hj).f1) := by
 obtain ⟨cur, hh, hs, hl, hc⟩ := h
 exact ⟨(blk_cell hh _).trans (hc j hj).1, (blk_cell hh _).trans (hc j hj).2⟩
theorem Row2.room {w : World} {g cap : Nat} {l : List S59} (h : Row2 w g cap l) (j : Nat) (hj : j < cap * 2) : (w.cell? ⟨g, j, none⟩).isSome = true := by
 obtain ⟨cur, hh, hs, hl, hc⟩ := h
 rw [blk_cell hh, Array.getElem?_eq_getElem (by omega)]; rfl
theorem Row2.frozen {w : World} {g cap : Nat} {l : List S59} (h : Row2 w g cap l) (j : Nat) : w.frozen? ⟨g, j, none⟩ = false := by
 obtain ⟨cur, hh, hs, hl, hc⟩ := h
 exact blk_frozen hh _
theorem Row2.lt {w : World} {g cap : Nat} {l : List S59} (h : Row2 w g cap l) : g < w.heap.size := by
 obtain ⟨cur, hh, hs, hl, hc⟩ := h
 exact blk_lt hh
theorem Row2.put {w : World} {g cap : Nat} {l : List S59} (h : Row2 w g cap l) (i : Nat) (hi : i < l.length) (x : S59) : Row2 ((w.setCell ⟨g, i * 2, none⟩ (.string x.f0)).setCell ⟨g, i * 2 + 1, none⟩ (.string x.f1)) g cap (l.set i x) := by
 obtain ⟨cur, hh, hs, hl, hc⟩ := h
 refine ⟨_, blk_put (blk_put hh (i * 2) _ rfl) (i * 2 + 1) _ rfl, by simpa using hs, by simpa using hl, fun j hj => ?_⟩
 have hj' : j < l.length := by simpa using hj
 have := hc j hj'
 simp only [Array.getElem?_setIfInBounds, Array.size_setIfInBounds, List.getElem_set]
 by_cases e : i = j
 ·subst e
  simp [show i * 2 < cur.size by omega, show i * 2 + 1 < cur.size by omega]
 ·have e1 : ¬ i * 2 = j * 2 := by omega
  have e2 : ¬ i * 2 + 1 = j * 2 + 1 := by omega
  have e3 : ¬ i * 2 + 1 = j * 2 := by omega
  have e4 : ¬ i * 2 = j * 2 + 1 := by omega
  simp [e, e1, e2, e3, e4, this]
theorem Row2.move {w w' : World} {g cap : Nat} {l : List S59} (h : Row2 w g cap l) (hm : w'.heap[g]? = w.heap[g]?) : Row2 w' g cap l := by
 obtain ⟨cur, hh, h⟩ := h
 exact ⟨cur, hm.trans hh, h⟩
theorem Row2.below {w w' : World} {g cap : Nat} {l : List S59} (h : Row2 w g cap l) (hb : Below w.heap.size w w') : Row2 w' g cap l := h.move (hb.block g h.lt)
theorem Row2.take {w : World} {g cap : Nat} {l : List S59} (h : Row2 w g cap l) (k : Nat) : Row2 w g cap (l.take k) := by
 obtain ⟨cur, hh, hs, hl, hc⟩ := h
 exact ⟨cur, hh, hs, by rw [List.length_take]; omega, fun j hj => by rw [List.getElem_take]; exact hc j (by rw [List.length_take] at hj; omega)⟩
theorem row2_of {w : World} {base : Nat} {ok : Nat → Prop} {A : Addr} {n c : Nat} {l : List S59} (h : Kd.R k59 59 w base ok (.slice (some A) n c) l) : ∃ g, A = ⟨g, 0, none⟩ ∧ n = l.length ∧ base ≤ g ∧ c ≤ maxLen ∧ Row2 w g c l := by
 obtain ⟨_, inner, ⟨hl, ho⟩, hr⟩ := h
 rcases ho with ⟨e, _⟩ | ⟨g, cap, cur, e, hb, hh, hn, hx, hs, ht⟩
 ·cases e
 ·injection e with e1 e2 e3
  injection e1 with e1
  subst e1 e2 e3
  refine ⟨g, rfl, rfl, hb, hx, cur, hh, hs, hn, fun j hj => ?_⟩
  have hK := k59_openM (hr.2 j (l[j]'hj) (List.getElem?_eq_getElem hj))
  have hz : k59.sz = 2 := rfl
  rw [hz] at hK ht
  have g0 : inner[j * 2]? = some (.string (l[j]'hj).f0) := by
   have := congrArg (fun z => z[0]?) hK
   simpa [List.getElem?_take, List.getElem?_drop] using this
  have g1 : inner[j * 2 + 1]? = some (.string (l[j]'hj).f1) := by
   have := congrArg (fun z => z[1]?) hK
   simpa [List.getElem?_take, List.getElem?_drop] using this
  rw [← ht, List.getElem?_take] at g0 g1
  rw [if_pos (by omega)] at g0 g1
  exact ⟨by simpa using g0, by simpa using g1⟩
theorem Row2.R {w : World} {g cap : Nat} {l : List S59} (h : Row2 w g cap l) {base : Nat} (hb : base ≤ g) (hx : cap ≤ maxLen) : Kd.R k59 59 w base (fun _ => True) (.slice (some ⟨g, 0, none⟩) l.length cap) l := by
 obtain ⟨cur, hh, hs, hn, hc⟩ := h
 have hz : k59.sz = 2 := rfl
 have hcl : (cur.toList.take (l.length * 2)).length = l.length * 2 := by simp only [List.length_take, Array.length_toList]; omega
 refine ⟨fun _ _ => trivial, cur.toList.take (l.length * 2), ⟨by rw [hz]; exact hcl, .inr ⟨g, cap, cur, rfl, hb, hh, hn, hx, hs, rfl⟩⟩, by rw [hz]; exact hcl, fun j p hj => ?_⟩
 obtain ⟨hj1, rfl⟩ := List.getElem?_eq_some_iff.1 hj
 have hc' := hc j hj1
 rw [hz, show ((cur.toList.take (l.length * 2)).drop (j * 2)).take 2 = [.string (l[j]'hj1).f0, .string (l[j]'hj1).f1] from ?_]
 ·exact k59_mkM _ _ _ _
 ·apply List.ext_getElem?
  intro k
  rw [List.getElem?_take, List.getElem?_drop, List.getElem?_take]
  rcases k with _ | _ | k
  ·rw [if_pos (by omega), if_pos (by omega)]; simpa using hc'.1
  ·rw [if_pos (by omega), if_pos (by omega)]; simpa using hc'.2
  ·rw [if_neg (by omega)]; simp
theorem gb_below {w W : World} {row : Option Nat} (h : Below w.heap.size w W) : w.grownBy W row := ⟨h.os, h.tape, h.output, h.size, fun k hk _ => h.block k hk⟩
theorem gb_trans {w W W' : World} {row : Option Nat} (h : w.grownBy W row) (hb : W.grownBy W' row) : w.grownBy W' row := ⟨hb.os.trans h.os, hb.tape.trans h.tape, hb.output.trans h.output, Nat.le_trans h.size hb.size, fun k hk hr => (hb.block k (Nat.lt_of_lt_of_le hk h.size) hr).trans (h.block k hk hr)⟩
theorem gb_step {w W W' : World} {row : Option Nat} (h : w.grownBy W row) (hb : Below W.heap.size W W') : w.grownBy W' row := gb_trans h (gb_below hb)
theorem gb_set {w W : World} {g : Nat} (h : w.grownBy W (some g)) (j : Nat) (u : Value) : w.grownBy (W.setCell ⟨g, j, none⟩ u) (some g) :=
 gb_trans h ⟨rfl, rfl, rfl, by simp [World.setCell], fun k hk hr => Below.heap_setCell W ⟨g, j, none⟩ u k (fun e => hr (by rw [e]))⟩
/-- What grew but for a block made later than B is as it was below B. -/
theorem gb_out {w W : World} {B : Nat} {row : Option Nat} (h : w.grownBy W row) (hB : B ≤ w.heap.size) (hr : ∀ k, row = some k → B ≤ k) : Below B w W := ⟨h.os, h.tape, h.output, h.size, fun k hk => h.block k (by omega) (fun e => by have := hr k e.symm; omega)⟩

/-! ### api_Pair_102: function 102 -/
theorem idxI_spec {α : Type} (p : α → Bool) (l : List α) : (idxI p l = -1 ∧ ∀ x ∈ l, p x = false) ∨ ∃ (k : Nat) (hk : k < l.length), idxI p l = (k : Int) ∧ p (l[k]'hk) = true ∧ ∀ j (hj : j < k), p (l[j]'(by omega)) = false := by
 by_cases h : l.any p = true
 ·have hlt : l.findIdx p < l.length := List.findIdx_lt_length_of_exists (by obtain ⟨x, hx, hp⟩ := List.any_eq_true.1 h; exact ⟨x, hx, hp⟩)
  have h2 := (List.findIdx_eq hlt).1 rfl
  refine .inr ⟨_, hlt, by unfold idxI; rw [if_pos h], h2.1, fun j hj => by simpa using h2.2 j hj⟩
 ·refine .inl ⟨by unfold idxI; rw [if_neg h], fun x hx => ?_⟩
  have h' : l.any p = false := by simpa using h
  simpa using List.any_eq_false.1 h' x hx
/-- What the deleting loop keeps: of the first j elements i are kept, and lie at the head; from place i on all is as it was. -/
structure KeptD {α : Type} (p : α → Bool) (l : List α) (i j : Nat) (dk : List α) : Prop where
 len : dk.length = l.length
 lt : i < j
 le : j ≤ l.length
 head : dk.take i = (l.take j).filter (fun x => !p x)
 tail : dk.drop i = l.drop i
theorem KeptD.start {α : Type} {p : α → Bool} {l : List α} {k : Nat} (hk : k < l.length) (h0 : ∀ j (hj : j < k), p (l[j]'(by omega)) = false) (h1 : p (l[k]'hk) = true) : KeptD p l k (k + 1) l := by
 refine ⟨rfl, by omega, by omega, ?_, rfl⟩
 rw [List.take_succ_eq_append_getElem hk, List.filter_append, List.filter_cons, h1]
 have : (l.take k).filter (fun x => !p x) = l.take k := List.filter_eq_self.2 fun x hx => by
  obtain ⟨j, hj, rfl⟩ := List.getElem_of_mem hx
  rw [List.length_take] at hj
  rw [List.getElem_take, h0 j (by omega)]; rfl
 rw [this]; simp
theorem KeptD.at_ {α : Type} {p : α → Bool} {l dk : List α} {i j : Nat} (h : KeptD p l i j dk) (hj : j < l.length) : dk[j]'(by rw [h.len]; exact hj) = l[j]'hj := by
 have h1 := congrArg (fun z => z[j - i]?) h.tail
 have := h.lt
 simp only [List.getElem?_drop, show i + (j - i) = j by omega] at h1
 rw [List.getElem?_eq_getElem hj, List.getElem?_eq_getElem (by rw [h.len]; exact hj)] at h1
 exact Option.some.inj h1
theorem KeptD.keep {α : Type} {p : α → Bool} {l dk : List α} {i j : Nat} (h : KeptD p l i j dk) (hj : j < l.length) (hp : p (l[j]'hj) = false) : KeptD p l (i + 1) (j + 1) (dk.set i (l[j]'hj)) := by
 have h1 := h.lt; have h2 := h.len
 refine ⟨by simpa using h2, by omega, by omega, ?_, ?_⟩
 ·rw [List.take_succ_eq_append_getElem hj, List.filter_append, List.filter_cons, hp, ← h.head, List.take_succ_eq_append_getElem (by simp; omega), List.take_set_of_le (Nat.le_refl _)]
  simp
 ·rw [List.drop_set_of_lt (by omega)]
  have := congrArg (List.drop 1) h.tail
  simpa [List.drop_drop, Nat.add_comm] using this
theorem KeptD.skip {α : Type} {p : α → Bool} {l dk : List α} {i j : Nat} (h : KeptD p l i j dk) (hj : j < l.length) (hp : p (l[j]'hj) = true) : KeptD p l i (j + 1) dk := by
 have h1 := h.lt
 refine ⟨h.len, by omega, by omega, ?_, h.tail⟩
 rw [List.take_succ_eq_append_getElem hj, List.filter_append, List.filter_cons, hp, ← h.head]
 simp
theorem KeptD.done {α : Type} {p : α → Bool} {l dk : List α} {i j : Nat} (h : KeptD p l i j dk) (hj : ¬ j < l.length) : dk.take i = l.filter (fun x => !p x) ∧ i = (l.filter (fun x => !p x)).length ∧ i < l.length := by
 have h1 := h.lt; have h2 := h.le; have h3 := h.len
 have e := h.head
 rw [show l.take j = l from List.take_of_length_le (by omega)] at e
 refine ⟨e, ?_, by omega⟩
 rw [← e, List.length_take]; omega
theorem run_clear_pair {w : World} {g cap : Nat} {l : List S59} (h : Row2 w g cap l) (k : Nat) (hk : k < l.length) (ty c : Nat) :
  ∃ w1, (Builtin.clear_ #[31] ty #[.slice (some ⟨g, k * 2, none⟩) (l.length - k) c]).run Tryz.prog w = .ok (.tuple #[]) w1 ∧ Row2 w1 g cap (l.take k) ∧ w.grownBy w1 (some g) := by
 obtain ⟨cur, hh, hs, hl, hc⟩ := h
 have hv : ∀ W, (zeroValue 59).run Tryz.prog W = .ok ((.agg #[(.string ⟨#[]⟩), (.string ⟨#[]⟩)])) W := fun W => by
  have := info59
  cases hq : Tryz.prog.info? 59 with
  | none => rw [hq] at this; cases this
  | some i =>
   rw [hq] at this
   simp only [Option.map_some, Option.some.injEq, Prod.mk.injEq] at this
   simp [zeroValue, typeInfo, hq, this.1]
 have hz : ∀ v ∈ (Builtin.zeroCells ((.agg #[(.string ⟨#[]⟩), (.string ⟨#[]⟩)]) : Value).cells (l.length - k)).toList, v.oneCell' = true := fun v hv => by
  simp only [Builtin.zeroCells, Array.toList_map, List.mem_map] at hv
  obtain ⟨i, _, rfl⟩ := hv
  have : ∀ j, j < 2 → ((((.agg #[(.string ⟨#[]⟩), (.string ⟨#[]⟩)]) : Value).cells)[j]!).oneCell' = true := by decide
  exact this _ (Nat.mod_lt _ (by decide))
 have hzl : (Builtin.zeroCells ((.agg #[(.string ⟨#[]⟩), (.string ⟨#[]⟩)]) : Value).cells (l.length - k)).toList.length = (l.length - k) * 2 := by
  simp [Builtin.zeroCells]; rfl
 have hst := run_storeCells_at Tryz.prog g (k * 2) 59 (Builtin.zeroCells ((.agg #[(.string ⟨#[]⟩), (.string ⟨#[]⟩)]) : Value).cells (l.length - k)).toList 0 cur w hh (by rw [hzl]; omega) hz
 have hlt := blk_lt hh
 generalize hV : Builtin.zeroCells ((.agg #[(.string ⟨#[]⟩), (.string ⟨#[]⟩)]) : Value).cells (l.length - k) = V at hz hzl hst
 refine ⟨w.setRow g (cur.toList.take (k * 2 + 0) ++ V.toList ++ cur.toList.drop (k * 2 + 0 + V.toList.length)).toArray, ?_, ?_, ?_⟩
 ·obtain ⟨m, hm⟩ : ∃ m, l.length - k = m + 1 := ⟨l.length - k - 1, by omega⟩
  rw [hm] at hV ⊢
  simp only [Builtin.clear_, List.getElem?_toArray, List.getElem?_cons_zero, Sem.run_bind, run_underlying Tryz.underlying31, Result.andThen_ok, hv, hV, hst, Sem.run_pure]
 ·refine ⟨_, setRow_heap w g cur _ 59 _ hh, ?_, by rw [List.length_take]; omega, fun j hj => ?_⟩
  ·simp only [List.size_toArray, List.length_append, List.length_take, List.length_drop, Array.length_toList, hzl]; omega
  ·have hj' : j < k := by rw [List.length_take] at hj; omega
   have := hc j (by omega)
   rw [List.getElem_take]
   simp only [List.getElem?_toArray]
   rw [List.append_assoc, List.getElem?_append_left (by simp; omega), List.getElem?_append_left (by simp; omega), List.getElem?_take, List.getElem?_take, if_pos (by omega), if_pos (by omega)]
   simpa using this
 ·exact ⟨rfl, rfl, rfl, by simp [World.setRow], fun i _ hi => by simp [World.setRow, Array.getElem?_modify, show ¬ g = i from fun e => hi (by rw [e])]⟩
set_option maxHeartbeats 8000000 in
set_option maxRecDepth 100000 in
theorem api_Pair_102.calls (base : Nat) (v0 : Value) (l0 : List S59) (w : World) (hr : Kd.R k59 59 w base (fun _ => True) v0 l0) (p : S59 → Bool) (g : Nat) (lb : Array Value)
  (eg : ∀ args W, (callFunc g args).run Tryz.prog W = .ok (.enter g args) W)
  (hp : ∀ (W : World) (x : S59), x ∈ l0 → w.grownBy W v0.ownBlock → Calls Tryz.prog g (#[.agg #[.string x.f0, .string x.f1]] ++ lb) W fun e w' => e = .returned (.bool (p x)) ∧ Below W.heap.size W w') :
  Calls Tryz.prog 102 #[v0, .func (.func g) #[] lb] w fun e w' => ∃ v1, e = .returned v1 ∧ Kd.R k59 59 w' base (fun _ => True) v1 (l0.filter fun x => !p x) ∧ w.grownBy w' v0.ownBlock ∧ ((∃ x ∈ l0, p x = true) → ∃ g1 c, v0 = .slice (some ⟨g1, 0, none⟩) l0.length c ∧ v1 = .slice (some ⟨g1, 0, none⟩) (l0.filter fun x => !p x).length c) := by
 obtain ⟨A0, c0, rfl, hc0, hC⟩ := Kd.R_reads hr
 have hmx := hC.2.1
 have hix := api_Pair_115.calls A0 c0 l0 w hC p g lb eg (fun W x cs hx hb hk => by
  obtain rfl := k59_open hk
  exact (hp W x hx (gb_below hb)).mono (fun e w' h => ⟨h.1, hb.trans (h.2.mono hb.size)⟩))
 rcases idxI_spec p l0 with ⟨e0, hall⟩ | ⟨k0, hk0, e0, hpk, hbef⟩
 ·rw [e0] at hix
  have hf : (l0.filter fun x => !p x) = l0 := List.filter_eq_self.2 fun x hx => by rw [hall x hx]; rfl
  rw [hf]
  have HR := Aside0.mk hr
  have HI := Aside0.mk hix
  have HA := Aside0.mk hall
  clear hr hix hp hC hall e0 hf
  go_enter Tryz.func102, Tryz.ntmps102
  go_wp2_with (go_at_call 115; refine HI.out.mono ?_; rintro e w' ⟨rfl, hb'⟩; have HB' := Aside0.mk hb'; clear hb')
  go_ret
  exact ⟨_, rfl, Kd.R_below HR.out HB'.out, gb_below HB'.out, fun ⟨x, hx, hpx⟩ => absurd hpx (by rw [HA.out x hx]; decide)⟩
 ·rw [e0] at hix
  obtain ⟨ad, rfl⟩ : ∃ ad, A0 = some ad := by
   obtain ⟨ad, he, _⟩ := hC.2.2 (by omega)
   exact ⟨ad, he⟩
  obtain ⟨gb, rfl, -, hgb, hcm, hrow⟩ := row2_of hr
  have hp' : ∀ (W : World) (x : S59), x ∈ l0 → w.grownBy W (some gb) → Calls Tryz.prog g (#[.agg #[.string x.f0, .string x.f1]] ++ lb) W fun e w' => e = .returned (.bool (p x)) ∧ Below W.heap.size W w' := hp
  have HI := Aside0.mk hix
  have HP := Aside0.mk hp'
  have HW := Aside0.mk hrow
  have HK2 := am_ (KeptD.start hk0 hbef hpk)
  have HGB := am_ (And.intro hgb hcm)
  have hne1 : ((k0 : Int) == -1) = false := beq_eq_false_iff_ne.2 (by omega)
  clear hr hix hp hC hrow hbef hpk e0 hp' hgb hcm
  go_enter Tryz.func102, Tryz.ntmps102
  go_wp2_with (go_at_call 115; refine HI.out.mono ?_; rintro e w' ⟨rfl, hb'⟩; have HB' := Aside0.mk hb'; clear hb')
  go_loopg [5, 6, 7] l0.length (fun gg s5 s6 _ wr => ∃ (i j : Nat) (dk : List S59), s5 = .int .i64 i ∧ s6 = .int .i64 j ∧ j ≤ l0.length ∧ l0.length - j ≤ gg ∧ Aside0 (KeptD p l0 i j dk) ∧ Aside0 (Row2 wr gb c0 dk) ∧ Aside0 (w.grownBy wr (some gb)))
  case atStart => exact ⟨k0, k0 + 1, l0, rfl, by go_num, by omega, by omega, HK2, ⟨HW.out.below HB'.out⟩, ⟨gb_below HB'.out⟩⟩
  case round =>
   clear HW HK2 HB' HI
   obtain ⟨i, j, dk, rfl, rfl, hjl, hgg, KI, RW, KB⟩ := hrel
   have hij := KI.out.lt
   have hdl := KI.out.len
   by_cases hlt : j < l0.length
   ·have p1 : (0 : Int) ≤ (j : Int) := by omega
    have q1 : (j : Int) < (l0.length : Int) := by omega
    have p2 : (0 : Int) ≤ (i : Int) := by omega
    have q2 : (i : Int) < (l0.length : Int) := by omega
    obtain ⟨hx0, hx1⟩ := RW.out.cell j (by omega)
    have hgl := RW.out.lt
    rw [KI.out.at_ hlt] at hx0 hx1
    have hmem : l0[j]'hlt ∈ l0 := List.getElem_mem hlt
    have hcall := HP.out (wr.alloc (.cells #[.string (l0[j]'hlt).f0, .string (l0[j]'hlt).f1] 59)) _ hmem (gb_step KB.out ((Below.refl _ wr).alloc (Nat.le_refl _) _))
    clear hmem
    have KKeep : p (l0[j]'hlt) = false → KeptD p l0 (i + 1) (j + 1) (dk.set i (l0[j]'hlt)) := fun hq => KI.out.keep hlt hq
    have KSkip : p (l0[j]'hlt) = true → KeptD p l0 i (j + 1) dk := fun hq => KI.out.skip hlt hq
    generalize hy : l0[j]'hlt = y at *
    clear hy
    have hil : i < dk.length := by omega
    replace p1 := eq_true p1
    replace q1 := eq_true q1
    replace p2 := eq_true p2
    replace q2 := eq_true q2
    cases hq : p y with
    | true =>
     rw [hq] at hcall
     have K2 := am_ (KSkip hq)
     have HC := Aside0.mk hcall
     clear hcall hq KSkip KKeep
     go_wp2_with (go_at_fn g; refine HC.out.mono ?_; rintro e w' ⟨rfl, hb'⟩; have HB' := am_ (((Below.refl wr.heap.size wr).alloc (Nat.le_refl _) _).trans (hb'.mono (by simp))); clear hb')
     go_roundg (l0.length - (j + 1))
     case measure => omega
     case rel => exact ⟨i, j + 1, dk, rfl, by go_num, by omega, by omega, K2, ⟨RW.out.below HB'.out⟩, ⟨gb_step KB.out HB'.out⟩⟩
    | false =>
     rw [hq] at hcall
     have K2 := am_ (KKeep hq)
     have HC := Aside0.mk hcall
     clear hcall hq KSkip KKeep
     go_wp2_with (go_at_fn g; refine HC.out.mono ?_; rintro e w' ⟨rfl, hb'⟩; have HB' := am_ (((Below.refl wr.heap.size wr).alloc (Nat.le_refl _) _).trans (hb'.mono (by simp))); have hp0 : w'.cell? ⟨wr.heap.size, 0, none⟩ = some (.string y.f0) := (hb'.cell (p := ⟨wr.heap.size, 0, none⟩) (by simp)).trans (by simp [World.cell?_alloc_new]); have hp1 : w'.cell? ⟨wr.heap.size, 1, none⟩ = some (.string y.f1) := (hb'.cell (p := ⟨wr.heap.size, 1, none⟩) (by simp)).trans (by simp [World.cell?_alloc_new]); obtain ⟨ho0, ho1⟩ := (RW.out.below HB'.out).cell i hil; have hz0 := (RW.out.below HB'.out).frozen (i * 2); have hz1 := (RW.out.below HB'.out).frozen (i * 2 + 1); clear hb')
     go_roundg (l0.length - (j + 1))
     case measure => omega
     case rel => exact ⟨i + 1, j + 1, dk.set i y, by go_num, by go_num, by omega, by omega, K2, ⟨(RW.out.below HB'.out).put i hil y⟩, ⟨gb_set (gb_set (gb_step KB.out HB'.out) _ _) _ _⟩⟩
   ·obtain ⟨hd1, hd2, hd3⟩ := KI.out.done hlt
    obtain ⟨w1, hcl0, hr1, hk1⟩ := run_clear_pair RW.out i (by omega) 0 (c0 - i)
    have hcl : ∀ ty, (Builtin.clear_ #[31] ty #[.slice (some ⟨gb, i * 2, none⟩) (l0.length - i) (c0 - i)]).run Tryz.prog wr = .ok (.tuple #[]) w1 := fun ty => by rw [← hdl]; exact hcl0
    clear hcl0
    rw [hd1] at hr1
    have q1 : ¬ (j : Int) < (l0.length : Int) := by omega
    have hb1 : (0 : Int) ≤ (i : Int) := by omega
    have hb2 : (i : Int) ≤ (l0.length : Int) := by omega
    have hb3 : (i : Int) ≤ (c0 : Int) := by omega
    have R1 := Aside0.mk hr1
    have K1 := Aside0.mk hk1
    have D1 := Aside0.mk hd2
    obtain rfl : j = l0.length := by omega
    clear hr1 hk1 hd1 hd2
    go_wp2
    go_ret
    refine ⟨_, rfl, ?_, ?_, ?_⟩
    ·have := R1.out.R HGB.out.1 HGB.out.2
     rwa [← D1.out] at this
    ·exact gb_trans KB.out K1.out
    ·exact fun _ _ _ => ⟨gb, c0, ⟨rfl, rfl⟩, by rw [← D1.out]; rfl⟩

/-! ### pairs_finder: function 99 -/
/-- A function value that tells whether two texts are the same. -/
def SameAt (P : Program) (g : Nat) (q : ByteArray → ByteArray → Option Bool) : Prop :=
 ∀ (W : World) (a b : ByteArray) (r : Bool), q a b = some r → Calls P g #[.string a, .string b] W fun e w' => e = .returned (.bool r) ∧ Below W.heap.size W w'
def pOf (q : ByteArray → ByteArray → Option Bool) (name : ByteArray) (x : S59) : Bool := q x.f0 name == some true
def qAll (q : ByteArray → ByteArray → Option Bool) (l : List (S59)) (name : ByteArray) : Bool := l.all fun x => (q x.f0 name).isSome
def getI (q : ByteArray → ByteArray → Option Bool) (l : List (S59)) (name : ByteArray) : ByteArray × Bool := if idxI (pOf q name) l < 0 then ((⟨#[]⟩ : ByteArray), false) else ((rd_T59 l (idxI (pOf q name) l)).f1, true)
theorem idxI_lt {α : Type} (p : α → Bool) (l : List α) : idxI p l < l.length := by
 unfold idxI
 by_cases h : l.any p = true
 ·rw [if_pos h]
  have := List.findIdx_lt_length_of_exists (p := p) (xs := l) (by obtain ⟨x, hx, hp⟩ := List.any_eq_true.1 h; exact ⟨x, hx, hp⟩)
  omega
 ·rw [if_neg h]; omega
theorem same_at : SameAt Tryz.prog 36 pairs_Same.f := fun W a b r h => pairs_Same.calls a b r W h
set_option maxHeartbeats 8000000 in
set_option maxRecDepth 100000 in
theorem first1.pred (g : Nat) (q : ByteArray → ByteArray → Option Bool) (hs : SameAt Tryz.prog g q) (eg : ∀ args W, (callFunc g args).run Tryz.prog W = .ok (.enter g args) W) (fb nb : Nat) (name : ByteArray) (w : World) (l : List (S59))
  (hfb : fb < w.heap.size) (hnb : nb < w.heap.size) (hf : w.cell? ⟨fb, 0, none⟩ = some (.func (.func g) #[] #[])) (hn : w.cell? ⟨nb, 0, none⟩ = some (.string name)) (hq : qAll q l name = true) :
  PredK Tryz.prog 116 #[.pointer (some ⟨fb, 0, none⟩), .pointer (some ⟨nb, 0, none⟩)] k59 l (pOf q name) w := by
 intro W x cs hx hb hk
 obtain rfl := k59_open hk
 have hqx : q x.f0 name = some (pOf q name x) := by
  have := List.all_eq_true.1 hq x hx
  unfold pOf
  cases h : q x.f0 name with
  | none => rw [h] at this; cases this
  | some b => cases b <;> rfl
 have HQ := Aside0.mk hqx
 have HS := Aside0.mk hs
 have hf' : W.cell? ⟨fb, 0, none⟩ = some (.func (.func g) #[] #[]) := (hb.cell (p := ⟨fb, 0, none⟩) hfb).trans hf
 have hn' : W.cell? ⟨nb, 0, none⟩ = some (.string name) := (hb.cell (p := ⟨nb, 0, none⟩) hnb).trans hn
 have hf1 : fb ≠ W.heap.size := by have := hb.size; omega
 have hn1 : nb ≠ W.heap.size := by have := hb.size; omega
 have hfl : fb < W.heap.size := by have := hb.size; omega
 have hnl : nb < W.heap.size := by have := hb.size; omega
 have HB := Aside0.mk hb
 clear hqx hs hx hb hk hq hf hn hfb hnb
 show Calls Tryz.prog 116 #[.agg #[.string x.f0, .string x.f1], .pointer (some ⟨fb, 0, none⟩), .pointer (some ⟨nb, 0, none⟩)] W _
 generalize pOf q name x = b at HQ
 go_enter Tryz.func116, Tryz.ntmps116
 go_wp2_with (go_at_fn g; refine (HS.out _ x.f0 name b HQ.out).mono ?_; rintro e w' ⟨rfl, hb'⟩; have HB' := Aside0.mk hb'; clear hb')
 go_ret
 exact ⟨rfl, (HB.out.alloc HB.out.size _).trans (HB'.out.mono (by have := HB.out.size; simp; omega))⟩
set_option maxHeartbeats 8000000 in
set_option maxRecDepth 100000 in
theorem finder_first.calls (g : Nat) (q : ByteArray → ByteArray → Option Bool) (hs : SameAt Tryz.prog g q) (eg : ∀ args W, (callFunc g args).run Tryz.prog W = .ok (.enter g args) W) (A0 : Option Addr) (c0 : Nat) (l0 : List (S59)) (name : ByteArray) (w : World)
  (hr0 : Kd.C k59 w A0 l0.length l0) (hq : qAll q l0 name = true) :
  Calls Tryz.prog 99 #[.agg #[.func (.func g) #[] #[]], .slice A0 l0.length c0, .string name] w fun e w' => e = .returned (.int .i64 (idxI (pOf q name) l0)) ∧ Below w.heap.size w w' := by
 have eg1 : ∀ args W, (callFunc 116 args).run Tryz.prog W = .ok (.enter 116 args) W := enters_of Tryz.func116 kr_ rfl
 have EG1 := Aside0.mk eg1
 have HR := Aside0.mk hr0
 have HS := Aside0.mk hs
 have EG := Aside0.mk eg
 have HQ := Aside0.mk hq
 clear eg1 hr0 hs eg hq
 go_enter Tryz.func99, Tryz.ntmps99
 go_wp2_with (go_at_call 115; refine (api_Pair_115.calls A0 c0 l0 _ (by exact Kd.C_alloc (Kd.C_alloc HR.out _) _) (pOf q name) 116 _ EG1.out (by exact first1.pred g q HS.out EG.out w.heap.size (w.heap.size + 1) name _ l0 (by simp; omega) (by simp) (by simp [World.cell?_alloc_lt, World.cell?_alloc_new]) (by simp [World.cell?_alloc_new]) HQ.out)).mono ?_; rintro e w' ⟨rfl, hb'⟩; have HB' := Aside0.mk hb'; clear hb')
 go_ret
 exact ⟨rfl, (((Below.refl _ w).alloc (Nat.le_refl _) _).alloc (by simp) _).trans (HB'.out.mono (by simp; omega))⟩

/-! ### pairs_Drop: function 86 -/
set_option maxHeartbeats 8000000 in
set_option maxRecDepth 100000 in
theorem drop1_at (nb : Nat) (name : ByteArray) (W : World) (x : S59) (b : Bool) (hn : W.cell? ⟨nb, 0, none⟩ = some (.string name)) (hnl : nb < W.heap.size) (hq : pairs_Same.f x.f0 name = some b) :
  Calls Tryz.prog 103 #[.agg #[.string x.f0, .string x.f1], .pointer (some ⟨nb, 0, none⟩)] W fun e w' => e = .returned (.bool b) ∧ Below W.heap.size W w' := by
 have HQ := Aside0.mk hq
 have hn1 : nb ≠ W.heap.size := by omega
 clear hq
 go_enter Tryz.func103, Tryz.ntmps103
 go_wp2_with (go_at_call 36; refine (pairs_Same.calls x.f0 name b _ HQ.out).mono ?_; rintro e w' ⟨rfl, hb'⟩; have HB' := Aside0.mk hb'; clear hb')
 go_ret
 exact ⟨rfl, ((Below.refl _ W).alloc (Nat.le_refl _) _).trans (HB'.out.mono (by simp))⟩
def pairs_Drop.f (l0 : List (S59)) (a1 : ByteArray) : Option (List (S59)) := if qAll pairs_Same.f l0 a1 = true ∧ l0.length * 32 ≤ 140737488355328 then some (l0.filter fun x => !pOf pairs_Same.f a1 x) else none
set_option maxHeartbeats 8000000 in
set_option maxRecDepth 100000 in
/-- Dropped in a row of its own; its room is no less than what there was. -/
theorem drop_at (A0 : Option Addr) (c0 : Nat) (l0 : List (S59)) (a1 : ByteArray) (r : List (S59)) (w : World) (hr0 : Kd.C k59 w A0 l0.length l0) (hc0 : l0.length ≤ c0) (h : pairs_Drop.f l0 a1 = some r) :
  Calls Tryz.prog 86 #[.slice A0 l0.length c0, .string a1] w fun e w' => ∃ v0_ : Value, e = .returned (v0_) ∧ (Kd.R k59 59 w' w.heap.size (fun _ => True) v0_ r ∧ ((∃ x ∈ l0, pOf pairs_Same.f a1 x = true) → ∃ g1 c, v0_ = .slice (some ⟨g1, 0, none⟩) r.length c ∧ l0.length ≤ c)) ∧ Below w.heap.size w w' := by
 obtain ⟨hq, hl⟩ : qAll pairs_Same.f l0 a1 = true ∧ l0.length * 32 ≤ 140737488355328 := by
  by_cases hx : qAll pairs_Same.f l0 a1 = true ∧ l0.length * 32 ≤ 140737488355328
  ·exact hx
  ·rw [pairs_Drop.f, if_neg hx] at h; cases h
 rw [pairs_Drop.f, if_pos ⟨hq, hl⟩] at h
 obtain rfl := Option.some.inj h
 clear h
 have eg : ∀ args W, (callFunc 103 args).run Tryz.prog W = .ok (.enter 103 args) W := enters_of Tryz.func103 kr_ rfl
 have hcl := fun (W : World) (hW : Kd.C k59 W A0 l0.length l0) => api_Pair_101.calls A0 c0 l0 l0 W hW hc0 (by rw [api_Pair_101.f, if_pos hl])
 have HCL := Aside0.mk hcl
 have HR := Aside0.mk hr0
 have HQ := Aside0.mk hq
 have EG := Aside0.mk eg
 clear hcl hr0 hq hl eg hc0
 go_enter Tryz.func86, Tryz.ntmps86
 go_wp2_with (first | (go_at_call 101; refine (HCL.out _ (by exact Kd.C_alloc HR.out _)).mono ?_; rintro e w2 ⟨v0, rfl, hR, hb⟩; have HV := Aside0.mk hR; have HB := Aside0.mk hb; clear hR hb) | (go_at_call 102; refine (api_Pair_102.calls _ v0 l0 w2 HV.out (pOf pairs_Same.f a1) 103 _ EG.out (fun W x hx hg => by (have hne : v0.ownBlock ≠ some w.heap.size := fun e => (by have := own_base (Kd.R_own HV.out).choose_spec _ e; simp at this; omega)); have hcell : W.cell? ⟨w.heap.size, 0, none⟩ = some (.string a1) := hg.cell ((HB.out.cell (p := ⟨w.heap.size, 0, none⟩) (by simp)).trans (by simp [World.cell?_alloc_new])) (fun e => hne e.symm); exact drop1_at w.heap.size a1 W x _ hcell (by have := hg.size; have := HB.out.size; simp at this; omega) (by have := List.all_eq_true.1 HQ.out x hx; unfold pOf; (cases h : pairs_Same.f x.f0 a1 with | none => (rw [h] at this; cases this) | some b => cases b <;> rfl)))).mono ?_; rintro e w3 ⟨v1, rfl, hR, hg, hcap⟩; have HG := Aside0.mk hg; have HV1 := Aside0.mk hR; have HCP := Aside0.mk hcap; clear hR hg hcap))
 go_ret
 have hB3 : Below w.heap.size w w3 := (((Below.refl _ w).alloc (Nat.le_refl _) _).trans (HB.out.mono (by simp))).trans (gb_out HG.out (by have := HB.out.size; simp at this; omega) (fun k hk => (by have := own_base (Kd.R_own HV.out).choose_spec _ hk; simp at this; omega)))
 refine ⟨_, rfl, ⟨Kd.R_lower HV1.out (by simp), fun hx => ?_⟩, hB3⟩
 obtain ⟨g1, c, e0, e1⟩ := HCP.out hx
 obtain ⟨A, c', e', hl', _⟩ := Kd.R_reads HV.out
 rw [e0] at e'
 injection e' with _ _ e'
 exact ⟨g1, c, e1, by rw [e']; exact hl'⟩
theorem pairs_Drop.calls (A0 : Option Addr) (c0 : Nat) (l0 : List (S59)) (a1 : ByteArray) (r : List (S59)) (w : World) (hr0 : Kd.C k59 w A0 l0.length l0) (hc0 : l0.length ≤ c0) (h : pairs_Drop.f l0 a1 = some r) :
  Calls Tryz.prog 86 #[.slice A0 l0.length c0, .string a1] w fun e w' => ∃ v0_ : Value, e = .returned (v0_) ∧ Kd.R k59 59 w' w.heap.size (fun _ => True) v0_ r ∧ Below w.heap.size w w' :=
 (drop_at A0 c0 l0 a1 r w hr0 hc0 h).mono fun _ _ ⟨v, e, h1, h2⟩ => ⟨v, e, h1.1, h2⟩

/-! ### api_Pair_100: function 100 -/
/-- Cells copied into a row of cells: elements of any number of cells. -/
theorem run_copy_cells2 {P : Program} (w : World) (dT sT ty elem sz : Nat) (g o dLen dCap : Nat) (a : Addr) (sLen sCap : Nat) (cur : Array Value) (t : TypeId) (cs : List Value)
  (hu : P.underlying dT = some (.slice elem)) (hs : (P.info? elem).map (·.size) = some sz)
  (hg : w.heap[g]? = some (.cells cur t (0, 0))) (hn : cs.length = Nat.min sLen dLen * sz)
  (hsrc : ∀ j v, cs[j]? = some v → w.cell? (a.add j) = some v) (hfit : o + cs.length ≤ cur.size) (h1 : ∀ v ∈ cs, v.oneCell' = true) :
  (Builtin.copy_ #[dT, sT] ty #[.slice (some ⟨g, o, none⟩) dLen dCap, .slice (some a) sLen sCap]).run P w =
   .ok (goInt (Nat.min sLen dLen)) (w.setRow g (cur.toList.take o ++ cs ++ cur.toList.drop (o + cs.length)).toArray) := by
 have hl := run_loadCells_list (P := P) w a cs hsrc
 have hst := run_storeCells_at P g o t cs 0 cur w hg (by simpa using hfit) h1
 cases hq : P.info? elem with
 | none => simp [hq] at hs
 | some i =>
  have hi : i.size = sz := by simpa [hq] using hs
  simp [Builtin.copy_, run_underlying hu, Builtin.lenOf, Builtin.firstCells, sizeOf, typeInfo, hq, hi, ← hn, hl, hst]
theorem cells2_one {l : List S59} {cur : Array Value} (hc : ∀ j (hj : j < l.length), cur[j * 2]? = some (.string (l[j]'hj).f0) ∧ cur[j * 2 + 1]? = some (.string (l[j]'hj).f1)) (k : Nat) (hk : k < l.length * 2) (v : Value) (h : cur[k]? = some v) : v.oneCell' = true := by
 rcases Nat.mod_two_eq_zero_or_one k with e | e
 ·have := (hc (k / 2) (by omega)).1
  rw [show k / 2 * 2 = k by omega, h] at this
  cases this; rfl
 ·have := (hc (k / 2) (by omega)).2
  rw [show k / 2 * 2 + 1 = k by omega, h] at this
  cases this; rfl
theorem sizeE : (Tryz.prog.info? 59).map (·.size) = some 2 := by
 have := info59
 cases hq : Tryz.prog.info? 59 with
 | none => rw [hq] at this; cases this
 | some i =>
  rw [hq] at this
  simp only [Option.map_some, Option.some.injEq, Prod.mk.injEq] at this
  simp [this.2.1]
theorem run_sizeE (W : World) : (sizeOf 59).run Tryz.prog W = .ok 2 W := by
 have := sizeE
 cases hq : Tryz.prog.info? 59 with
 | none => rw [hq] at this; cases this
 | some i0 =>
  rw [hq] at this
  simp only [Option.map_some, Option.some.injEq] at this
  simp [sizeOf, typeInfo, hq, this]
theorem Row2.shift {w : World} {g c : Nat} {l : List S59} (h : Row2 w g c l) (i : Nat) (hi : i < l.length) (hroom : l.length + 1 ≤ c) :
  ∃ w1, (∀ ty dc sc, (Builtin.copy_ #[31, 31] ty #[.slice (some ⟨g, (i + 1) * 2, none⟩) (l.length - i) dc, .slice (some ⟨g, i * 2, none⟩) (l.length + 1 - i) sc]).run Tryz.prog w = .ok (goInt ((l.length - i : Nat) : Int)) w1) ∧ Row2 w1 g c (l.take (i + 1) ++ l.drop i) ∧ w.grownBy w1 (some g) := by
 obtain ⟨cur, hh, hs, hl, hc⟩ := h
 have hm : Nat.min (l.length + 1 - i) (l.length - i) = l.length - i := by simp only [Nat.min_def]; split <;> omega
 generalize hcs : (cur.toList.drop (i * 2)).take ((l.length - i) * 2) = cs
 have hcl : cs.length = (l.length - i) * 2 := by rw [← hcs]; simp only [List.length_take, List.length_drop, Array.length_toList]; omega
 have hce : ∀ k, k < (l.length - i) * 2 → cs[k]? = cur[i * 2 + k]? := fun k hk => by
  rw [← hcs, List.getElem?_take, if_pos hk, List.getElem?_drop, Array.getElem?_toList]
 refine ⟨w.setRow g (cur.toList.take ((i + 1) * 2) ++ cs ++ cur.toList.drop ((i + 1) * 2 + cs.length)).toArray, fun ty dc sc => ?_, ⟨_, setRow_heap w g cur _ 59 _ hh, ?_, ?_, fun j hj => ?_⟩, rfl, rfl, rfl, by simp [World.setRow], fun k _ hk => by simp [World.setRow, Array.getElem?_modify, show ¬ g = k from fun e => hk (by rw [e])]⟩
 ·have := run_copy_cells2 (P := Tryz.prog) w 31 31 ty 59 2 g ((i + 1) * 2) (l.length - i) dc ⟨g, i * 2, none⟩ (l.length + 1 - i) sc cur 59 cs Tryz.underlying31 sizeE hh (by rw [hm, hcl]) (fun j v hj => by
   have hjl : j < (l.length - i) * 2 := by rw [← hcl]; exact (List.getElem?_eq_some_iff.1 hj).1
   rw [Addr.add_lit, blk_cell hh, ← hce j hjl]; exact hj) (by rw [hcl]; omega) (fun v hv => by
   obtain ⟨j, hj⟩ := List.getElem?_of_mem hv
   have hjl : j < (l.length - i) * 2 := by rw [← hcl]; exact (List.getElem?_eq_some_iff.1 hj).1
   rw [hce j hjl] at hj
   exact cells2_one hc _ (by omega) v hj)
  rw [this, hm]
 ·simp only [List.size_toArray, List.length_append, List.length_take, List.length_drop, Array.length_toList, hcl]; omega
 ·rw [List.length_append, List.length_take, List.length_drop]; omega
 ·have hjl : j < l.length + 1 := by rw [List.length_append, List.length_take, List.length_drop] at hj; omega
  simp only [List.getElem?_toArray]
  have ht : (cur.toList.take ((i + 1) * 2)).length = (i + 1) * 2 := by rw [List.length_take, Array.length_toList]; omega
  have htl : (l.take (i + 1)).length = i + 1 := by rw [List.length_take]; omega
  have hA : ∀ k, k < (i + 1) * 2 → (cur.toList.take ((i + 1) * 2) ++ cs ++ cur.toList.drop ((i + 1) * 2 + cs.length))[k]? = cur[k]? := fun k hk => by
   rw [List.append_assoc, List.getElem?_append_left (by rw [ht]; exact hk), List.getElem?_take, if_pos hk, Array.getElem?_toList]
  have hB : ∀ k, k < (l.length - i) * 2 → (cur.toList.take ((i + 1) * 2) ++ cs ++ cur.toList.drop ((i + 1) * 2 + cs.length))[(i + 1) * 2 + k]? = cur[i * 2 + k]? := fun k hk => by
   rw [List.append_assoc, List.getElem?_append_right (by rw [ht]; omega), ht, List.getElem?_append_left (by rw [hcl]; omega), show (i + 1) * 2 + k - (i + 1) * 2 = k by omega, hce k hk]
  by_cases e : j < i + 1
  ·rw [hA _ (by omega), hA _ (by omega), List.getElem_append_left (by rw [htl]; exact e), List.getElem_take]
   exact hc j (by omega)
  ·have h1 := hB ((j - (i + 1)) * 2) (by omega)
   have h2 := hB ((j - (i + 1)) * 2 + 1) (by omega)
   rw [show (i + 1) * 2 + (j - (i + 1)) * 2 = j * 2 by omega, show i * 2 + (j - (i + 1)) * 2 = (j - 1) * 2 by omega] at h1
   rw [show (i + 1) * 2 + ((j - (i + 1)) * 2 + 1) = j * 2 + 1 by omega, show i * 2 + ((j - (i + 1)) * 2 + 1) = (j - 1) * 2 + 1 by omega] at h2
   have hg : (l.take (i + 1) ++ l.drop i)[j]'hj = l[j - 1]'(by omega) := by
    rw [List.getElem_append_right (by rw [htl]; omega), List.getElem_drop]
    congr 1
    rw [htl]; omega
   rw [h1, h2, hg]
   exact hc (j - 1) (by omega)
theorem Row2.copy1 {w : World} {g c : Nat} {l : List S59} (h : Row2 w g c l) (i : Nat) (hi : i < l.length) (vb : Nat) (x : S59) (hv : w.heap[vb]? = some (.cells #[.string x.f0, .string x.f1] 59 (0, 0))) :
  (∀ ty dl dc vc, 0 < dl → (Builtin.copy_ #[31, 31] ty #[.slice (some ⟨g, i * 2, none⟩) dl dc, .slice (some ⟨vb, 0, none⟩) 1 vc]).run Tryz.prog w = .ok (goInt 1) ((w.setCell ⟨g, i * 2, none⟩ (.string x.f0)).setCell ⟨g, i * 2 + 1, none⟩ (.string x.f1))) := by
 have h' := h
 obtain ⟨cur, hh, hs, hl, hc⟩ := h
 intro ty dl dc vc hdl
 have hm : Nat.min 1 dl = 1 := by simp only [Nat.min_def]; split <;> omega
 have hl0 : (loadCells ⟨vb, 0, none⟩ 2).run Tryz.prog w = .ok #[.string x.f0, .string x.f1] w :=
  run_loadCells_list (P := Tryz.prog) w ⟨vb, 0, none⟩ [.string x.f0, .string x.f1] (fun j v hj => by rw [Addr.add_lit, Nat.zero_add, blk_cell hv]; simpa using hj)
 have hq : ∃ i0, Tryz.prog.info? 59 = some i0 ∧ i0.size = 2 := by
  have := sizeE
  cases hq : Tryz.prog.info? 59 with
  | none => rw [hq] at this; cases this
  | some i0 => rw [hq] at this; exact ⟨i0, rfl, by simpa using this⟩
 obtain ⟨i0, hq, hi0⟩ := hq
 have h1 : ∀ v ∈ [Value.string x.f0, Value.string x.f1], v.oneCell' = true := fun v hv => by
  simp only [List.mem_cons, List.not_mem_nil, or_false] at hv
  cases hv with
  | inl e => rw [e]; rfl
  | inr e => rw [e]; rfl
 have hst := run_storeCells_cells (P := Tryz.prog) g (i * 2) [.string x.f0, .string x.f1] 0 w (fun j hj => h'.room _ (by simp at hj; omega)) (fun j hj => h'.frozen _) h1
 simp only [Nat.add_zero, World.setCells] at hst
 simp [Builtin.copy_, run_underlying Tryz.underlying31, Builtin.lenOf, Builtin.firstCells, sizeOf, typeInfo, hq, hi0, hm, hl0, hst]
/-- THE OPERATION 'copy(d, s)' where its run is known by an equation. -/
theorem wp_copy_run2 {P : Program} (w : World) {ops : Array Oper} {rest : List Oper} {o : Oper} {a : Act} {Q : Exit → Act → World → Prop} (hgd : o.guard = none) (d s : Operand) (t t' : TypeId)
  (ho : o.op = .call { callee := .builtin .copy, args := #[d, s], argTypes := #[t, t'] }) (v u : Value) (hd : a.eval d = v) (hs : a.eval s = u) {v' : Value} {w' : World}
  (hr : (Builtin.copy_ #[t, t'] o.type #[v, u]).run P w = .ok v' w') (h : wpList P ops Q rest (a.put o.dst v') w') : wpList P ops Q (o :: rest) a w :=
 wpList_plain hgd fun K hK => by
  have := hK _ _ h
  unfold Oper.wp execOp
  simp only [ho, resolve, invoke, builtin, Sem.run_bind, Sem.run_pure, Result.andThen_ok, List.map_toArray, List.map_cons, List.map_nil, hd, hs, hr]
  exact this
theorem step_copy_run2 {P : Program} {ops : Array Oper} {o : Oper} {a : Act} {w : World} {K : Act → World → Prop} {Q : Exit → Act → World → Prop} {E : Prop}
  (hg : o.guard = none) (d x : Operand) (dT sT : TypeId) (hop : o.op = Op.call { callee := Callee.builtin Builtin.copy, args := #[d, x], argTypes := #[dT, sT] })
  (v u : Value) (hd : a.eval d = v) (hx : a.eval x = u) {v' : Value} {w' : World} (hr : (Builtin.copy_ #[dT, sT] o.type #[v, u]).run P w = .ok v' w') (hK : K (a.put o.dst v') w') :
  if Region.wanted o (yielded ops a.tmps) = true then Oper.wp P o a w K Q else E := by
 have hw : Region.wanted o (yielded ops a.tmps) = true := by simp [Region.wanted, hg]
 rw [if_pos hw]
 unfold Oper.wp
 simp [execOp, hop, resolve, invoke, builtin, hd, hx, hr, Result.andThen]
 exact hK
set_option maxHeartbeats 8000000 in
set_option maxRecDepth 100000 in
theorem insert_end (base g1 c : Nat) (l : List S59) (w : World) (hR : Kd.R k59 59 w base (fun _ => True) (.slice (some ⟨g1, 0, none⟩) l.length c) l) (hb : base ≤ w.heap.size) (hroom : l.length + 1 ≤ c) (hlim : (l.length + 1) * 32 ≤ 140737488355328) (vb vc : Nat) (x : S59) (hv : w.heap[vb]? = some (.cells #[.string x.f0, .string x.f1] 59 (0, 0))) :
  Calls Tryz.prog 100 #[.slice (some ⟨g1, 0, none⟩) l.length c, .int .i64 (l.length : Int), .slice (some ⟨vb, 0, none⟩) 1 vc] w fun e w' => ∃ v1, e = .returned v1 ∧ Kd.R k59 59 w' base (fun _ => True) v1 (l ++ [x]) ∧ Below base w w' := by
 have hlc : l.length ≤ c := by
  obtain ⟨A, c', e, h, _⟩ := Kd.R_reads hR
  injection e with _ _ e
  omega
 have hn0 : ¬ ((1 : Int) = 0) := by omega
 have hlc2 : (l.length : Int) ≤ (c : Int) := by omega
 have hb4 : ¬ (c = l.length) := by omega
 have hl0 : (0 : Int) ≤ (l.length : Int) := by omega
 have HR := Aside0.mk hR
 have HB := Aside0.mk hb
 have HL := Aside0.mk hlim
 have HV := Aside0.mk hv
 clear hR hb hlim hv hlc hroom
 go_enter Tryz.func100, Tryz.ntmps100
 go_wp2_with (at_builtin; refine Kd.R_append_rows k59 (Rr := k59.K w) (w0 := w) base rfl (.tmp 23) (.tmp 24) 31 59 (.agg #[(.string ⟨#[]⟩), (.string ⟨#[]⟩)]) 32 rfl Tryz.underlying31 info59 rfl (by decide) (by decide) _ l [x] (some ⟨vb, 0, none⟩) 1 vc (fun _ => True) (fun _ => False) rfl rfl HR.out ?aR (fun y cs h => (by obtain rfl := k59_open h; exact k59_mkM _ _ _ _)) (fun _ h => h.elim) (fun _ _ => trivial) (Below.refl _ w) HB.out HL.out ?_; (case aR => exact ⟨rfl, by decide, fun _ => ⟨_, rfl, fun j p hj => by (cases j with | zero => (cases hj; exact ⟨[.string x.f0, .string x.f1], rfl, k59_mk _ _, fun i u hi => by rw [Addr.add_lit, blk_cell HV.out]; simpa using hi⟩) | succ j => simp at hj)⟩⟩); intro v1 w1 ho hb hg hat; have n0_ := Aside0.mk ho; have n1_ := Aside0.mk hb; clear ho hb hg hat)
 go_ret
 exact ⟨_, rfl, n0_.out, n1_.out⟩
set_option maxHeartbeats 8000000 in
set_option maxRecDepth 100000 in
theorem insert_shift (base g1 c : Nat) (l : List S59) (w : World) (hR : Kd.R k59 59 w base (fun _ => True) (.slice (some ⟨g1, 0, none⟩) l.length c) l) (hb : base ≤ w.heap.size) (hroom : l.length + 1 ≤ c) (i : Nat) (hi : i < l.length) (vb vc : Nat) (hvb : vb ≠ g1) (x : S59) (hv : w.heap[vb]? = some (.cells #[.string x.f0, .string x.f1] 59 (0, 0))) :
  Calls Tryz.prog 100 #[.slice (some ⟨g1, 0, none⟩) l.length c, .int .i64 (i : Int), .slice (some ⟨vb, 0, none⟩) 1 vc] w fun e w' => ∃ v1, e = .returned v1 ∧ Kd.R k59 59 w' base (fun _ => True) v1 (l.take i ++ x :: l.drop i) ∧ Below base w w' := by
 obtain ⟨g, e, -, hgb, hcm, hrow⟩ := row2_of hR
 obtain rfl : g1 = g := by cases e; rfl
 clear e
 have hov : ∀ lb cb, (callFunc 117 #[.slice (some ⟨vb, 0, none⟩) 1 vc, .slice (some ⟨g1, (i + 1) * 2, none⟩) lb cb]).run Tryz.prog w = .ok (.value (.bool false)) w := fun lb cb => by
  obtain ⟨cur, hh, hs, hl, hc⟩ := hrow
  rw [run_callFunc_extern Tryz.func117 kr_ kr_ kr_ (e := Extern.SlicesOverlaps.overlaps #[31, 31] #[4]) kr_,
   Lib.run_overlaps_apart w 31 4 59 Tryz.underlying31 2 run_sizeE ⟨vb, 0, none⟩ ⟨g1, (i + 1) * 2, none⟩ 1 vc lb cb hvb 59 59 2 cur.size (by simp [World.shape?, hv]) (by simp [World.shape?, hh]) (by omega) (blk_frozen hv _) (blk_frozen hv _)]
  rfl
 have hrd : Row2 w.drew g1 c l := hrow.move rfl
 obtain ⟨w1, hcp1, hr1, hg1⟩ := hrd.shift i hi hroom
 have hv1 : w1.heap[vb]? = some (.cells #[.string x.f0, .string x.f1] 59 (0, 0)) := (hg1.block vb (blk_lt (show w.drew.heap[vb]? = _ from hv)) (fun e => hvb (Option.some.inj e))).trans hv
 have hcp2 := hr1.copy1 i (by rw [List.length_append, List.length_take, List.length_drop]; omega) vb x hv1
 have hr2 := hr1.put i (by rw [List.length_append, List.length_take, List.length_drop]; omega) x
 rw [show (l.take (i + 1) ++ l.drop i).set i x = l.take i ++ x :: l.drop i from by
  rw [List.take_succ_eq_append_getElem hi, List.append_assoc, List.set_append_right _ _ (by rw [List.length_take]; omega)]
  rw [show i - (l.take i).length = 0 by rw [List.length_take]; omega]
  rfl] at hr2
 have hg2 : w.grownBy ((w1.setCell ⟨g1, i * 2, none⟩ (.string x.f0)).setCell ⟨g1, i * 2 + 1, none⟩ (.string x.f1)) (some g1) := gb_set (gb_set (gb_trans (show w.grownBy w.drew (some g1) from ⟨rfl, rfl, rfl, Nat.le_refl _, fun _ _ _ => rfl⟩) hg1) _ _) _ _
 have hfin := hr2.R hgb hcm
 have hlen : (l.take i ++ x :: l.drop i).length = l.length + 1 := by rw [List.length_append, List.length_cons, List.length_take, List.length_drop]; omega
 rw [hlen] at hfin
 have hbel : Below base w _ := gb_out hg2 hb (fun k hk => by cases hk; exact hgb)
 have FIN := Aside0.mk hfin
 have BEL := Aside0.mk hbel
 have hm63 : c ≤ 9223372036854775807 := hcm
 have hz1 : ¬ ((1 : Int) = 0) := by omega
 have hz2 : ¬ ((i : Int) = (l.length : Int)) := by omega
 have hw0 : IntKind.i64.wrap ((l.length : Int) + 1) = (l.length : Int) + 1 := by rw [IntKind.wrap_i64]; omega
 have hw1 : IntKind.i64.wrap ((i : Int) + 1) = (i : Int) + 1 := by rw [IntKind.wrap_i64]; omega
 have hc1 : ¬ ((c : Int) < (l.length : Int) + 1) := by omega
 have hb1 : (0 : Int) ≤ (i : Int) + 1 := by omega
 have hb0 : (0 : Int) ≤ (i : Int) := by omega
 have hin : (i : Int) ≤ (l.length : Int) := by omega
 have htn : ((i : Int) + 1).toNat = i + 1 := by omega
 have htl : ((l.length : Int) + 1).toNat = l.length + 1 := by omega
 have hb2 : ¬ (c = i + 1) := by omega
 have hb3 : (i : Int) ≤ (l.length : Int) + 1 := by omega
 have hb5 : (i : Int) + 1 ≤ (l.length : Int) + 1 := by omega
 have hb6 : (l.length : Int) + 1 ≤ (c : Int) := by omega
 have hb7 : (0 : Int) ≤ (l.length : Int) + 1 := by omega
 have hb4 : ¬ (c = i) := by omega
 have hdl : 0 < l.length + 1 - i := by omega
 have HH := am_ (And.intro hcp1 hcp2)
 clear hR hrow hrd hr1 hg1 hr2 hg2 hfin hbel hv hv1 hcp1 hcp2 hlen
 go_enter Tryz.func100, Tryz.ntmps100
 go_wp2_with (simp only [hov])
 have mixed : Tryz.prog.follows Departure.mixedOrders = true := by kernel_rfl
 have hcp1 := HH.out.1
 go_region_law_o (refine step_copy_run2 rfl _ _ 31 31 rfl _ _ (by simp [Act.eval, Act.put]) (by simp [Act.eval, Act.put]) (hcp1 _ _ _) ?_)
 have hcp2 := fun ty dc => HH.out.2 ty (l.length + 1 - i) dc vc hdl
 go_wp2_with (simp only [hcp2])
 go_ret
 exact ⟨_, rfl, FIN.out, BEL.out⟩
theorem insert_at (base g1 c : Nat) (l : List S59) (w : World) (hR : Kd.R k59 59 w base (fun _ => True) (.slice (some ⟨g1, 0, none⟩) l.length c) l) (hb : base ≤ w.heap.size) (hroom : l.length + 1 ≤ c) (hlim : (l.length + 1) * 32 ≤ 140737488355328) (i : Nat) (hi : i ≤ l.length) (vb vc : Nat) (hvb : vb ≠ g1) (x : S59) (hv : w.heap[vb]? = some (.cells #[.string x.f0, .string x.f1] 59 (0, 0))) :
  Calls Tryz.prog 100 #[.slice (some ⟨g1, 0, none⟩) l.length c, .int .i64 (i : Int), .slice (some ⟨vb, 0, none⟩) 1 vc] w fun e w' => ∃ v1, e = .returned v1 ∧ Kd.R k59 59 w' base (fun _ => True) v1 (l.take i ++ x :: l.drop i) ∧ Below base w w' := by
 rcases Nat.lt_or_ge i l.length with h | h
 ·exact insert_shift base g1 c l w hR hb hroom i h vb vc hvb x hv
 ·obtain rfl : i = l.length := by omega
  rw [List.take_length, List.drop_length]
  exact insert_end base g1 c l w hR hb hroom hlim vb vc x hv

/-! ### pairs_Set: function 84 -/
def pairs_Set.f (l0 : List (S59)) (a1 : ByteArray) (a2 : ByteArray) : Option (List (S59)) :=
 if qAll pairs_Same.f l0 a1 = true then (if idxI (pOf pairs_Same.f a1) l0 < 0 then pairs_Add.f l0 a1 a2 else (pairs_Drop.f l0 a1).map fun d => d.take (idxI (pOf pairs_Same.f a1) l0).toNat ++ (⟨a1, a2⟩ : S59) :: d.drop (idxI (pOf pairs_Same.f a1) l0).toNat) else none
theorem set_room {α : Type} (p : α → Bool) (l : List α) (k : Nat) (hk : k < l.length) (h1 : p (l[k]'hk) = true) (h0 : ∀ j (hj : j < k), p (l[j]'(by omega)) = false) : (l.filter fun x => !p x).length + 1 ≤ l.length ∧ k ≤ (l.filter fun x => !p x).length := by
 have e : l = l.take k ++ l[k]'hk :: l.drop (k + 1) := by rw [List.getElem_cons_drop, List.take_append_drop]
 have hf : (l.take k).filter (fun x => !p x) = l.take k := List.filter_eq_self.2 fun x hx => by
  obtain ⟨j, hj, rfl⟩ := List.getElem_of_mem hx
  rw [List.length_take] at hj
  rw [List.getElem_take, h0 j (by omega)]; rfl
 have h2 : (l.filter fun x => !p x) = l.take k ++ (l.drop (k + 1)).filter (fun x => !p x) := by
  conv => lhs; rw [e]
  rw [List.filter_append, List.filter_cons, h1, hf]; simp
 have h3 := List.length_filter_le (fun x => !p x) (l.drop (k + 1))
 rw [h2, List.length_append, List.length_take]
 rw [List.length_drop] at h3
 omega
set_option maxHeartbeats 8000000 in
set_option maxRecDepth 100000 in
theorem pairs_Set.calls (A0 : Option Addr) (c0 : Nat) (l0 : List (S59)) (a1 : ByteArray) (a2 : ByteArray) (r : List (S59)) (w : World) (hr0 : Kd.C k59 w A0 l0.length l0) (hc0 : l0.length ≤ c0) (h : pairs_Set.f l0 a1 a2 = some r) :
  Calls Tryz.prog 84 #[.slice A0 l0.length c0, .string a1, .string a2] w fun e w' => ∃ v0_ : Value, e = .returned (v0_) ∧ Kd.R k59 59 w' w.heap.size (fun _ => True) v0_ r ∧ Below w.heap.size w w' := by
 have hq : qAll pairs_Same.f l0 a1 = true := by
  by_cases hx : qAll pairs_Same.f l0 a1 = true
  ·exact hx
  ·rw [pairs_Set.f, if_neg hx] at h; cases h
 rw [pairs_Set.f, if_pos hq] at h
 have eg : ∀ args W, (callFunc 36 args).run Tryz.prog W = .ok (.enter 36 args) W := enters_of Tryz.func36 kr_ rfl
 have hfs := fun W (hW : Kd.C k59 W A0 l0.length l0) => finder_first.calls 36 pairs_Same.f same_at eg A0 c0 l0 a1 W hW hq
 rcases idxI_spec (pOf pairs_Same.f a1) l0 with ⟨e0, hall⟩ | ⟨k0, hk0, e0, hpk, hbef⟩
 ·rw [if_pos (by rw [e0]; decide)] at h
  rw [e0] at hfs
  have HFS := Aside0.mk hfs
  have HA := am_ (fun W (hW : Kd.C k59 W A0 l0.length l0) => pairs_Add.calls A0 c0 l0 a1 a2 r W hW hc0 h)
  have HR := Aside0.mk hr0
  clear hfs h hr0 hq eg hall e0 hc0
  go_enter Tryz.func84, Tryz.ntmps84
  go_wp2_with (first | (go_at_call 99; refine (HFS.out _ HR.out).mono ?_; rintro e w2 ⟨rfl, hb⟩; have HB := Aside0.mk hb; clear hb) | (go_at_call 85; refine (HA.out _ (by exact Kd.C_below HR.out HB.out)).mono ?_; rintro e w3 ⟨v0, rfl, hR, hb⟩; have HV := Aside0.mk hR; have HB3 := Aside0.mk hb; clear hR hb))
  go_ret
  exact ⟨_, rfl, Kd.R_lower HV.out HB.out.size, HB.out.trans (HB3.out.mono HB.out.size)⟩
 ·rw [if_neg (by rw [e0]; omega)] at h
  rw [e0] at hfs h
  simp only [Int.toNat_natCast] at h
  obtain ⟨d, hd, rfl⟩ := Option.map_eq_some_iff.1 h
  clear h
  have hdl : d = l0.filter (fun x => !pOf pairs_Same.f a1 x) ∧ l0.length * 32 ≤ 140737488355328 := by
   by_cases hx : qAll pairs_Same.f l0 a1 = true ∧ l0.length * 32 ≤ 140737488355328
   ·rw [pairs_Drop.f, if_pos hx] at hd
    exact ⟨(Option.some.inj hd).symm, hx.2⟩
   ·rw [pairs_Drop.f, if_neg hx] at hd; cases hd
  obtain ⟨hr1, hr2⟩ := set_room (pOf pairs_Same.f a1) l0 k0 hk0 hpk hbef
  rw [← hdl.1] at hr1 hr2
  have hlim : (d.length + 1) * 32 ≤ 140737488355328 := Nat.le_trans (Nat.mul_le_mul_right _ hr1) hdl.2
  have HFS := Aside0.mk hfs
  have HD := am_ (fun W (hW : Kd.C k59 W A0 l0.length l0) => drop_at A0 c0 l0 a1 d W hW hc0 hd)
  have HR := Aside0.mk hr0
  have HM := am_ (show ∃ x ∈ l0, pOf pairs_Same.f a1 x = true from ⟨_, List.getElem_mem hk0, hpk⟩)
  have HN := am_ (And.intro hr1 (And.intro hr2 hlim))
  have hk1 : ¬ ((k0 : Int) < 0) := by omega
  clear hfs hr0 hq eg hbef hpk e0 hc0 hd hdl hr1 hr2 hlim hk0
  go_enter Tryz.func84, Tryz.ntmps84
  go_wp2_with (first | (go_at_call 99; refine (HFS.out _ HR.out).mono ?_; rintro e w2 ⟨rfl, hb⟩; have HB := Aside0.mk hb; clear hb) | (go_at_call 86; refine (HD.out _ (by exact Kd.C_below HR.out HB.out)).mono ?_; rintro e w3 ⟨v0, rfl, ⟨hR, hcap⟩, hb⟩; obtain ⟨g1, c, rfl, hcc⟩ := hcap HM.out; have HV := Aside0.mk hR; have HB3 := Aside0.mk hb; have HC := Aside0.mk hcc; clear hR hb hcap hcc))
  have hg1 : g1 < w3.heap.size := by
   obtain ⟨g, e, -, -, -, hrow⟩ := row2_of HV.out
   cases e
   exact hrow.lt
  refine (insert_at w.heap.size g1 c d _ (by exact Kd.R_lower (Kd.R_below HV.out ((Below.refl _ w3).alloc (Nat.le_refl _) _)) HB.out.size) (by have := HB.out.size; have := HB3.out.size; simp; omega) (Nat.le_trans HN.out.1 HC.out) HN.out.2.2 k0 HN.out.2.1 _ _ (by omega) (⟨a1, a2⟩ : S59) (by unfold World.alloc; exact Array.getElem?_push_size)).mono ?_
  rintro e w4 ⟨v1, rfl, hR, hb⟩
  have HV4 := Aside0.mk hR
  have HB4 := am_ (Below.trans (((HB.out.trans (HB3.out.mono HB.out.size)).alloc (by have := HB.out.size; have := HB3.out.size; omega) _)) hb)
  clear hR hb
  go_wp2
  go_ret
  exact ⟨_, rfl, HV4.out, HB4.out⟩

/-! ### path_tail: function 88 -/
def path_tail.f (a0_0 : Int) (a0_1 : ByteArray) (a1 : ByteArray) : Option (ByteArray) := if a0_1.toList = ([47] : List UInt8) then (if a1.toList = ([47] : List UInt8) then (some (⟨#[]⟩ : ByteArray)) else (some a1)) else (if 0 ≤ (a0_1.size : Int) then (if (a0_1.size : Int) ≤ (a1.size : Int) then (some (a1.extract a0_1.size a1.size)) else (none)) else (none))
set_option maxHeartbeats 8000000 in
set_option maxRecDepth 100000 in
theorem path_tail.calls (a0_0 : Int) (a0_1 : ByteArray) (a1 : ByteArray) (r : ByteArray) (w : World) (h : path_tail.f a0_0 a0_1 a1 = some r) :
  Calls Tryz.prog 88 #[.agg #[.int .i64 a0_0, .string a0_1], .string a1] w fun e w' => e = .returned (.string r) ∧ Below w.heap.size w w' := by
 have hu30 := Tryz.underlying30
 have HB := am_ (Below.refl w.heap.size w)
 have H : (if a0_1.toList = ([47] : List UInt8) then (if a1.toList = ([47] : List UInt8) then (some (⟨#[]⟩ : ByteArray)) else (some a1)) else (if 0 ≤ (a0_1.size : Int) then (if (a0_1.size : Int) ≤ (a1.size : Int) then (some (a1.extract a0_1.size a1.size)) else (none)) else (none))) = some r := h
 clear h
 by_cases c3 : a0_1.toList = ([47] : List UInt8)
 ·rw [if_pos c3] at H
  have c3b0 : (a0_1.toList == ([47] : List UInt8)) = true := beq_iff_eq.mpr c3
  have c3b1 : (a0_1.toList != ([47] : List UInt8)) = false := bne_eq_false_iff_eq.mpr c3
  clear c3
  by_cases c4 : a1.toList = ([47] : List UInt8)
  ·rw [if_pos c4] at H
   have c4b0 : (a1.toList == ([47] : List UInt8)) = true := beq_iff_eq.mpr c4
   have c4b1 : (a1.toList != ([47] : List UInt8)) = false := bne_eq_false_iff_eq.mpr c4
   clear c4
   obtain rfl := Option.some.inj H
   go_enter Tryz.func88, Tryz.ntmps88
   go_wp2_with (first | ((with_reducible refine gate_dst (N := 2) rfl ?_); refine box_event ?hg (N := 2) ?hd (cs := #[.int .i64 a0_0, .string a0_1]) (t := 30) ?hr ?_; (case hd => rfl); (case hg => rfl); (case hr => first | (go_simp; done) | (go_simp; rfl)); intro gb144 hg w5 hbox hb; have n0_ := am_ (below_step (bel_ HB.out) hb); have n1_ := am_ (hbox); have n2_ := am_ ((by rw [hg]; exact (below_size (bel_ HB.out)) : w.heap.size ≤ gb144)); have n3_ := am_ ((by rw [hg]; exact (below_size (bel_ HB.out)) : w.heap.size ≤ gb144)); clear HB; have HB := n0_; have BK144 := n1_; have GW144 := n2_; have GE144 := n3_; clear n0_ n1_ n2_ n3_ hb hbox hg; have hcz6_0 : w5.cell? ⟨gb144, 0, none⟩ = some (.int .i64 a0_0) := (blk_cell BK144.out 0).trans rfl; have hcz6_1 : w5.cell? ⟨gb144, 1, none⟩ = some (.string a0_1) := (blk_cell BK144.out 1).trans rfl; have hfz6_0 := blk_frozen BK144.out 0; have hfz6_1 := blk_frozen BK144.out 1))
   go_ret
   exact ⟨fi_, bel_ HB.out⟩
  ·rw [if_neg c4] at H
   have c4b0 : (a1.toList == ([47] : List UInt8)) = false := beq_eq_false_iff_ne.mpr c4
   have c4b1 : (a1.toList != ([47] : List UInt8)) = true := bne_iff_ne.mpr c4
   obtain rfl := Option.some.inj H
   go_enter Tryz.func88, Tryz.ntmps88
   go_wp2_with (first | ((with_reducible refine gate_dst (N := 2) rfl ?_); refine box_event ?hg (N := 2) ?hd (cs := #[.int .i64 a0_0, .string a0_1]) (t := 30) ?hr ?_; (case hd => rfl); (case hg => rfl); (case hr => first | (go_simp; done) | (go_simp; rfl)); intro gb144 hg w7 hbox hb; have n0_ := am_ (below_step (bel_ HB.out) hb); have n1_ := am_ (hbox); have n2_ := am_ ((by rw [hg]; exact (below_size (bel_ HB.out)) : w.heap.size ≤ gb144)); have n3_ := am_ ((by rw [hg]; exact (below_size (bel_ HB.out)) : w.heap.size ≤ gb144)); clear HB; have HB := n0_; have BK144 := n1_; have GW144 := n2_; have GE144 := n3_; clear n0_ n1_ n2_ n3_ hb hbox hg; have hcz8_0 : w7.cell? ⟨gb144, 0, none⟩ = some (.int .i64 a0_0) := (blk_cell BK144.out 0).trans rfl; have hcz8_1 : w7.cell? ⟨gb144, 1, none⟩ = some (.string a0_1) := (blk_cell BK144.out 1).trans rfl; have hfz8_0 := blk_frozen BK144.out 0; have hfz8_1 := blk_frozen BK144.out 1))
   go_ret
   exact ⟨fi_, bel_ HB.out⟩
 ·rw [if_neg c3] at H
  have c3b0 : (a0_1.toList == ([47] : List UInt8)) = false := beq_eq_false_iff_ne.mpr c3
  have c3b1 : (a0_1.toList != ([47] : List UInt8)) = true := bne_iff_ne.mpr c3
  by_cases c9 : 0 ≤ (a0_1.size : Int)
  ·rw [if_pos c9] at H
   have c9b0 := eq_true c9
   have c9b1 : decide (0 ≤ (a0_1.size : Int)) = true := decide_eq_true c9
   clear c9
   by_cases c10 : (a0_1.size : Int) ≤ (a1.size : Int)
   ·rw [if_pos c10] at H
    have c10b0 := eq_true c10
    have c10b1 : decide ((a0_1.size : Int) ≤ (a1.size : Int)) = true := decide_eq_true c10
    clear c10
    obtain rfl := Option.some.inj H
    go_enter Tryz.func88, Tryz.ntmps88
    go_wp2_with (first | ((with_reducible refine gate_dst (N := 2) rfl ?_); refine box_event ?hg (N := 2) ?hd (cs := #[.int .i64 a0_0, .string a0_1]) (t := 30) ?hr ?_; (case hd => rfl); (case hg => rfl); (case hr => first | (go_simp; done) | (go_simp; rfl)); intro gb144 hg w11 hbox hb; have n0_ := am_ (below_step (bel_ HB.out) hb); have n1_ := am_ (hbox); have n2_ := am_ ((by rw [hg]; exact (below_size (bel_ HB.out)) : w.heap.size ≤ gb144)); have n3_ := am_ ((by rw [hg]; exact (below_size (bel_ HB.out)) : w.heap.size ≤ gb144)); clear HB; have HB := n0_; have BK144 := n1_; have GW144 := n2_; have GE144 := n3_; clear n0_ n1_ n2_ n3_ hb hbox hg; have hcz12_0 : w11.cell? ⟨gb144, 0, none⟩ = some (.int .i64 a0_0) := (blk_cell BK144.out 0).trans rfl; have hcz12_1 : w11.cell? ⟨gb144, 1, none⟩ = some (.string a0_1) := (blk_cell BK144.out 1).trans rfl; have hfz12_0 := blk_frozen BK144.out 0; have hfz12_1 := blk_frozen BK144.out 1))
    go_ret
    exact ⟨fi_, bel_ HB.out⟩
   ·rw [if_neg c10] at H
    exact absurd H (by simp)
  ·rw [if_neg c9] at H
   exact absurd H (by simp)

end Go.Proofs.YtfdopmjgiakcdaaGreatDoor.Q
