-- written by wip/tool/hprint.py of this repo: the kit's print, with contracts by hand joined; Lean checks it.
import Derived.Test.YtpmllmfamjpinaaDoorPx0
namespace Go.Proofs.YtpmllmfamjpinaaDoor.P
open Go.RowKit Go.Proofs.YtpmllmfamjpinaaDoorW.PrintWords Go.Proofs.YtpmllmfamjpinaaDoorW.PrintLast Go.Proofs.YtpmllmfamjpinaaDoorW.PrintMore
attribute [local go_sem] max2_int min2_int max_two min_two max_three min_three max_four min_four   -- for this text's walks alone
set_option linter.unusedVariables false
set_option linter.unusedSimpArgs false

/-! ### stringslite_IndexByte: function 48 -/
def stringslite_IndexByte.f (a0 : ByteArray) (a1 : Int) : Option (Int) := some (firstIdx a0 a1.toNat.toUInt8)
set_option maxHeartbeats 4000000 in
theorem stringslite_IndexByte.calls (a0 : ByteArray) (a1 : Int) (r : Int) (w : World) (h : stringslite_IndexByte.f a0 a1 = some r) :
  Calls Tryd.prog 48 #[.string a0, .int .u8 a1] w fun e w' => e = .returned (.int .i64 r) ∧ Drawn0 w w' := by
 obtain rfl := Option.some.inj h
 clear h
 have hov : ∀ W, (callFunc 74 #[.string a0, .int .u8 a1]).run Tryd.prog W = .ok (.value (.int .i64 (firstIdx a0 a1.toNat.toUInt8))) W := fun W => by
  rw [run_callFunc_extern Tryd.func74 kr_ kr_ kr_ (e := Extern.BytealgIndexByte.indexByte) kr_, run_indexByte_string]
  rfl
 go_enter Tryd.func48, Tryd.ntmps48
 go_wp2_with (simp only [hov])
 go_ret
 exact ⟨rfl, Drawn0.refl _⟩

/-! ### stringslite_Index: function 33 -/
def stringslite_Index.j0 : Nat → ByteArray → ByteArray → Int → Bool → Option (Int)
 | 0, _, _, _, _ => none
 | k + 1, x0, x1, x5, x16 => if x16 = true then (some 0) else (if x5 = 1 then (if 0 < (x1.size : Int) then ((stringslite_IndexByte.f x0 (bt x1 0)).bind fun t101 => (some t101)) else (none)) else (if x5 ≥ (x0.size : Int) then (some (-1)) else (none)))
def stringslite_Index.f (k : Nat) (a0 : ByteArray) (a1 : ByteArray) : Option (Int) := if (a1.size : Int) = 0 then (stringslite_Index.j0 k a0 a1 (a1.size : Int) true) else (stringslite_Index.j0 k a0 a1 (a1.size : Int) (a1.toList == a0.toList))
theorem stringslite_Index.mono_l : ∀ k, (∀ y0 y1 y2 y3, LeO (stringslite_Index.j0 k y0 y1 y2 y3) (stringslite_Index.j0 (k + 1) y0 y1 y2 y3))
 | 0 => fun _ _ _ _ r h => by simp [stringslite_Index.j0] at h
 | k + 1 => by
  have ih0 := stringslite_Index.mono_l k
  ·intro y0 y1 y2 y3
   unfold stringslite_Index.j0
   repeat' first
   | (with_reducible exact ih0 _ _ _ _)
   | (with_reducible exact LeO.refl _)
   | (with_reducible exact LeO.none _)
   | (with_reducible refine LeO.ite ?_ ?_)
   | (with_reducible refine LeO.bind ?_ (fun _ => ?_))
   | exact ih0 _ _ _ _
   | exact LeO.none _
   | refine LeO.ite ?_ ?_
   | refine LeO.bind ?_ (fun _ => ?_)
theorem stringslite_Index.mono : ∀ a0 a1 k, LeO (stringslite_Index.f k a0 a1) (stringslite_Index.f (k + 1) a0 a1) := by
 intro a0 a1 k
 have ih0 := stringslite_Index.mono_l k
 unfold stringslite_Index.f
 repeat' first
   | (with_reducible exact ih0 _ _ _ _)
   | (with_reducible exact LeO.refl _)
   | (with_reducible exact LeO.none _)
   | (with_reducible refine LeO.ite ?_ ?_)
   | (with_reducible refine LeO.bind ?_ (fun _ => ?_))
   | exact ih0 _ _ _ _
   | exact LeO.none _
   | refine LeO.ite ?_ ?_
   | refine LeO.bind ?_ (fun _ => ?_)
set_option maxHeartbeats 8000000 in
set_option maxRecDepth 100000 in
theorem stringslite_Index.calls (k : Nat) (a0 : ByteArray) (a1 : ByteArray) (r : Int) (w : World) (h : stringslite_Index.f k a0 a1 = some r) :
  Calls Tryd.prog 33 #[.string a0, .string a1] w fun e w' => e = .returned (.int .i64 r) ∧ Drawn0 w w' := by
 have H : (if (a1.size : Int) = 0 then (stringslite_Index.j0 k a0 a1 (a1.size : Int) true) else (stringslite_Index.j0 k a0 a1 (a1.size : Int) (a1.toList == a0.toList))) = some r := h
 clear h
 have HC3 := Aside0.mk H
 clear H
 go_enter Tryd.func33, Tryd.ntmps33
 go_upto_region 2 with (fail)
 go_cut [16] (fun v16 wc => ∃ (kq : Nat) (x16_2 : Bool), v16 = .bool x16_2 ∧ Aside0 (stringslite_Index.j0 kq a0 a1 (a1.size : Int) x16_2 = some r) ∧ Aside0 (kq ≤ k) ∧ Drawn0 w wc)
 case first =>
  have H := HC3.out
  clear HC3
  by_cases c4 : (a1.size : Int) = 0
  ·rw [if_pos c4] at H
   have c4b0 : ((a1.size : Int) == 0) = true := beq_iff_eq.mpr c4
   have c4b1 : ((a1.size : Int) != 0) = false := bne_eq_false_iff_eq.mpr c4
   clear c4
   (first | rw [c4b0] | rw [c4b1] | rw [c4b2] | (simp only [i64_w, i32_w]; rw [c4b0]) | skip)
   have H' := Aside0.mk H
   clear H
   go_wp2
   go_meet
   case rel => exact ⟨_, (true), sd_, H', ⟨by first | omega | exact Nat.le_refl _⟩, by repeat (first | exact Drawn0.refl _ | apply Drawn0.step)⟩
  ·rw [if_neg c4] at H
   have c4b0 : ((a1.size : Int) == 0) = false := beq_eq_false_iff_ne.mpr c4
   have c4b1 : ((a1.size : Int) != 0) = true := bne_iff_ne.mpr c4
   (first | rw [c4b0] | rw [c4b1] | rw [c4b2] | (simp only [i64_w, i32_w]; rw [c4b0]) | skip)
   have H' := Aside0.mk H
   clear H
   go_wp2
   go_meet
   case rel => exact ⟨_, ((a1.toList == a0.toList)), sd_, H', ⟨by first | omega | exact Nat.le_refl _⟩, by repeat (first | exact Drawn0.refl _ | apply Drawn0.step)⟩
 case rest =>
  clear HC3
  try clear p2
  try clear c3
  try clear c4
  try clear c4b0
  try clear c4b1
  try clear c4b2
  obtain ⟨kq, x16_2, rfl, HA, HJ2, ⟨mc2, rfl⟩⟩ := hcut
  cases kq with
  | zero => exact absurd HA.out (by simp [stringslite_Index.j0])
  | succ kj2 =>
   have H := HA.out
   clear HA
   simp only [stringslite_Index.j0] at H
   by_cases c5 : x16_2 = true
   ·subst c5
    have H1 : (some 0) = some r := by rw [if_pos rfl] at H; exact H
    clear H
    have H := H1
    clear H1
    obtain rfl := Option.some.inj H
    go_wp2
    go_ret
    exact ⟨by first | rfl | (simp; done) | (simp [*]; done) | (simp [bne_nil_isEmpty, beq_nil_isEmpty]; done) | (simp [*, bne_nil_isEmpty, beq_nil_isEmpty]; done), by repeat (first | exact Drawn0.refl _ | apply Drawn0.step)⟩
   ·replace c5 := Bool.eq_false_iff.mpr c5
    subst c5
    have H1 : (if (a1.size : Int) = 1 then (if 0 < (a1.size : Int) then ((stringslite_IndexByte.f a0 (bt a1 0)).bind fun t101 => (some t101)) else (none)) else (if (a1.size : Int) ≥ (a0.size : Int) then (some (-1)) else (none))) = some r := by rw [if_neg (show ¬ (false = true) by decide)] at H; exact H
    clear H
    have H := H1
    clear H1
    by_cases c6 : (a1.size : Int) = 1
    ·rw [if_pos c6] at H
     have c6b0 : ((a1.size : Int) == 1) = true := beq_iff_eq.mpr c6
     have c6b1 : ((a1.size : Int) != 1) = false := bne_eq_false_iff_eq.mpr c6
     clear c6
     by_cases c7 : 0 < (a1.size : Int)
     ·rw [if_pos c7] at H
      have c7b0 : decide (0 < (a1.size : Int)) = true := decide_eq_true c7
      have c7b1 : decide (0 < a1.size) = true := decide_eq_true (by omega)
      clear c7
      replace H := Option.bind_eq_some_iff.mp H
      obtain ⟨t101, A90, H⟩ := H
      replace H : (some t101) = some r := H
      have A9 := Aside0.mk A90
      clear A90
      obtain rfl := Option.some.inj H
      have p8 : 0 ≤ (0 : Int) := (by omega)
      have q8 : 0 < a1.size := (by have : (0 : Int) < (a1.size : Int) := of_decide_eq_true as_; omega)
      have hx8 : ∀ h : 0 < a1.size, ((a1[0]'h).toNat : Int) = bt a1 0 := bt_at a1 0
      clear p8
      have qi8 : (0 < (a1.size : Int)) = True := eq_true (of_decide_eq_true as_)
      replace q8 := eq_true q8
      go_wp2_with (first | ((with_reducible refine gate_callee (f := 48) rfl ?_); refine goesL_ (some 30) rfl rfl Tryd.func48 kr_ rfl #[.string a0, .int .u8 (bt a1 0)] rfl rl_ ?_; (with_reducible refine (stringslite_IndexByte.calls a0 (bt a1 0) t101 _ A9.out).mono ?_); rintro e w' ⟨rfl, ⟨nd, rfl⟩⟩; refine ⟨_, rfl, ?_⟩))
      go_ret
      exact ⟨by first | rfl | (simp; done) | (simp [*]; done) | (simp [bne_nil_isEmpty, beq_nil_isEmpty]; done) | (simp [*, bne_nil_isEmpty, beq_nil_isEmpty]; done), by repeat (first | exact Drawn0.refl _ | apply Drawn0.step)⟩
     ·rw [if_neg c7] at H
      exact absurd H (by simp)
    ·rw [if_neg c6] at H
     have c6b0 : ((a1.size : Int) == 1) = false := beq_eq_false_iff_ne.mpr c6
     have c6b1 : ((a1.size : Int) != 1) = true := bne_iff_ne.mpr c6
     by_cases c10 : (a1.size : Int) ≥ (a0.size : Int)
     ·rw [if_pos c10] at H
      have c10b0 : decide ((a0.size : Int) ≤ (a1.size : Int)) = true := decide_eq_true c10
      have c10b1 : decide (a0.size ≤ a1.size) = true := decide_eq_true (Int.ofNat_le.mp c10)
      clear c10
      obtain rfl := Option.some.inj H
      go_wp2
      go_ret
      exact ⟨by first | rfl | (simp; done) | (simp [*]; done) | (simp [bne_nil_isEmpty, beq_nil_isEmpty]; done) | (simp [*, bne_nil_isEmpty, beq_nil_isEmpty]; done), by repeat (first | exact Drawn0.refl _ | apply Drawn0.step)⟩
     ·rw [if_neg c10] at H
      exact absurd H (by simp)

/-! ### strings_Index: function 20 -/
def strings_Index.f (k : Nat) (a0 : ByteArray) (a1 : ByteArray) : Option (Int) := (stringslite_Index.f k a0 a1).bind fun t102 => (some t102)
theorem strings_Index.mono : ∀ a0 a1 k, LeO (strings_Index.f k a0 a1) (strings_Index.f (k + 1) a0 a1) := by
 intro a0 a1 k
 unfold strings_Index.f
 repeat' first
   | (with_reducible exact stringslite_Index.mono _ _ _)
   | (with_reducible exact LeO.refl _)
   | (with_reducible exact LeO.none _)
   | (with_reducible refine LeO.ite ?_ ?_)
   | (with_reducible refine LeO.bind ?_ (fun _ => ?_))
   | exact stringslite_Index.mono _ _ _
   | exact LeO.none _
   | refine LeO.ite ?_ ?_
   | refine LeO.bind ?_ (fun _ => ?_)
set_option maxHeartbeats 8000000 in
set_option maxRecDepth 100000 in
theorem strings_Index.calls (k : Nat) (a0 : ByteArray) (a1 : ByteArray) (r : Int) (w : World) (h : strings_Index.f k a0 a1 = some r) :
  Calls Tryd.prog 20 #[.string a0, .string a1] w fun e w' => e = .returned (.int .i64 r) ∧ Drawn0 w w' := by
 have H : ((stringslite_Index.f k a0 a1).bind fun t102 => (some t102)) = some r := h
 clear h
 replace H := Option.bind_eq_some_iff.mp H
 obtain ⟨t102, A30, H⟩ := H
 replace H : (some t102) = some r := H
 have A3 := Aside0.mk A30
 clear A30
 obtain rfl := Option.some.inj H
 go_enter Tryd.func20, Tryd.ntmps20
 go_wp2_with (first | ((with_reducible refine gate_callee (f := 33) rfl ?_); refine goesL_ (some 7) rfl rfl Tryd.func33 kr_ rfl #[.string a0, .string a1] rfl rl_ ?_; (with_reducible refine (stringslite_Index.calls k a0 a1 t102 _ A3.out).mono ?_); rintro e w' ⟨rfl, ⟨nd, rfl⟩⟩; refine ⟨_, rfl, ?_⟩))
 go_ret
 exact ⟨by first | rfl | (simp; done) | (simp [*]; done) | (simp [bne_nil_isEmpty, beq_nil_isEmpty]; done) | (simp [*, bne_nil_isEmpty, beq_nil_isEmpty]; done), by repeat (first | exact Drawn0.refl _ | apply Drawn0.step)⟩

/-! ### dns_Fold: function 59 -/
def dns_Fold.b (c : UInt8) : UInt8 := if 65 ≤ c.toNat ∧ c.toNat ≤ 90 then UInt8.ofNat (c.toNat + 32) else c
def dns_Fold.f (a0 : ByteArray) : Option (ByteArray) := if a0.size ≤ 9223372036854775807 then some ⟨(a0.data.toList.map dns_Fold.b).toArray⟩ else none
/-- The octets as numbers, the first k of them folded. -/
def dns_Fold.at_ (s : ByteArray) (k j : Nat) : Int := if j < k then ((dns_Fold.b (s.data.toList.getD j 0)).toNat : Int) else ((s.data.toList.getD j 0).toNat : Int)
theorem dns_Fold.bits_or (c : Int) (h0 : 65 ≤ c) (h1 : c ≤ 90) : Go.bits .or .u8 c 32 = c + 32 := by
 have h : ∀ n : Fin 26, Go.bits .or .u8 (65 + (n.val : Int)) 32 = 97 + (n.val : Int) := by decide
 have := h ⟨(c - 65).toNat, by omega⟩
 simp only [Int.toNat_of_nonneg (show 0 ≤ c - 65 by omega)] at this
 rw [show (65 : Int) + (c - 65) = c by omega, show (97 : Int) + (c - 65) = c + 32 by omega] at this
 exact this
theorem dns_Fold.in_ (c : UInt8) (h0 : 65 ≤ c.toNat) (h1 : c.toNat ≤ 90) : ((dns_Fold.b c).toNat : Int) = (c.toNat : Int) + 32 := by
 unfold dns_Fold.b
 rw [if_pos ⟨h0, h1⟩, UInt8.toNat_ofNat']
 omega
theorem dns_Fold.out_ (c : UInt8) (h : ¬ (65 ≤ c.toNat ∧ c.toNat ≤ 90)) : dns_Fold.b c = c := by
 unfold dns_Fold.b
 rw [if_neg h]
theorem dns_Fold.frozen_ (w : World) (e : TypeId) (s : ByteArray) (j : Nat) (hj : j < s.size) : (Lib.bytesWorld w e s).frozen? ⟨w.heap.size, j, none⟩ = false := by
 have h := Lib.bytesWorld_at_new w e s
 have hl : s.size ≤ (Lib.bytesCells w e s).size := by
  have hd : s.data.size = s.size := rfl
  simp [Lib.bytesCells] <;> omega
 simp [World.frozen?, h]
 try omega
theorem dns_Fold.below_ (w : World) (e : TypeId) (s : ByteArray) : Below w.heap.size w (Lib.bytesWorld w e s) :=
 ⟨rfl, rfl, rfl, by rw [Lib.bytesWorld_size]; omega, fun i hi => Lib.bytesWorld_at_old w e s i hi⟩
set_option maxHeartbeats 8000000 in
set_option maxRecDepth 100000 in
theorem dns_Fold.calls (a0 : ByteArray) (r : ByteArray) (w : World) (h : dns_Fold.f a0 = some r) :
  Calls Tryd.prog 59 #[.string a0] w fun e w' => e = .returned (.string r) ∧ Below w.heap.size w w' := by
 have hmx : a0.size ≤ 9223372036854775807 := by
  by_cases hx : a0.size ≤ 9223372036854775807
  ·exact hx
  ·rw [dns_Fold.f, if_neg hx] at h; cases h
 rw [dns_Fold.f, if_pos hmx] at h
 have H := Aside0.mk h
 clear h
 have hcv := fun (W : World) => Lib.run_convert_string_bytes (P := Tryd.prog) W 9 33 5 a0 Tryd.underlying9 Tryd.underlying33 Tryd.underlying5
 have hsz : a0.data.toList.length = a0.size := data_length a0
 have HSZ := Aside0.mk hsz
 clear hsz
 go_enter Tryd.func59, Tryd.ntmps59
 go_wp2
 clear hcv
 have hc0 := am_ (fun j (hj : j < a0.size) => Lib.bytesWorld_cell w 5 a0 j hj)
 have hf0 := am_ (fun j (hj : j < a0.size) => dns_Fold.frozen_ w 5 a0 j hj)
 have hb0 := am_ (dns_Fold.below_ w 5 a0)
 generalize Lib.bytesWorld w 5 a0 = W1 at hc0 hf0 hb0 ⊢
 generalize grownCap w a0.size 0 5 = cp
 go_loopw [10] (fun i wr => ∃ k : Nat, k ≤ a0.size ∧ i = .int .i64 k ∧ Aside0 (Below w.heap.size w wr) ∧ Aside0 (∀ j, j < a0.size → wr.cell? ⟨w.heap.size, j, none⟩ = some (.int .u8 (dns_Fold.at_ a0 k j))) ∧ Aside0 (∀ j, j < a0.size → wr.frozen? ⟨w.heap.size, j, none⟩ = false)) (fun i _ => a0.size - (intOf i).toNat)
 case atStart => exact ⟨0, Nat.zero_le _, rfl, hb0, ⟨fun j hj => by rw [hc0.out j hj]; unfold dns_Fold.at_; rw [if_neg (by omega)]⟩, hf0⟩
 case round =>
  clear hb0 hc0 hf0
  obtain ⟨k, hk, rfl, hb, hc, hf⟩ := hrel
  by_cases hlt : k < a0.size
  ·have hck := hc.out k hlt
   have hfk := hf.out k hlt
   have hwb := hb.out.size
   have hat : dns_Fold.at_ a0 k k = ((a0.data.toList.getD k 0).toNat : Int) := by unfold dns_Fold.at_; rw [if_neg (by omega)]
   rw [hat] at hck
   clear hat
   have hn := (a0.data.toList.getD k 0).toNat_lt
   have hst : ∀ j, j ≠ k → dns_Fold.at_ a0 (k + 1) j = dns_Fold.at_ a0 k j := by
    intro j hj
    unfold dns_Fold.at_
    by_cases h1 : j < k
    ·rw [if_pos h1, if_pos (by omega)]
    ·rw [if_neg h1, if_neg (by omega)]
   have HST := Aside0.mk hst
   have hsk : dns_Fold.at_ a0 (k + 1) k = ((dns_Fold.b (a0.data.toList.getD k 0)).toNat : Int) := by unfold dns_Fold.at_; rw [if_pos (by omega)]
   have HSK := Aside0.mk hsk
   clear hst hsk
   have hltz : (k : Int) < (a0.size : Int) := by omega
   have HIN := am_ (dns_Fold.in_ (a0.data.toList.getD k 0))
   have HOUT := am_ (dns_Fold.out_ (a0.data.toList.getD k 0))
   generalize a0.data.toList.getD k 0 = c at hck hn HSK HIN HOUT
   by_cases h1 : 65 ≤ c.toNat
   ·have b1 : decide (65 ≤ (c.toNat : Int)) = true := decide_eq_true (by omega)
    by_cases h2 : c.toNat ≤ 90
    ·have b2 : decide ((c.toNat : Int) ≤ 90) = true := decide_eq_true (by omega)
     have hor := dns_Fold.bits_or (c.toNat : Int) (by omega) (by omega)
     rw [HIN.out h1 h2] at HSK
     clear HIN HOUT h1 h2
     go_wp2
     go_roundw
     case rel =>
      refine ⟨k + 1, by omega, by go_num, ⟨hb.out.setCell (p := ⟨w.heap.size, k, none⟩) (Nat.le_refl _) _⟩, ⟨fun j hj => ?_⟩, ⟨fun j hj => by rw [World.frozen?_setCell]; exact hf.out j hj⟩⟩
      by_cases hjk : j = k
      ·subst hjk
       rw [HSK.out]
       exact World.cell?_setCell_same _ _ _ (hc.out j hj)
      ·rw [HST.out j hjk, World.cell?_setCell_other _ _ _ _ (by intro h; injection h with _ h _; exact hjk h.symm)]
       exact hc.out j hj
     case measure => simp [intOf]; omega
    ·have b2 : decide ((c.toNat : Int) ≤ 90) = false := decide_eq_false (by omega)
     rw [HOUT.out (by omega)] at HSK
     clear HIN HOUT h1 h2
     go_wp2
     go_roundw
     case rel =>
      refine ⟨k + 1, by omega, by go_num, hb, ⟨fun j hj => ?_⟩, hf⟩
      by_cases hjk : j = k
      ·subst hjk
       rw [HSK.out]
       exact hck
      ·rw [HST.out j hjk]; exact hc.out j hj
     case measure => simp [intOf]; omega
   ·have b1 : decide (65 ≤ (c.toNat : Int)) = false := decide_eq_false (by omega)
    rw [HOUT.out (by omega)] at HSK
    clear HIN HOUT h1
    go_wp2
    go_roundw
    case rel =>
     refine ⟨k + 1, by omega, by go_num, hb, ⟨fun j hj => ?_⟩, hf⟩
     by_cases hjk : j = k
     ·subst hjk
      rw [HSK.out]
      exact hck
     ·rw [HST.out j hjk]; exact hc.out j hj
    case measure => simp [intOf]; omega
  ·have hge : decide ((k : Int) < (a0.size : Int)) = false := decide_eq_false (by omega)
   obtain rfl : k = a0.size := by omega
   have hcv := fun dst hd => run_convert_bytes_arg (P := Tryd.prog) wr 33 5 Tryd.underlying33 Tryd.underlying5 w.heap.size 0 a0.size cp (a0.data.toList.map fun b => ((dns_Fold.b b).toNat : Int)) (by rw [List.length_map]; exact HSZ.out) (fun i hi => by
    rw [Nat.zero_add, hc.out i hi]
    unfold dns_Fold.at_
    rw [if_pos hi]
    have hl : i < a0.data.toList.length := by rw [HSZ.out]; exact hi
    simp [List.getD, List.getElem?_eq_getElem hl]) dst hd
   have hcv2 := hcv 9 Tryd.underlying9
   clear hcv
   have hr : r = strOfNums (a0.data.toList.map fun b => ((dns_Fold.b b).toNat : Int)) := by
    have h := Option.some.inj H.out
    rw [← h]
    unfold strOfNums
    congr 2
    rw [List.map_map]
    refine List.map_congr_left fun b _ => ?_
    simp
   have HR := Aside0.mk hr
   clear hr H
   generalize strOfNums (a0.data.toList.map fun b => ((dns_Fold.b b).toNat : Int)) = rr at hcv2 HR
   obtain rfl := HR.out
   clear HR
   go_wp2
   go_ret
   exact ⟨rfl, hb.out⟩

/-! ### pairs_Same: function 58 -/
def pairs_Same.f (a0 : ByteArray) (a1 : ByteArray) : Option (Bool) := (dns_Fold.f a0).bind fun t103 => ((dns_Fold.f a1).bind fun t104 => (some (t103.toList == t104.toList)))
set_option maxHeartbeats 8000000 in
set_option maxRecDepth 100000 in
theorem pairs_Same.calls (a0 : ByteArray) (a1 : ByteArray) (r : Bool) (w : World) (h : pairs_Same.f a0 a1 = some r) :
  Calls Tryd.prog 58 #[.string a0, .string a1] w fun e w' => e = .returned (.bool r) ∧ Below w.heap.size w w' := by
 have HB := am_ (Below.refl w.heap.size w)
 have H : ((dns_Fold.f a0).bind fun t103 => ((dns_Fold.f a1).bind fun t104 => (some (t103.toList == t104.toList)))) = some r := h
 clear h
 replace H := Option.bind_eq_some_iff.mp H
 obtain ⟨t103, A30, H⟩ := H
 replace H : ((dns_Fold.f a1).bind fun t104 => (some (t103.toList == t104.toList))) = some r := H
 have A3 := Aside0.mk A30
 clear A30
 replace H := Option.bind_eq_some_iff.mp H
 obtain ⟨t104, A40, H⟩ := H
 replace H : (some (t103.toList == t104.toList)) = some r := H
 have A4 := Aside0.mk A40
 clear A40
 obtain rfl := Option.some.inj H
 go_enter Tryd.func58, Tryd.ntmps58
 go_wp2_with (first | ((with_reducible refine gate_callee (f := 59) rfl ?_); refine goesL_ (some 6) rfl rfl Tryd.func59 kr_ rfl #[.string a0] rfl rl_ ?_; (with_reducible refine (dns_Fold.calls a0 t103 _ A3.out).mono ?_); rintro e w5 ⟨rfl, hb⟩; refine ⟨_, rfl, ?_⟩; have n0_ := am_ (below_step (bel_ HB.out) hb); clear HB; have HB := n0_; clear n0_; (try clear hb); (try clear hb2); (try clear hk); (try clear hi)) | ((with_reducible refine gate_callee (f := 59) rfl ?_); refine goesL_ (some 8) rfl rfl Tryd.func59 kr_ rfl #[.string a1] rfl rl_ ?_; (with_reducible refine (dns_Fold.calls a1 t104 _ A4.out).mono ?_); rintro e w6 ⟨rfl, hb⟩; refine ⟨_, rfl, ?_⟩; have n0_ := am_ (below_step (bel_ HB.out) hb); clear HB; have HB := n0_; clear n0_; (try clear hb); (try clear hb2); (try clear hk); (try clear hi)))
 go_ret
 exact ⟨fi_, bel_ HB.out⟩

/-! ### pairs_All: function 40 -/
def pairs_All.l0 : Nat → ByteArray → List ByteArray → List (S35) → Int → Int → Option (List ByteArray)
 | 0, _, _, _, _, _ => none
 | k + 1, x1, x5, x8, x9, x10 => if x10 < x9 then (if 0 ≤ x10 then (if x10 < (x8.length : Int) then ((pairs_Same.f ((rd_T35 x8 x10).f0) x1).bind fun t107 => (if t107 = true then (if x5.length < 8796093022208 then (pairs_All.l0 k x1 (x5 ++ [(rd_T35 x8 x10).f1]) x8 x9 (wrap64 (x10 + 1))) else (none)) else (pairs_All.l0 k x1 x5 x8 x9 (wrap64 (x10 + 1))))) else (none)) else (none)) else (some x5)
def pairs_All.f (k : Nat) (l0 : List (S35)) (a1 : ByteArray) : Option (List ByteArray) := pairs_All.l0 k a1 ([] : List ByteArray) l0 (l0.length : Int) 0
theorem pairs_All.mono_l : ∀ k, (∀ y0 y1 y2 y3 y4, LeO (pairs_All.l0 k y0 y1 y2 y3 y4) (pairs_All.l0 (k + 1) y0 y1 y2 y3 y4))
 | 0 => fun _ _ _ _ _ r h => by simp [pairs_All.l0] at h
 | k + 1 => by
  have ih0 := pairs_All.mono_l k
  ·intro y0 y1 y2 y3 y4
   unfold pairs_All.l0
   repeat' first
   | (with_reducible exact ih0 _ _ _ _ _)
   | (with_reducible exact LeO.refl _)
   | (with_reducible exact LeO.none _)
   | (with_reducible refine LeO.ite ?_ ?_)
   | (with_reducible refine LeO.bind ?_ (fun _ => ?_))
   | exact ih0 _ _ _ _ _
   | exact LeO.none _
   | refine LeO.ite ?_ ?_
   | refine LeO.bind ?_ (fun _ => ?_)
theorem pairs_All.mono : ∀ a0 a1 k, LeO (pairs_All.f k a0 a1) (pairs_All.f (k + 1) a0 a1) := by
 intro a0 a1 k
 have ih0 := pairs_All.mono_l k
 unfold pairs_All.f
 repeat' first
   | (with_reducible exact ih0 _ _ _ _ _)
   | (with_reducible exact LeO.refl _)
   | (with_reducible exact LeO.none _)
   | (with_reducible refine LeO.ite ?_ ?_)
   | (with_reducible refine LeO.bind ?_ (fun _ => ?_))
   | exact ih0 _ _ _ _ _
   | exact LeO.none _
   | refine LeO.ite ?_ ?_
   | refine LeO.bind ?_ (fun _ => ?_)
set_option maxHeartbeats 8000000 in
set_option maxRecDepth 100000 in
theorem pairs_All.calls (k : Nat) (A0 : Option Addr) (c0 : Nat) (l0 : List (S35)) (a1 : ByteArray) (r : List ByteArray) (w : World) (hr0 : Kd.C k35 w A0 l0.length l0) (hc0 : l0.length ≤ c0) (h : pairs_All.f k l0 a1 = some r) :
  Calls Tryd.prog 40 #[.slice A0 l0.length c0, .string a1] w fun e w' => ∃ v0_ : Value, e = .returned (v0_) ∧ Kd.R Kd.string 9 w' w.heap.size (fun _ => True) v0_ r ∧ Below w.heap.size w w' := by
 have hu35 := Tryd.underlying35
 have HR0 := Aside0.mk hr0
 have HC0 := Aside0.mk hc0
 clear hr0 hc0
 have HB := am_ (Below.refl w.heap.size w)
 have H : (pairs_All.l0 k a1 ([] : List ByteArray) l0 (l0.length : Int) 0) = some r := h
 clear h
 have H' := Aside0.mk H
 clear H
 go_enter Tryd.func40, Tryd.ntmps40
 go_wp2
 go_loopg [5, 10] k (fun kq v5 v10 w' => ∃ (x5_1 : List ByteArray) (x10_1 : Int), v10 = .int .i64 x10_1 ∧ Aside0 (pairs_All.l0 kq a1 x5_1 l0 (l0.length : Int) x10_1 = some r) ∧ Aside0 (kq ≤ k) ∧ Aside0 (Kd.R Kd.string 9 w' w.heap.size (fun _ => True) v5 x5_1) ∧ Aside0 (Below w.heap.size w w'))
 case atStart => exact ⟨(([] : List ByteArray)), (0), sd_, H', ⟨Nat.le_refl _⟩, ⟨by first | exact Kd.R_nil _ _ _ _ _ | exact Kd.N_nil _ _ _ _ _ | exact Kd.V_nil _ _ _ _ _ | exact Kd.Q_nil _ _ _ _ _ | exact Kd.S_nil _ _ _ _ _⟩, ⟨bel_ HB.out⟩⟩
 case round =>
  clear H'
  try clear p2
  obtain ⟨x5_1, x10_1, rfl, HA, HK1, HO_5, HB⟩ := hrel
  cases gk with
  | zero => exact absurd HA.out (by simp [pairs_All.l0])
  | succ k1 =>
   have H := HA.out
   clear HA
   simp only [pairs_All.l0] at H
   by_cases c3 : x10_1 < (l0.length : Int)
   ·rw [if_pos c3] at H
    have c3b0 : decide (x10_1 < (l0.length : Int)) = true := decide_eq_true c3
    clear c3
    by_cases c4 : 0 ≤ x10_1
    ·rw [if_pos c4] at H
     have c4b0 : decide (0 ≤ x10_1) = true := decide_eq_true c4
     clear c4
     by_cases c5 : x10_1 < (l0.length : Int)
     ·rw [if_pos c5] at H
      have c5b0 : decide (x10_1 < (l0.length : Int)) = true := decide_eq_true c5
      clear c5
      replace H := Option.bind_eq_some_iff.mp H
      obtain ⟨t107, A60, H⟩ := H
      replace H : (if t107 = true then (if x5_1.length < 8796093022208 then (pairs_All.l0 k1 a1 (x5_1 ++ [(rd_T35 l0 x10_1).f1]) l0 (l0.length : Int) (wrap64 (x10_1 + 1))) else (none)) else (pairs_All.l0 k1 a1 x5_1 l0 (l0.length : Int) (wrap64 (x10_1 + 1)))) = some r := H
      have A6 := Aside0.mk A60
      clear A60
      by_cases c7 : t107 = true
      ·subst c7
       have H1 : (if x5_1.length < 8796093022208 then (pairs_All.l0 k1 a1 (x5_1 ++ [(rd_T35 l0 x10_1).f1]) l0 (l0.length : Int) (wrap64 (x10_1 + 1))) else (none)) = some r := by rw [if_pos rfl] at H; exact H
       clear H
       have H := H1
       clear H1
       by_cases c8 : x5_1.length < 8796093022208
       ·rw [if_pos c8] at H
        have LMc8 := Aside0.mk c8
        clear c8
        obtain ⟨y108, hy108⟩ : ∃ y_ : List ByteArray, y_ = (x5_1 ++ [(rd_T35 l0 x10_1).f1]) := ⟨_, rfl⟩
        replace H : (pairs_All.l0 k1 a1 y108 l0 (l0.length : Int) (wrap64 (x10_1 + 1))) = some r := by first | (rw [hy108]; with_reducible exact H) | (have H2_ := (Option.bind_some _ _).symm.trans H; rw [hy108]; with_reducible exact H2_) | (have H2_ := (Option.bind_some _ _).symm.trans H; with_reducible exact H2_) | with_reducible exact H | (rw [hy108]; exact H) | exact H
        have Ny108 := Aside0.mk hy108
        clear hy108
        have H' := Aside0.mk H
        clear H
        have p105 : 0 ≤ (x10_1 : Int) := of_decide_eq_true as_
        have q105 : x10_1 < (l0.length : Int) := of_decide_eq_true as_
        obtain ⟨ad105, e105, hx105_0, hx105_1⟩ := at_T35 HR0.out x10_1 p105 q105
        cases e105
        replace hx105_0 := (HB.out.cell (World.block_lt_of_cell? w _ hx105_0)).trans hx105_0
        replace hx105_1 := (HB.out.cell (World.block_lt_of_cell? w _ hx105_1)).trans hx105_1
        replace p105 := eq_true p105
        replace q105 := eq_true q105
        go_wp2_with (first | ((with_reducible refine gate_dst (N := 7) rfl ?_); refine box_event ?hg (N := 7) ?hd (cs := #[.string (⟨#[]⟩ : ByteArray), .string (⟨#[]⟩ : ByteArray)]) (t := 35) ?hr ?_; (case hd => rfl); (case hg => rfl); (case hr => first | (go_simp; done) | (go_simp; rfl)); intro gb106 hg w9 hbox hb; have n0_ := am_ (Kd.R_below (R_ HO_5.out) hb); have n1_ := am_ (below_step (bel_ HB.out) hb); have n2_ := am_ (hbox); have n3_ := am_ ((by rw [hg]; exact (below_size (bel_ HB.out)) : w.heap.size ≤ gb106)); have n4_ := am_ ((by rw [hg]; exact (below_size (bel_ HB.out)) : w.heap.size ≤ gb106)); clear HO_5 HB; have HO_5 := n0_; have HB := n1_; have BK106 := n2_; have GW106 := n3_; have GE106 := n4_; clear n0_ n1_ n2_ n3_ n4_ hb hbox hg; have hcz10_0 : w9.cell? ⟨gb106, 0, none⟩ = some (.string (⟨#[]⟩ : ByteArray)) := (blk_cell BK106.out 0).trans rfl; have hcz10_1 : w9.cell? ⟨gb106, 1, none⟩ = some (.string (⟨#[]⟩ : ByteArray)) := (blk_cell BK106.out 1).trans rfl; have hfz10_0 := blk_frozen BK106.out 0; have hfz10_1 := blk_frozen BK106.out 1) | ((with_reducible refine gate_callee (f := 58) rfl ?_); refine goesL_ (some 17) rfl rfl Tryd.func58 kr_ rfl #[.string ((rd_T35 l0 x10_1).f0), .string a1] rfl rl_ ?_; (with_reducible refine (pairs_Same.calls ((rd_T35 l0 x10_1).f0) a1 true _ A6.out).mono ?_); rintro e w11 ⟨rfl, hb⟩; refine ⟨_, rfl, ?_⟩; have n0_ := am_ (Kd.R_below (by (with_reducible repeat (first | apply Kd.R_alloc | apply Kd.R_drewN | apply Kd.R_drew)); exact (Kd.R_mono (Kd.R_far (p := ⟨gb106, 1, none⟩) (Kd.R_far (p := ⟨gb106, 0, none⟩) (Kd.R_types HO_5.out BK106.out (by decide)) (fun _ hk => hk.2) (.string ((rd_T35 l0 x10_1).f0))) (fun _ hk => hk.2) (.string ((rd_T35 l0 x10_1).f1))) (fun _ h_ => h_.1))) hb); have n1_ := am_ (blk_below (g := gb106) (o := .cells #[.string ((rd_T35 l0 x10_1).f0), .string ((rd_T35 l0 x10_1).f1)] 35 (0, 0)) (by (with_reducible repeat (first | refine blk_drewN ?_ _ | refine blk_drew ?_ | refine blk_alloc ?_ _)); refine blk_put (cs := #[.string ((rd_T35 l0 x10_1).f0), .string (⟨#[]⟩ : ByteArray)]) ?_ 1 _ rfl; (with_reducible repeat (first | refine blk_drewN ?_ _ | refine blk_drew ?_ | refine blk_alloc ?_ _)); refine blk_put (cs := #[.string (⟨#[]⟩ : ByteArray), .string (⟨#[]⟩ : ByteArray)]) ?_ 0 _ rfl; (with_reducible repeat (first | refine blk_drewN ?_ _ | refine blk_drew ?_ | refine blk_alloc ?_ _)); exact BK106.out) hb); have n2_ := am_ (below_step (bel_ HB.out) hb); clear HO_5 BK106 HB; have HO_5 := n0_; have BK106 := n1_; have HB := n2_; clear n0_ n1_ n2_; (try clear hb); (try clear hb2); (try clear hk); (try clear hi); have hcz12_0 : w11.cell? ⟨gb106, 0, none⟩ = some (.string ((rd_T35 l0 x10_1).f0)) := (blk_cell BK106.out 0).trans rfl; have hcz12_1 : w11.cell? ⟨gb106, 1, none⟩ = some (.string ((rd_T35 l0 x10_1).f1)) := (blk_cell BK106.out 1).trans rfl; have hfz12_0 := blk_frozen BK106.out 0; have hfz12_1 := blk_frozen BK106.out 1) | ((with_reducible refine gate_builtin (b := .append) (xs := #[.tmp 18, .tmp 21]) rfl ?_); at_builtin; refine Kd.R_append Kd.string (w0 := w) w.heap.size rfl (.tmp 18) (.tmp 21) 65 9 (.string ⟨#[]⟩) 16 rfl Tryd.underlying65 info9 rfl (by decide) (by omega) u5 x5_1 ((rd_T35 l0 x10_1).f1) [.string ((rd_T35 l0 x10_1).f1)] (fun _ => True) (fun _ => False) rfl rfl ?aP (fun _ hk => hk.elim) ?aF ?aO ?aB ?aS ?aL ?_; (case aP => exact rfl); (case aB => exact (bel_ HB.out)); (case aF => exact (fun _ _ => trivial)); (case aO => exact (R_ HO_5.out)); (case aS => exact (below_size (bel_ HB.out))); (case aL => have := LMc8.out; omega); intro v109 w13 ho hb hg hat; rw [← Ny108.out] at ho; have n0_ := am_ (blk_grown (g := gb106) (o := .cells #[.string ((rd_T35 l0 x10_1).f0), .string ((rd_T35 l0 x10_1).f1)] 35 (0, 0)) (blk_ BK106.out) hg (Kd.R_ne HO_5.out BK106.out (by decide))); have n1_ := am_ (hb); have n2_ := am_ (ho); clear BK106 HB HO_5; have BK106 := n0_; have HB := n1_; have HO110 := n2_; clear n0_ n1_ n2_ ho hb hg hat))
        go_roundg k1
        case measure => have := HK1.out; omega
        case rel => exact ⟨(y108), (wrap64 (x10_1 + 1)), sd_, H', ⟨by have := HK1.out; omega⟩, ⟨by (with_reducible repeat (first | apply Kd.R_alloc | apply Kd.R_drewN | apply Kd.R_drew)); exact HO110.out⟩, ⟨bel_ HB.out⟩⟩
       ·rw [if_neg c8] at H
        exact absurd H (by simp)
      ·replace c7 := Bool.eq_false_iff.mpr c7
       subst c7
       have H1 : (pairs_All.l0 k1 a1 x5_1 l0 (l0.length : Int) (wrap64 (x10_1 + 1))) = some r := by rw [if_neg (show ¬ (false = true) by decide)] at H; exact H
       clear H
       have H := H1
       clear H1
       have H' := Aside0.mk H
       clear H
       have p105 : 0 ≤ (x10_1 : Int) := of_decide_eq_true as_
       have q105 : x10_1 < (l0.length : Int) := of_decide_eq_true as_
       obtain ⟨ad105, e105, hx105_0, hx105_1⟩ := at_T35 HR0.out x10_1 p105 q105
       cases e105
       replace hx105_0 := (HB.out.cell (World.block_lt_of_cell? w _ hx105_0)).trans hx105_0
       replace hx105_1 := (HB.out.cell (World.block_lt_of_cell? w _ hx105_1)).trans hx105_1
       replace p105 := eq_true p105
       replace q105 := eq_true q105
       go_wp2_with (first | ((with_reducible refine gate_dst (N := 7) rfl ?_); refine box_event ?hg (N := 7) ?hd (cs := #[.string (⟨#[]⟩ : ByteArray), .string (⟨#[]⟩ : ByteArray)]) (t := 35) ?hr ?_; (case hd => rfl); (case hg => rfl); (case hr => first | (go_simp; done) | (go_simp; rfl)); intro gb106 hg w14 hbox hb; have n0_ := am_ (Kd.R_below (R_ HO_5.out) hb); have n1_ := am_ (below_step (bel_ HB.out) hb); have n2_ := am_ (hbox); have n3_ := am_ ((by rw [hg]; exact (below_size (bel_ HB.out)) : w.heap.size ≤ gb106)); have n4_ := am_ ((by rw [hg]; exact (below_size (bel_ HB.out)) : w.heap.size ≤ gb106)); clear HO_5 HB; have HO_5 := n0_; have HB := n1_; have BK106 := n2_; have GW106 := n3_; have GE106 := n4_; clear n0_ n1_ n2_ n3_ n4_ hb hbox hg; have hcz15_0 : w14.cell? ⟨gb106, 0, none⟩ = some (.string (⟨#[]⟩ : ByteArray)) := (blk_cell BK106.out 0).trans rfl; have hcz15_1 : w14.cell? ⟨gb106, 1, none⟩ = some (.string (⟨#[]⟩ : ByteArray)) := (blk_cell BK106.out 1).trans rfl; have hfz15_0 := blk_frozen BK106.out 0; have hfz15_1 := blk_frozen BK106.out 1) | ((with_reducible refine gate_callee (f := 58) rfl ?_); refine goesL_ (some 17) rfl rfl Tryd.func58 kr_ rfl #[.string ((rd_T35 l0 x10_1).f0), .string a1] rfl rl_ ?_; (with_reducible refine (pairs_Same.calls ((rd_T35 l0 x10_1).f0) a1 false _ A6.out).mono ?_); rintro e w16 ⟨rfl, hb⟩; refine ⟨_, rfl, ?_⟩; have n0_ := am_ (Kd.R_below (by (with_reducible repeat (first | apply Kd.R_alloc | apply Kd.R_drewN | apply Kd.R_drew)); exact (Kd.R_mono (Kd.R_far (p := ⟨gb106, 1, none⟩) (Kd.R_far (p := ⟨gb106, 0, none⟩) (Kd.R_types HO_5.out BK106.out (by decide)) (fun _ hk => hk.2) (.string ((rd_T35 l0 x10_1).f0))) (fun _ hk => hk.2) (.string ((rd_T35 l0 x10_1).f1))) (fun _ h_ => h_.1))) hb); have n1_ := am_ (blk_below (g := gb106) (o := .cells #[.string ((rd_T35 l0 x10_1).f0), .string ((rd_T35 l0 x10_1).f1)] 35 (0, 0)) (by (with_reducible repeat (first | refine blk_drewN ?_ _ | refine blk_drew ?_ | refine blk_alloc ?_ _)); refine blk_put (cs := #[.string ((rd_T35 l0 x10_1).f0), .string (⟨#[]⟩ : ByteArray)]) ?_ 1 _ rfl; (with_reducible repeat (first | refine blk_drewN ?_ _ | refine blk_drew ?_ | refine blk_alloc ?_ _)); refine blk_put (cs := #[.string (⟨#[]⟩ : ByteArray), .string (⟨#[]⟩ : ByteArray)]) ?_ 0 _ rfl; (with_reducible repeat (first | refine blk_drewN ?_ _ | refine blk_drew ?_ | refine blk_alloc ?_ _)); exact BK106.out) hb); have n2_ := am_ (below_step (bel_ HB.out) hb); clear HO_5 BK106 HB; have HO_5 := n0_; have BK106 := n1_; have HB := n2_; clear n0_ n1_ n2_; (try clear hb); (try clear hb2); (try clear hk); (try clear hi)))
       go_roundg k1
       case measure => have := HK1.out; omega
       case rel => exact ⟨(x5_1), (wrap64 (x10_1 + 1)), sd_, H', ⟨by have := HK1.out; omega⟩, ⟨by (with_reducible repeat (first | apply Kd.R_alloc | apply Kd.R_drewN | apply Kd.R_drew)); exact HO_5.out⟩, ⟨bel_ HB.out⟩⟩
     ·rw [if_neg c5] at H
      exact absurd H (by simp)
    ·rw [if_neg c4] at H
     exact absurd H (by simp)
   ·rw [if_neg c3] at H
    have c3b0 : decide (x10_1 < (l0.length : Int)) = false := decide_eq_false c3
    clear c3
    obtain rfl := Option.some.inj H
    go_wp2
    go_ret
    exact ⟨_, by first | rfl | (simp [errW_none, errW_some] <;> rfl) | (simp [*, errW_none, errW_some] <;> rfl), by (with_reducible repeat (first | apply Kd.R_alloc | apply Kd.R_drewN | apply Kd.R_drew)); exact HO_5.out, bel_ HB.out⟩

/-! ### bytealg_LastIndexByteString: function 81 -/
def bytealg_LastIndexByteString.l0 : Nat → ByteArray → Int → Int → Option (Int)
 | 0, _, _, _ => none
 | k + 1, x0, x1, x5 => if x5 ≥ 0 then (if 0 ≤ x5 then (if x5 < (x0.size : Int) then (if (bt x0 x5) = x1 then (some x5) else (bytealg_LastIndexByteString.l0 k x0 x1 (wrap64 (x5 - 1)))) else (none)) else (none)) else (some (-1))
def bytealg_LastIndexByteString.f (k : Nat) (a0 : ByteArray) (a1 : Int) : Option (Int) := bytealg_LastIndexByteString.l0 k a0 a1 (wrap64 ((a0.size : Int) - 1))
theorem bytealg_LastIndexByteString.mono_l : ∀ k, (∀ y0 y1 y2, LeO (bytealg_LastIndexByteString.l0 k y0 y1 y2) (bytealg_LastIndexByteString.l0 (k + 1) y0 y1 y2))
 | 0 => fun _ _ _ r h => by simp [bytealg_LastIndexByteString.l0] at h
 | k + 1 => by
  have ih0 := bytealg_LastIndexByteString.mono_l k
  ·intro y0 y1 y2
   unfold bytealg_LastIndexByteString.l0
   repeat' first
   | (with_reducible exact ih0 _ _ _)
   | (with_reducible exact LeO.refl _)
   | (with_reducible exact LeO.none _)
   | (with_reducible refine LeO.ite ?_ ?_)
   | (with_reducible refine LeO.bind ?_ (fun _ => ?_))
   | exact ih0 _ _ _
   | exact LeO.none _
   | refine LeO.ite ?_ ?_
   | refine LeO.bind ?_ (fun _ => ?_)
theorem bytealg_LastIndexByteString.mono : ∀ a0 a1 k, LeO (bytealg_LastIndexByteString.f k a0 a1) (bytealg_LastIndexByteString.f (k + 1) a0 a1) := by
 intro a0 a1 k
 have ih0 := bytealg_LastIndexByteString.mono_l k
 unfold bytealg_LastIndexByteString.f
 repeat' first
   | (with_reducible exact ih0 _ _ _)
   | (with_reducible exact LeO.refl _)
   | (with_reducible exact LeO.none _)
   | (with_reducible refine LeO.ite ?_ ?_)
   | (with_reducible refine LeO.bind ?_ (fun _ => ?_))
   | exact ih0 _ _ _
   | exact LeO.none _
   | refine LeO.ite ?_ ?_
   | refine LeO.bind ?_ (fun _ => ?_)
set_option maxHeartbeats 8000000 in
set_option maxRecDepth 100000 in
theorem bytealg_LastIndexByteString.calls (k : Nat) (a0 : ByteArray) (a1 : Int) (r : Int) (w : World) (h : bytealg_LastIndexByteString.f k a0 a1 = some r) :
  Calls Tryd.prog 81 #[.string a0, .int .u8 a1] w fun e w' => e = .returned (.int .i64 r) ∧ Drawn0 w w' := by
 have H : (bytealg_LastIndexByteString.l0 k a0 a1 (wrap64 ((a0.size : Int) - 1))) = some r := h
 clear h
 have H' := Aside0.mk H
 clear H
 go_enter Tryd.func81, Tryd.ntmps81
 go_wp2
 go_loopg [5] k (fun kq v5 w' => ∃ (x5_1 : Int), v5 = .int .i64 x5_1 ∧ Aside0 (bytealg_LastIndexByteString.l0 kq a0 a1 x5_1 = some r) ∧ Aside0 (kq ≤ k) ∧ Drawn0 w w')
 case atStart => exact ⟨(wrap64 ((a0.size : Int) - 1)), sd_, H', ⟨Nat.le_refl _⟩, by repeat (first | exact Drawn0.refl _ | apply Drawn0.step)⟩
 case round =>
  clear H'
  try clear p2
  obtain ⟨x5_1, rfl, HA, HK1, ⟨m1, rfl⟩⟩ := hrel
  cases gk with
  | zero => exact absurd HA.out (by simp [bytealg_LastIndexByteString.l0])
  | succ k1 =>
   have H := HA.out
   clear HA
   simp only [bytealg_LastIndexByteString.l0] at H
   by_cases c3 : x5_1 ≥ 0
   ·rw [if_pos c3] at H
    have c3b0 : decide (0 ≤ x5_1) = true := decide_eq_true c3
    clear c3
    by_cases c4 : 0 ≤ x5_1
    ·rw [if_pos c4] at H
     have c4b0 : decide (0 ≤ x5_1) = true := decide_eq_true c4
     clear c4
     by_cases c5 : x5_1 < (a0.size : Int)
     ·rw [if_pos c5] at H
      have c5b0 : decide (x5_1 < (a0.size : Int)) = true := decide_eq_true c5
      clear c5
      by_cases c7 : (bt a0 x5_1) = a1
      ·rw [if_pos c7] at H
       have c7b0 : ((bt a0 x5_1) == a1) = true := beq_iff_eq.mpr c7
       have c7b1 : ((bt a0 x5_1) != a1) = false := bne_eq_false_iff_eq.mpr c7
       clear c7
       obtain rfl := Option.some.inj H
       have p6 : 0 ≤ (x5_1 : Int) := of_decide_eq_true as_
       have q6 : x5_1 < (a0.size : Int) := of_decide_eq_true as_
       have hx6 := bt_at a0 x5_1
       replace p6 := eq_true p6
       replace q6 := eq_true q6
       go_wp2
       go_ret
       exact ⟨by first | rfl | (simp; done) | (simp [*]; done) | (simp [bne_nil_isEmpty, beq_nil_isEmpty]; done) | (simp [*, bne_nil_isEmpty, beq_nil_isEmpty]; done), by repeat (first | exact Drawn0.refl _ | apply Drawn0.step)⟩
      ·rw [if_neg c7] at H
       have c7b0 : ((bt a0 x5_1) == a1) = false := beq_eq_false_iff_ne.mpr c7
       have c7b1 : ((bt a0 x5_1) != a1) = true := bne_iff_ne.mpr c7
       have H' := Aside0.mk H
       clear H
       have p6 : 0 ≤ (x5_1 : Int) := of_decide_eq_true as_
       have q6 : x5_1 < (a0.size : Int) := of_decide_eq_true as_
       have hx6 := bt_at a0 x5_1
       replace p6 := eq_true p6
       replace q6 := eq_true q6
       go_wp2
       go_roundg k1
       case measure => have := HK1.out; omega
       case rel => exact ⟨(wrap64 (x5_1 - 1)), sd_, H', ⟨by have := HK1.out; omega⟩, by repeat (first | exact Drawn0.refl _ | apply Drawn0.step)⟩
     ·rw [if_neg c5] at H
      exact absurd H (by simp)
    ·rw [if_neg c4] at H
     exact absurd H (by simp)
   ·rw [if_neg c3] at H
    have c3b0 : decide (0 ≤ x5_1) = false := decide_eq_false c3
    clear c3
    obtain rfl := Option.some.inj H
    go_wp2
    go_ret
    exact ⟨by first | rfl | (simp; done) | (simp [*]; done) | (simp [bne_nil_isEmpty, beq_nil_isEmpty]; done) | (simp [*, bne_nil_isEmpty, beq_nil_isEmpty]; done), by repeat (first | exact Drawn0.refl _ | apply Drawn0.step)⟩

/-! ### strings_LastIndexByte: function 60 -/
def strings_LastIndexByte.f (k : Nat) (a0 : ByteArray) (a1 : Int) : Option (Int) := (bytealg_LastIndexByteString.f k a0 a1).bind fun t111 => (some t111)
theorem strings_LastIndexByte.mono : ∀ a0 a1 k, LeO (strings_LastIndexByte.f k a0 a1) (strings_LastIndexByte.f (k + 1) a0 a1) := by
 intro a0 a1 k
 unfold strings_LastIndexByte.f
 repeat' first
   | (with_reducible exact bytealg_LastIndexByteString.mono _ _ _)
   | (with_reducible exact LeO.refl _)
   | (with_reducible exact LeO.none _)
   | (with_reducible refine LeO.ite ?_ ?_)
   | (with_reducible refine LeO.bind ?_ (fun _ => ?_))
   | exact bytealg_LastIndexByteString.mono _ _ _
   | exact LeO.none _
   | refine LeO.ite ?_ ?_
   | refine LeO.bind ?_ (fun _ => ?_)
set_option maxHeartbeats 8000000 in
set_option maxRecDepth 100000 in
theorem strings_LastIndexByte.calls (k : Nat) (a0 : ByteArray) (a1 : Int) (r : Int) (w : World) (h : strings_LastIndexByte.f k a0 a1 = some r) :
  Calls Tryd.prog 60 #[.string a0, .int .u8 a1] w fun e w' => e = .returned (.int .i64 r) ∧ Drawn0 w w' := by
 have H : ((bytealg_LastIndexByteString.f k a0 a1).bind fun t111 => (some t111)) = some r := h
 clear h
 replace H := Option.bind_eq_some_iff.mp H
 obtain ⟨t111, A30, H⟩ := H
 replace H : (some t111) = some r := H
 have A3 := Aside0.mk A30
 clear A30
 obtain rfl := Option.some.inj H
 go_enter Tryd.func60, Tryd.ntmps60
 go_wp2_with (first | ((with_reducible refine gate_callee (f := 81) rfl ?_); refine goesL_ (some 7) rfl rfl Tryd.func81 kr_ rfl #[.string a0, .int .u8 a1] rfl rl_ ?_; (with_reducible refine (bytealg_LastIndexByteString.calls k a0 a1 t111 _ A3.out).mono ?_); rintro e w' ⟨rfl, ⟨nd, rfl⟩⟩; refine ⟨_, rfl, ?_⟩))
 go_ret
 exact ⟨by first | rfl | (simp; done) | (simp [*]; done) | (simp [bne_nil_isEmpty, beq_nil_isEmpty]; done) | (simp [*, bne_nil_isEmpty, beq_nil_isEmpty]; done), by repeat (first | exact Drawn0.refl _ | apply Drawn0.step)⟩

/-! ### strings_IndexByte: function 46 -/
def strings_IndexByte.f (a0 : ByteArray) (a1 : Int) : Option (Int) := (stringslite_IndexByte.f a0 a1).bind fun t112 => (some t112)
set_option maxHeartbeats 8000000 in
set_option maxRecDepth 100000 in
theorem strings_IndexByte.calls (a0 : ByteArray) (a1 : Int) (r : Int) (w : World) (h : strings_IndexByte.f a0 a1 = some r) :
  Calls Tryd.prog 46 #[.string a0, .int .u8 a1] w fun e w' => e = .returned (.int .i64 r) ∧ Drawn0 w w' := by
 have H : ((stringslite_IndexByte.f a0 a1).bind fun t112 => (some t112)) = some r := h
 clear h
 replace H := Option.bind_eq_some_iff.mp H
 obtain ⟨t112, A30, H⟩ := H
 replace H : (some t112) = some r := H
 have A3 := Aside0.mk A30
 clear A30
 obtain rfl := Option.some.inj H
 go_enter Tryd.func46, Tryd.ntmps46
 go_wp2_with (first | ((with_reducible refine gate_callee (f := 48) rfl ?_); refine goesL_ (some 7) rfl rfl Tryd.func48 kr_ rfl #[.string a0, .int .u8 a1] rfl rl_ ?_; (with_reducible refine (stringslite_IndexByte.calls a0 a1 t112 _ A3.out).mono ?_); rintro e w' ⟨rfl, ⟨nd, rfl⟩⟩; refine ⟨_, rfl, ?_⟩))
 go_ret
 exact ⟨by first | rfl | (simp; done) | (simp [*]; done) | (simp [bne_nil_isEmpty, beq_nil_isEmpty]; done) | (simp [*, bne_nil_isEmpty, beq_nil_isEmpty]; done), by repeat (first | exact Drawn0.refl _ | apply Drawn0.step)⟩

/-! ### the shelf's Lays.n160 at this program -/
def lays160_ren : Go.Shelf.Ren := ⟨fun | 160 => 47 | 232 => 68 | 231 => 67 | 227 => 69 | 234 => 71 | 233 => 70 | 236 => 73 | 235 => 72 | 228 => 84 | 271 => 86 | 151 => 85 | 197 => 77 | 120 => 94 | 152 => 93 | 260 => 87 | 137 => 46 | 119 => 95 | 224 => 50 | 225 => 49 | 217 => 48 | 266 => 74 | n => n, fun | 9 => 9 | 4 => 4 | 3 => 3 | 5 => 5 | 117 => 90 | 116 => 89 | 0 => 0 | 124 => 93 | 21 => 21 | 105 => 97 | 46 => 75 | 119 => 104 | 139 => 107 | 138 => 106 | n => n, fun | 3 => 1 | 4 => 2 | n => n⟩
theorem lays160 : Lays.n160 Tryd.prog lays160_ren where
 mixed := by kernel_rfl
 f119 := Tryd.func95.trans (congrArg some kr_)
 f120 := Tryd.func94.trans (congrArg some kr_)
 f137 := Tryd.func46.trans (congrArg some kr_)
 f151 := Tryd.func85.trans (congrArg some kr_)
 f152 := Tryd.func93.trans (congrArg some kr_)
 f160 := Tryd.func47.trans (congrArg some kr_)
 f197 := Tryd.func77.trans (congrArg some kr_)
 f217 := Tryd.func48.trans (congrArg some kr_)
 f224 := Tryd.func50.trans (congrArg some kr_)
 f225 := Tryd.func49.trans (congrArg some kr_)
 f227 := Tryd.func69.trans (congrArg some kr_)
 f228 := Tryd.func84.trans (congrArg some kr_)
 f231 := Tryd.func67.trans (congrArg some kr_)
 f232 := Tryd.func68.trans (congrArg some kr_)
 f233 := Tryd.func70.trans (congrArg some kr_)
 f234 := Tryd.func71.trans (congrArg some kr_)
 f235 := Tryd.func72.trans (congrArg some kr_)
 f236 := Tryd.func73.trans (congrArg some kr_)
 f260 := Tryd.func87.trans (congrArg some kr_)
 f266 := Tryd.func74.trans (congrArg some kr_)
 f271 := Tryd.func86.trans (congrArg some kr_)
 t0 := Tryd.underlying0
 a0 := Tryd.isAgg0
 z0 := Tryd.sizeOf0
 v0 := Tryd.zeroValue0
 t3 := Tryd.underlying3
 a3 := Tryd.isAgg3
 z3 := Tryd.sizeOf3
 v3 := Tryd.zeroValue3
 t4 := Tryd.underlying4
 a4 := Tryd.isAgg4
 z4 := Tryd.sizeOf4
 v4 := Tryd.zeroValue4
 t5 := Tryd.underlying5
 a5 := Tryd.isAgg5
 z5 := Tryd.sizeOf5
 v5 := Tryd.zeroValue5
 t9 := Tryd.underlying9
 a9 := Tryd.isAgg9
 z9 := Tryd.sizeOf9
 v9 := Tryd.zeroValue9
 t21 := Tryd.underlying21
 a21 := Tryd.isAgg21
 z21 := Tryd.sizeOf21
 v21 := Tryd.zeroValue21
 t46 := Tryd.underlying75
 a46 := Tryd.isAgg75
 z46 := Tryd.sizeOf75
 v46 := Tryd.zeroValue75
 t105 := Tryd.underlying97
 a105 := Tryd.isAgg97
 z105 := Tryd.sizeOf97
 v105 := Tryd.zeroValue97
 t116 := Tryd.underlying89
 a116 := Tryd.isAgg89
 z116 := Tryd.sizeOf89
 t117 := Tryd.underlying90
 a117 := Tryd.isAgg90
 z117 := Tryd.sizeOf90
 v117 := Tryd.zeroValue90
 t119 := Tryd.underlying104
 a119 := Tryd.isAgg104
 z119 := Tryd.sizeOf104
 t124 := Tryd.underlying93
 a124 := Tryd.isAgg93
 z124 := Tryd.sizeOf93
 v124 := Tryd.zeroValue93
 t138 := Tryd.underlying106
 a138 := Tryd.isAgg106
 z138 := Tryd.sizeOf106
 v138 := Tryd.zeroValue106
 t139 := Tryd.underlying107
 a139 := Tryd.isAgg107
 z139 := Tryd.sizeOf107
 v139 := Tryd.zeroValue107
 g3 := by kernel_rfl
 g4 := by kernel_rfl

/-! ### strings_Trim: function 47 -/
/-- What strings.Trim leaves, at a cut set of ASCII. -/
def strings_Trim.f (a0 : ByteArray) (a1 : ByteArray) : Option (ByteArray) := if a0.size ≤ 9223372036854775807 then (if a1.size ≤ 1000 then (if a1.data.toList.all (fun b => decide (b.toNat < 128)) = true then some ⟨(Go.Lib.trimS a0.data.toList a1.data.toList).toArray⟩ else none) else none) else none
set_option maxHeartbeats 4000000 in
theorem strings_Trim.calls (a0 : ByteArray) (a1 : ByteArray) (r : ByteArray) (w : World) (h : strings_Trim.f a0 a1 = some r) :
  Calls Tryd.prog 47 #[.string a0, .string a1] w fun e w' => e = .returned (.string r) ∧ Below w.heap.size w w' := by
 unfold strings_Trim.f at h
 split at h
 ·split at h
  ·split at h
   ·rename_i h1 h2 h3
    obtain rfl := Option.some.inj h
    exact Any.strings_Trim_laid lays160 kr_ a0 a1 w h1 (by omega) (ascii_of_all h3)
   ·cases h
  ·cases h
 ·cases h

/-! ### host_port: function 61 -/
def host_port.f (a0 : ByteArray) : Option (Bool) := if (a0.size : Int) ≥ 1 then (if (a0.size : Int) ≤ 5 then ((strings_Trim.f a0 (⟨#[48, 49, 50, 51, 52, 53, 54, 55, 56, 57]⟩ : ByteArray)).bind fun t113 => (some (t113.toList == ([] : List UInt8)))) else (some false)) else (some false)
set_option maxHeartbeats 8000000 in
set_option maxRecDepth 100000 in
theorem host_port.calls (a0 : ByteArray) (r : Bool) (w : World) (h : host_port.f a0 = some r) :
  Calls Tryd.prog 61 #[.string a0] w fun e w' => e = .returned (.bool r) ∧ Below w.heap.size w w' := by
 have HB := am_ (Below.refl w.heap.size w)
 have H : (if (a0.size : Int) ≥ 1 then (if (a0.size : Int) ≤ 5 then ((strings_Trim.f a0 (⟨#[48, 49, 50, 51, 52, 53, 54, 55, 56, 57]⟩ : ByteArray)).bind fun t113 => (some (t113.toList == ([] : List UInt8)))) else (some false)) else (some false)) = some r := h
 clear h
 by_cases c2 : (a0.size : Int) ≥ 1
 ·rw [if_pos c2] at H
  have c2b0 : decide (1 ≤ (a0.size : Int)) = true := decide_eq_true c2
  have c2b1 : decide (1 ≤ a0.size) = true := decide_eq_true (by omega)
  clear c2
  by_cases c3 : (a0.size : Int) ≤ 5
  ·rw [if_pos c3] at H
   have c3b0 : decide ((a0.size : Int) ≤ 5) = true := decide_eq_true c3
   have c3b1 : decide (a0.size ≤ 5) = true := decide_eq_true (by omega)
   clear c3
   replace H := Option.bind_eq_some_iff.mp H
   obtain ⟨t113, A40, H⟩ := H
   replace H : (some (t113.toList == ([] : List UInt8))) = some r := H
   have A4 := Aside0.mk A40
   clear A40
   obtain rfl := Option.some.inj H
   go_enter Tryd.func61, Tryd.ntmps61
   go_wp2_with (first | (go_at_call 47; (with_reducible refine (strings_Trim.calls a0 (⟨#[48, 49, 50, 51, 52, 53, 54, 55, 56, 57]⟩ : ByteArray) t113 _ A4.out).mono ?_); rintro e w5 ⟨rfl, hb⟩; have n0_ := am_ (below_step (bel_ HB.out) hb); clear HB; have HB := n0_; clear n0_; (try clear hb); (try clear hb2); (try clear hk); (try clear hi)))
   go_ret
   exact ⟨fi_, bel_ HB.out⟩
  ·rw [if_neg c3] at H
   have c3b0 : decide ((a0.size : Int) ≤ 5) = false := decide_eq_false c3
   have c3b1 : decide (a0.size ≤ 5) = false := decide_eq_false (by omega)
   clear c3
   obtain rfl := Option.some.inj H
   go_enter Tryd.func61, Tryd.ntmps61
   go_wp2
   go_ret
   exact ⟨fi_, bel_ HB.out⟩
 ·rw [if_neg c2] at H
  have c2b0 : decide (1 ≤ (a0.size : Int)) = false := decide_eq_false c2
  have c2b1 : decide (1 ≤ a0.size) = false := decide_eq_false (by omega)
  clear c2
  obtain rfl := Option.some.inj H
  go_enter Tryd.func61, Tryd.ntmps61
  go_wp2
  go_ret
  exact ⟨fi_, bel_ HB.out⟩

/-! ### stringslite_HasSuffix: function 90 -/
def stringslite_HasSuffix.f (a0 : ByteArray) (a1 : ByteArray) : Option (Bool) := if (a0.size : Int) ≥ (a1.size : Int) then (if 0 ≤ (wrap64 ((a0.size : Int) - (a1.size : Int))) then (if (wrap64 ((a0.size : Int) - (a1.size : Int))) ≤ (a0.size : Int) then (some ((a0.extract ((wrap64 ((a0.size : Int) - (a1.size : Int))) : Int).toNat a0.size).toList == a1.toList)) else (none)) else (none)) else (some false)
set_option maxHeartbeats 8000000 in
set_option maxRecDepth 100000 in
theorem stringslite_HasSuffix.calls (a0 : ByteArray) (a1 : ByteArray) (r : Bool) (w : World) (h : stringslite_HasSuffix.f a0 a1 = some r) :
  Calls Tryd.prog 90 #[.string a0, .string a1] w fun e w' => e = .returned (.bool r) ∧ Drawn0 w w' := by
 have H : (if (a0.size : Int) ≥ (a1.size : Int) then (if 0 ≤ (wrap64 ((a0.size : Int) - (a1.size : Int))) then (if (wrap64 ((a0.size : Int) - (a1.size : Int))) ≤ (a0.size : Int) then (some ((a0.extract ((wrap64 ((a0.size : Int) - (a1.size : Int))) : Int).toNat a0.size).toList == a1.toList)) else (none)) else (none)) else (some false)) = some r := h
 clear h
 by_cases c3 : (a0.size : Int) ≥ (a1.size : Int)
 ·rw [if_pos c3] at H
  have c3b0 : decide ((a1.size : Int) ≤ (a0.size : Int)) = true := decide_eq_true c3
  have c3b1 : decide (a1.size ≤ a0.size) = true := decide_eq_true (Int.ofNat_le.mp c3)
  clear c3
  obtain ⟨ji4, hji4⟩ : ∃ j_ : Int, (wrap64 ((a0.size : Int) - (a1.size : Int))) = j_ := ⟨_, rfl⟩
  replace H : (if 0 ≤ (ji4) then (if (ji4) ≤ (a0.size : Int) then (some ((a0.extract ((ji4) : Int).toNat a0.size).toList == a1.toList)) else (none)) else (none)) = some r := by first | (rw [hji4] at H; exact H) | (simp only [hji4] at H ⊢; exact H)
  have hji4w : (IntKind.i64.wrap ((a0.size : Int) - (a1.size : Int))) = ji4 := (i64_w _).trans hji4
  by_cases c5 : 0 ≤ (ji4)
  ·rw [if_pos c5] at H
   have c5b0 := eq_true c5
   have c5b1 : decide (0 ≤ (ji4)) = true := decide_eq_true c5
   clear c5
   by_cases c6 : (ji4) ≤ (a0.size : Int)
   ·rw [if_pos c6] at H
    have c6b0 := eq_true c6
    have c6b1 : decide ((ji4) ≤ (a0.size : Int)) = true := decide_eq_true c6
    clear c6
    obtain rfl := Option.some.inj H
    go_enter Tryd.func90, Tryd.ntmps90
    go_wp2
    go_ret
    exact ⟨by first | rfl | (simp; done) | (simp only [← hji4] <;> (first | rfl | simp)) | (simp [*]; done), by repeat (first | exact Drawn0.refl _ | apply Drawn0.step)⟩
   ·rw [if_neg c6] at H
    exact absurd H (by simp)
  ·rw [if_neg c5] at H
   exact absurd H (by simp)
 ·rw [if_neg c3] at H
  have c3b0 : decide ((a1.size : Int) ≤ (a0.size : Int)) = false := decide_eq_false c3
  have c3b1 : decide (a1.size ≤ a0.size) = false := decide_eq_false (fun h => c3 (Int.ofNat_le.mpr h))
  clear c3
  obtain rfl := Option.some.inj H
  go_enter Tryd.func90, Tryd.ntmps90
  go_wp2
  go_ret
  exact ⟨by first | rfl | (simp; done) | (simp [*]; done) | (simp [bne_nil_isEmpty, beq_nil_isEmpty]; done) | (simp [*, bne_nil_isEmpty, beq_nil_isEmpty]; done), by repeat (first | exact Drawn0.refl _ | apply Drawn0.step)⟩

/-! ### stringslite_TrimSuffix: function 82 -/
def stringslite_TrimSuffix.f (a0 : ByteArray) (a1 : ByteArray) : Option (ByteArray) := (stringslite_HasSuffix.f a0 a1).bind fun t114 => (if t114 = true then (if 0 ≤ (wrap64 ((a0.size : Int) - (a1.size : Int))) then (if (wrap64 ((a0.size : Int) - (a1.size : Int))) ≤ (a0.size : Int) then (some (a0.extract 0 ((wrap64 ((a0.size : Int) - (a1.size : Int))) : Int).toNat)) else (none)) else (none)) else (some a0))
set_option maxHeartbeats 8000000 in
set_option maxRecDepth 100000 in
theorem stringslite_TrimSuffix.calls (a0 : ByteArray) (a1 : ByteArray) (r : ByteArray) (w : World) (h : stringslite_TrimSuffix.f a0 a1 = some r) :
  Calls Tryd.prog 82 #[.string a0, .string a1] w fun e w' => e = .returned (.string r) ∧ Drawn0 w w' := by
 have H : ((stringslite_HasSuffix.f a0 a1).bind fun t114 => (if t114 = true then (if 0 ≤ (wrap64 ((a0.size : Int) - (a1.size : Int))) then (if (wrap64 ((a0.size : Int) - (a1.size : Int))) ≤ (a0.size : Int) then (some (a0.extract 0 ((wrap64 ((a0.size : Int) - (a1.size : Int))) : Int).toNat)) else (none)) else (none)) else (some a0))) = some r := h
 clear h
 replace H := Option.bind_eq_some_iff.mp H
 obtain ⟨t114, A30, H⟩ := H
 replace H : (if t114 = true then (if 0 ≤ (wrap64 ((a0.size : Int) - (a1.size : Int))) then (if (wrap64 ((a0.size : Int) - (a1.size : Int))) ≤ (a0.size : Int) then (some (a0.extract 0 ((wrap64 ((a0.size : Int) - (a1.size : Int))) : Int).toNat)) else (none)) else (none)) else (some a0)) = some r := H
 have A3 := Aside0.mk A30
 clear A30
 by_cases c4 : t114 = true
 ·subst c4
  have H1 : (if 0 ≤ (wrap64 ((a0.size : Int) - (a1.size : Int))) then (if (wrap64 ((a0.size : Int) - (a1.size : Int))) ≤ (a0.size : Int) then (some (a0.extract 0 ((wrap64 ((a0.size : Int) - (a1.size : Int))) : Int).toNat)) else (none)) else (none)) = some r := by rw [if_pos rfl] at H; exact H
  clear H
  have H := H1
  clear H1
  obtain ⟨ji5, hji5⟩ : ∃ j_ : Int, (wrap64 ((a0.size : Int) - (a1.size : Int))) = j_ := ⟨_, rfl⟩
  replace H : (if 0 ≤ (ji5) then (if (ji5) ≤ (a0.size : Int) then (some (a0.extract 0 ((ji5) : Int).toNat)) else (none)) else (none)) = some r := by first | (rw [hji5] at H; exact H) | (simp only [hji5] at H ⊢; exact H)
  (try rw [hji5] at A3)
  have hji5w : (IntKind.i64.wrap ((a0.size : Int) - (a1.size : Int))) = ji5 := (i64_w _).trans hji5
  by_cases c6 : 0 ≤ (ji5)
  ·rw [if_pos c6] at H
   have c6b0 := eq_true c6
   have c6b1 : decide (0 ≤ (ji5)) = true := decide_eq_true c6
   clear c6
   by_cases c7 : (ji5) ≤ (a0.size : Int)
   ·rw [if_pos c7] at H
    have c7b0 := eq_true c7
    have c7b1 : decide ((ji5) ≤ (a0.size : Int)) = true := decide_eq_true c7
    clear c7
    obtain rfl := Option.some.inj H
    go_enter Tryd.func82, Tryd.ntmps82
    go_wp2_with (first | ((with_reducible refine gate_callee (f := 90) rfl ?_); refine goesL_ (some 7) rfl rfl Tryd.func90 kr_ rfl #[.string a0, .string a1] rfl rl_ ?_; (with_reducible refine (stringslite_HasSuffix.calls a0 a1 true _ A3.out).mono ?_); rintro e w' ⟨rfl, ⟨nd, rfl⟩⟩; refine ⟨_, rfl, ?_⟩))
    go_ret
    exact ⟨by first | rfl | (simp; done) | (simp only [← hji5] <;> (first | rfl | simp)) | (simp [*]; done), by repeat (first | exact Drawn0.refl _ | apply Drawn0.step)⟩
   ·rw [if_neg c7] at H
    exact absurd H (by simp)
  ·rw [if_neg c6] at H
   exact absurd H (by simp)
 ·replace c4 := Bool.eq_false_iff.mpr c4
  subst c4
  have H1 : (some a0) = some r := by rw [if_neg (show ¬ (false = true) by decide)] at H; exact H
  clear H
  have H := H1
  clear H1
  obtain rfl := Option.some.inj H
  go_enter Tryd.func82, Tryd.ntmps82
  go_wp2_with (first | ((with_reducible refine gate_callee (f := 90) rfl ?_); refine goesL_ (some 7) rfl rfl Tryd.func90 kr_ rfl #[.string a0, .string a1] rfl rl_ ?_; (with_reducible refine (stringslite_HasSuffix.calls a0 a1 false _ A3.out).mono ?_); rintro e w' ⟨rfl, ⟨nd, rfl⟩⟩; refine ⟨_, rfl, ?_⟩))
  go_ret
  exact ⟨by first | rfl | (simp; done) | (simp [*]; done) | (simp [bne_nil_isEmpty, beq_nil_isEmpty]; done) | (simp [*, bne_nil_isEmpty, beq_nil_isEmpty]; done), by repeat (first | exact Drawn0.refl _ | apply Drawn0.step)⟩

/-! ### strings_TrimSuffix: function 62 -/
def strings_TrimSuffix.f (a0 : ByteArray) (a1 : ByteArray) : Option (ByteArray) := (stringslite_TrimSuffix.f a0 a1).bind fun t115 => (some t115)
set_option maxHeartbeats 8000000 in
set_option maxRecDepth 100000 in
theorem strings_TrimSuffix.calls (a0 : ByteArray) (a1 : ByteArray) (r : ByteArray) (w : World) (h : strings_TrimSuffix.f a0 a1 = some r) :
  Calls Tryd.prog 62 #[.string a0, .string a1] w fun e w' => e = .returned (.string r) ∧ Drawn0 w w' := by
 have H : ((stringslite_TrimSuffix.f a0 a1).bind fun t115 => (some t115)) = some r := h
 clear h
 replace H := Option.bind_eq_some_iff.mp H
 obtain ⟨t115, A30, H⟩ := H
 replace H : (some t115) = some r := H
 have A3 := Aside0.mk A30
 clear A30
 obtain rfl := Option.some.inj H
 go_enter Tryd.func62, Tryd.ntmps62
 go_wp2_with (first | ((with_reducible refine gate_callee (f := 82) rfl ?_); refine goesL_ (some 7) rfl rfl Tryd.func82 kr_ rfl #[.string a0, .string a1] rfl rl_ ?_; (with_reducible refine (stringslite_TrimSuffix.calls a0 a1 t115 _ A3.out).mono ?_); rintro e w' ⟨rfl, ⟨nd, rfl⟩⟩; refine ⟨_, rfl, ?_⟩))
 go_ret
 exact ⟨by first | rfl | (simp; done) | (simp [*]; done) | (simp [bne_nil_isEmpty, beq_nil_isEmpty]; done) | (simp [*, bne_nil_isEmpty, beq_nil_isEmpty]; done), by repeat (first | exact Drawn0.refl _ | apply Drawn0.step)⟩

/-! ### dns_octet: function 92 -/
def dns_octet.f (a0 : Int) : Option (Bool) := if a0 ≥ 97 then (if a0 ≤ 122 then (some true) else (if a0 ≥ 48 then (if a0 ≤ 57 then (some true) else (some (a0 == 45))) else (some (a0 == 45)))) else (if a0 ≥ 48 then (if a0 ≤ 57 then (some true) else (some (a0 == 45))) else (some (a0 == 45)))
set_option maxHeartbeats 8000000 in
set_option maxRecDepth 100000 in
theorem dns_octet.calls (a0 : Int) (r : Bool) (w : World) (h : dns_octet.f a0 = some r) :
  Calls Tryd.prog 92 #[.int .i32 a0] w fun e w' => e = .returned (.bool r) ∧ Drawn0 w w' := by
 have H : (if a0 ≥ 97 then (if a0 ≤ 122 then (some true) else (if a0 ≥ 48 then (if a0 ≤ 57 then (some true) else (some (a0 == 45))) else (some (a0 == 45)))) else (if a0 ≥ 48 then (if a0 ≤ 57 then (some true) else (some (a0 == 45))) else (some (a0 == 45)))) = some r := h
 clear h
 by_cases c2 : a0 ≥ 97
 ·rw [if_pos c2] at H
  have c2b0 : decide (97 ≤ a0) = true := decide_eq_true c2
  clear c2
  by_cases c3 : a0 ≤ 122
  ·rw [if_pos c3] at H
   have c3b0 : decide (a0 ≤ 122) = true := decide_eq_true c3
   clear c3
   obtain rfl := Option.some.inj H
   go_enter Tryd.func92, Tryd.ntmps92
   go_wp2
   go_ret
   exact ⟨by first | rfl | (simp; done) | (simp [*]; done) | (simp [bne_nil_isEmpty, beq_nil_isEmpty]; done) | (simp [*, bne_nil_isEmpty, beq_nil_isEmpty]; done), by repeat (first | exact Drawn0.refl _ | apply Drawn0.step)⟩
  ·rw [if_neg c3] at H
   have c3b0 : decide (a0 ≤ 122) = false := decide_eq_false c3
   clear c3
   by_cases c4 : a0 ≥ 48
   ·rw [if_pos c4] at H
    have c4b0 : decide (48 ≤ a0) = true := decide_eq_true c4
    clear c4
    by_cases c5 : a0 ≤ 57
    ·rw [if_pos c5] at H
     have c5b0 : decide (a0 ≤ 57) = true := decide_eq_true c5
     clear c5
     obtain rfl := Option.some.inj H
     go_enter Tryd.func92, Tryd.ntmps92
     go_wp2
     go_ret
     exact ⟨by first | rfl | (simp; done) | (simp [*]; done) | (simp [bne_nil_isEmpty, beq_nil_isEmpty]; done) | (simp [*, bne_nil_isEmpty, beq_nil_isEmpty]; done), by repeat (first | exact Drawn0.refl _ | apply Drawn0.step)⟩
    ·rw [if_neg c5] at H
     have c5b0 : decide (a0 ≤ 57) = false := decide_eq_false c5
     clear c5
     obtain rfl := Option.some.inj H
     go_enter Tryd.func92, Tryd.ntmps92
     go_wp2
     go_ret
     exact ⟨by first | rfl | (simp; done) | (simp [*]; done) | (simp [bne_nil_isEmpty, beq_nil_isEmpty]; done) | (simp [*, bne_nil_isEmpty, beq_nil_isEmpty]; done), by repeat (first | exact Drawn0.refl _ | apply Drawn0.step)⟩
   ·rw [if_neg c4] at H
    have c4b0 : decide (48 ≤ a0) = false := decide_eq_false c4
    clear c4
    obtain rfl := Option.some.inj H
    go_enter Tryd.func92, Tryd.ntmps92
    go_wp2
    go_ret
    exact ⟨by first | rfl | (simp; done) | (simp [*]; done) | (simp [bne_nil_isEmpty, beq_nil_isEmpty]; done) | (simp [*, bne_nil_isEmpty, beq_nil_isEmpty]; done), by repeat (first | exact Drawn0.refl _ | apply Drawn0.step)⟩
 ·rw [if_neg c2] at H
  have c2b0 : decide (97 ≤ a0) = false := decide_eq_false c2
  clear c2
  by_cases c6 : a0 ≥ 48
  ·rw [if_pos c6] at H
   have c6b0 : decide (48 ≤ a0) = true := decide_eq_true c6
   clear c6
   by_cases c7 : a0 ≤ 57
   ·rw [if_pos c7] at H
    have c7b0 : decide (a0 ≤ 57) = true := decide_eq_true c7
    clear c7
    obtain rfl := Option.some.inj H
    go_enter Tryd.func92, Tryd.ntmps92
    go_wp2
    go_ret
    exact ⟨by first | rfl | (simp; done) | (simp [*]; done) | (simp [bne_nil_isEmpty, beq_nil_isEmpty]; done) | (simp [*, bne_nil_isEmpty, beq_nil_isEmpty]; done), by repeat (first | exact Drawn0.refl _ | apply Drawn0.step)⟩
   ·rw [if_neg c7] at H
    have c7b0 : decide (a0 ≤ 57) = false := decide_eq_false c7
    clear c7
    obtain rfl := Option.some.inj H
    go_enter Tryd.func92, Tryd.ntmps92
    go_wp2
    go_ret
    exact ⟨by first | rfl | (simp; done) | (simp [*]; done) | (simp [bne_nil_isEmpty, beq_nil_isEmpty]; done) | (simp [*, bne_nil_isEmpty, beq_nil_isEmpty]; done), by repeat (first | exact Drawn0.refl _ | apply Drawn0.step)⟩
  ·rw [if_neg c6] at H
   have c6b0 : decide (48 ≤ a0) = false := decide_eq_false c6
   clear c6
   obtain rfl := Option.some.inj H
   go_enter Tryd.func92, Tryd.ntmps92
   go_wp2
   go_ret
   exact ⟨by first | rfl | (simp; done) | (simp [*]; done) | (simp [bne_nil_isEmpty, beq_nil_isEmpty]; done) | (simp [*, bne_nil_isEmpty, beq_nil_isEmpty]; done), by repeat (first | exact Drawn0.refl _ | apply Drawn0.step)⟩

/-- May an octet be in a label? -/
def octB (r : Nat) : Bool := (decide (97 ≤ r) && decide (r ≤ 122)) || ((decide (48 ≤ r) && decide (r ≤ 57)) || r == 45)
theorem octB_f (r : Nat) : dns_octet.f (r : Int) = some (octB r) := by
 have e : ((r : Int) == 45) = (r == 45) := by rw [Bool.eq_iff_iff, beq_iff_eq, beq_iff_eq]; omega
 unfold dns_octet.f octB
 rw [e]
 by_cases h1 : 97 ≤ r <;> by_cases h2 : r ≤ 122 <;> by_cases h3 : 48 ≤ r <;> by_cases h4 : r ≤ 57
 all_goals
  have g1 : (r : Int) ≥ 97 ↔ 97 ≤ r := by omega
  have g2 : (r : Int) ≤ 122 ↔ r ≤ 122 := by omega
  have g3 : (r : Int) ≥ 48 ↔ 48 ≤ r := by omega
  have g4 : (r : Int) ≤ 57 ↔ r ≤ 57 := by omega
  simp only [g1, g2, g3, g4, h1, h2, h3, h4, if_true, if_false, decide_true, decide_false, Bool.true_and, Bool.false_and, Bool.and_true, Bool.and_false, Bool.true_or, Bool.false_or]

/-! ### strings_IndexFunc: functions 43, 64 -/
/-- A function that tells of a rune. -/
def RuneAt (P : Program) (g : Nat) (p : Nat → Bool) : Prop := ∀ (W : World) (r : Nat), Calls P g #[.int .i32 (r : Int)] W fun e w' => e = .returned (.bool (p r)) ∧ Below W.heap.size W w'
/-- Where the first rune begins of which p holds, from a place on; -1: there is none. -/
def idxRuneFrom (p : Nat → Bool) (s : ByteArray) : Nat → Nat → Int
 | 0, _ => -1
 | f + 1, pos => if pos < s.size then (if p (Utf8.decode s pos).1 = true then (pos : Int) else idxRuneFrom p s f (pos + (Utf8.decode s pos).2)) else -1
def idxRune (p : Nat → Bool) (s : ByteArray) : Int := idxRuneFrom p s s.size 0
theorem idxRuneFrom_end (p : Nat → Bool) (s : ByteArray) (f pos : Nat) (h : ¬ pos < s.size) : idxRuneFrom p s f pos = -1 := by cases f <;> simp [idxRuneFrom, h]
/-- Where p holds of whatever is no octet of ASCII: there is no such rune just if it holds of no octet. -/
theorem idxRuneFrom_neg (p : Nat → Bool) (hp : ∀ r, 128 ≤ r → p r = true) (s : ByteArray) : ∀ (f pos : Nat), s.size ≤ pos + f → decide (idxRuneFrom p s f pos < 0) = (s.data.toList.drop pos).all (fun c => !p c.toNat)
 | 0, pos, h => by
  rw [List.drop_eq_nil_of_le (by rw [Array.length_toList]; exact h)]; rfl
 | f + 1, pos, h => by
  have hl : s.data.toList.length = s.size := Array.length_toList
  rw [idxRuneFrom]
  by_cases hps : pos < s.size
  ·rw [if_pos hps, List.drop_eq_getElem_cons (by omega), List.all_cons]
   have he : s.data.toList[pos]'(by omega) = s[pos]'hps := rfl
   rw [he]
   by_cases ha : (s[pos]'hps).toNat < 128
   ·rw [decode_ascii s pos hps ha]
    by_cases hq : p (s[pos]'hps).toNat = true
    ·rw [if_pos hq, hq]
     simp only [Bool.not_true, Bool.false_and]
     exact decide_eq_false (by omega)
    ·rw [if_neg hq, idxRuneFrom_neg p hp s f (pos + 1) (by omega)]
     have : p (s[pos]'hps).toNat = false := by simpa using hq
     rw [this]; rfl
   ·have h1 := hp _ (decode_high s pos hps (by omega)).1
    rw [if_pos h1, hp _ (by omega)]
    simp only [Bool.not_true, Bool.false_and]
    exact decide_eq_false (by omega)
  ·rw [if_neg hps, List.drop_eq_nil_of_le (by omega)]; rfl
theorem idxRune_neg (p : Nat → Bool) (hp : ∀ r, 128 ≤ r → p r = true) (s : ByteArray) : decide (idxRune p s < 0) = s.data.toList.all (fun c => !p c.toNat) := by
 have := idxRuneFrom_neg p hp s s.size 0 (by omega)
 rwa [List.drop_zero] at this
set_option maxHeartbeats 8000000 in
set_option maxRecDepth 100000 in
theorem strings_indexFunc_at (g : Nat) (eg : ∀ args W, (callFunc g args).run Tryd.prog W = .ok (.enter g args) W) (p : Nat → Bool) (s : ByteArray) (w : World) (hp : RuneAt Tryd.prog g p) :
  Calls Tryd.prog 64 #[.string s, .func (.func g) #[] #[], .bool true] w fun e w' => e = .returned (.int .i64 (idxRune p s)) ∧ Below w.heap.size w w' := by
 have HP := Aside0.mk hp
 clear hp
 go_enter Tryd.func64, Tryd.ntmps64
 go_wp2
 go_loopg [] s.size (fun gf wx => ∃ pos : Nat, Aside0 (wx.heap[w.heap.size]? = some (.stringIter s pos)) ∧ Aside0 (Below w.heap.size w wx) ∧ Aside0 (idxRuneFrom p s gf pos = idxRune p s) ∧ s.size ≤ pos + gf)
 case atStart => exact ⟨0, ⟨World.iter_heap w s 0⟩, ⟨(Below.refl _ w).alloc (Nat.le_refl _) _⟩, ⟨rfl⟩, by omega⟩
 case round =>
  obtain ⟨pos, IT, BW, LE, hfu⟩ := hrel
  by_cases hps : pos < s.size
  ·obtain ⟨g', rfl⟩ : ∃ g', gk = g' + 1 := ⟨gk - 1, by omega⟩
   have hnx : ∀ ty, (Instr.next (.pointer (some ⟨w.heap.size, 0, none⟩)) true ty).run Tryd.prog wr = _ := fun ty => Lib.run_next_any_at wr w.heap.size s pos ty IT.out hps
   have hwd := Lib.decode_width_pos s pos hps
   have hleft := LE.out
   rw [idxRuneFrom, if_pos hps] at hleft
   generalize (Utf8.decode s pos).1 = R at hnx hleft
   generalize (Utf8.decode s pos).2 = K at hnx hleft hwd
   have hit2 := Lib.iterAt_heap wr w.heap.size s pos (pos + K) IT.out
   have hbw2 := Lib.below_iterAt BW.out (k := w.heap.size) (Nat.le_refl _) s (pos + K)
   clear IT BW LE
   generalize wr.iterAt w.heap.size s (pos + K) = W at hnx hit2 hbw2
   have hS := HP.out W R
   have IT2 := Aside0.mk hit2
   have BW2 := Aside0.mk hbw2
   have LE2 := Aside0.mk hleft
   clear hit2 hbw2 hleft
   cases hq : p R with
   | true =>
    rw [hq] at hS LE2
    have HS := Aside0.mk hS
    clear hS hq
    go_wp2_with (go_at_fn g; refine HS.out.mono ?_; rintro e W' ⟨rfl, hb⟩; have HB := Aside0.mk hb; clear hb)
    go_ret
    exact ⟨by rw [← LE2.out, if_pos (by first | trivial | rfl)]; rfl, BW2.out.trans (HB.out.mono BW2.out.size)⟩
   | false =>
    rw [hq] at hS LE2
    have HS := Aside0.mk hS
    clear hS hq
    go_wp2_with (go_at_fn g; refine HS.out.mono ?_; rintro e W' ⟨rfl, hb⟩; have HB := Aside0.mk hb; clear hb)
    go_roundg g'
    case measure => omega
    case rel => exact ⟨pos + K, ⟨(HB.out.block _ (Array.getElem?_eq_some_iff.1 IT2.out).1).trans IT2.out⟩, ⟨BW2.out.trans (HB.out.mono BW2.out.size)⟩, ⟨by have := LE2.out; rwa [if_neg (by simp)] at this⟩, by omega⟩
  ·have hnx : ∀ ty, (Instr.next (.pointer (some ⟨w.heap.size, 0, none⟩)) true ty).run Tryd.prog wr = _ := fun ty => Lib.run_next_end_at wr w.heap.size s pos ty IT.out hps
   have hleft := LE.out
   rw [idxRuneFrom_end p s gk pos hps] at hleft
   have LE2 := Aside0.mk hleft
   clear hleft IT LE
   go_wp2
   go_ret
   exact ⟨by rw [← LE2.out]; rfl, BW.out⟩
set_option maxHeartbeats 8000000 in
theorem strings_IndexFunc_at (g : Nat) (eg : ∀ args W, (callFunc g args).run Tryd.prog W = .ok (.enter g args) W) (p : Nat → Bool) (s : ByteArray) (w : World) (hp : RuneAt Tryd.prog g p) :
  Calls Tryd.prog 43 #[.string s, .func (.func g) #[] #[]] w fun e w' => e = .returned (.int .i64 (idxRune p s)) ∧ Below w.heap.size w w' := by
 have HC := am_ (strings_indexFunc_at g eg p s w hp)
 clear hp eg
 generalize idxRune p s = x at HC
 go_enter Tryd.func43, Tryd.ntmps43
 go_wp2_with (go_at_call 64; refine HC.out.mono ?_; rintro e W' ⟨rfl, hb⟩; have HB := Aside0.mk hb; clear hb)
 go_ret
 exact ⟨rfl, HB.out⟩

/-! ### strings_IndexFunc_with_dns_Label_1: function 43 with 91 -/
def strings_IndexFunc_with_dns_Label_1.p (r : Nat) : Bool := !octB r
set_option maxHeartbeats 4000000 in
theorem strings_IndexFunc_with_dns_Label_1.at_ : RuneAt Tryd.prog 91 strings_IndexFunc_with_dns_Label_1.p := by
 intro W r
 unfold strings_IndexFunc_with_dns_Label_1.p
 have ho := am_ (octB_f r)
 go_enter Tryd.func91, Tryd.ntmps91
 go_wp2_with (go_at_call 92; refine (dns_octet.calls _ _ _ ho.out).mono ?_; rintro e w' ⟨rfl, hd⟩; have HB := am_ (show Below _ _ _ from by first | exact hd.below | exact hd); clear hd)
 go_ret
 exact ⟨rfl, HB.out⟩
def strings_IndexFunc_with_dns_Label_1.f (a0 : ByteArray) : Option (Int) := some (idxRune strings_IndexFunc_with_dns_Label_1.p a0)
theorem strings_IndexFunc_with_dns_Label_1.calls (a0 : ByteArray) (r : Int) (w : World) (h : strings_IndexFunc_with_dns_Label_1.f a0 = some r) :
  Calls Tryd.prog 43 #[.string a0, .func (.func 91) #[] #[]] w fun e w' => e = .returned (.int .i64 r) ∧ Below w.heap.size w w' := by
 obtain rfl := Option.some.inj h
 exact strings_IndexFunc_at 91 (enters_of Tryd.func91 kr_ rfl) _ a0 w strings_IndexFunc_with_dns_Label_1.at_

/-! ### dns_Label: function 83 -/
def dns_Label.f (a0 : ByteArray) : Option (Bool) := if a0.toList = ([] : List UInt8) then (some false) else (if (a0.size : Int) ≤ 20 then ((strings_IndexFunc_with_dns_Label_1.f a0).bind fun t116 => (if t116 < 0 then (if 0 < (a0.size : Int) then (if (bt a0 0) = 45 then (some false) else (if 0 ≤ (wrap64 ((a0.size : Int) - 1)) then (if (wrap64 ((a0.size : Int) - 1)) < (a0.size : Int) then (some ((bt a0 (wrap64 ((a0.size : Int) - 1))) != 45)) else (none)) else (none))) else (none)) else (some false))) else (some false))
set_option maxHeartbeats 8000000 in
set_option maxRecDepth 100000 in
theorem dns_Label.calls (a0 : ByteArray) (r : Bool) (w : World) (h : dns_Label.f a0 = some r) :
  Calls Tryd.prog 83 #[.string a0] w fun e w' => e = .returned (.bool r) ∧ Below w.heap.size w w' := by
 have HB := am_ (Below.refl w.heap.size w)
 have H : (if a0.toList = ([] : List UInt8) then (some false) else (if (a0.size : Int) ≤ 20 then ((strings_IndexFunc_with_dns_Label_1.f a0).bind fun t116 => (if t116 < 0 then (if 0 < (a0.size : Int) then (if (bt a0 0) = 45 then (some false) else (if 0 ≤ (wrap64 ((a0.size : Int) - 1)) then (if (wrap64 ((a0.size : Int) - 1)) < (a0.size : Int) then (some ((bt a0 (wrap64 ((a0.size : Int) - 1))) != 45)) else (none)) else (none))) else (none)) else (some false))) else (some false))) = some r := h
 clear h
 by_cases c2 : a0.toList = ([] : List UInt8)
 ·rw [if_pos c2] at H
  have c2b0 : (a0.toList == ([] : List UInt8)) = true := beq_iff_eq.mpr c2
  have c2b1 : (a0.toList != ([] : List UInt8)) = false := bne_eq_false_iff_eq.mpr c2
  clear c2
  obtain rfl := Option.some.inj H
  go_enter Tryd.func83, Tryd.ntmps83
  go_wp2
  go_ret
  exact ⟨fi_, bel_ HB.out⟩
 ·rw [if_neg c2] at H
  have c2b0 : (a0.toList == ([] : List UInt8)) = false := beq_eq_false_iff_ne.mpr c2
  have c2b1 : (a0.toList != ([] : List UInt8)) = true := bne_iff_ne.mpr c2
  by_cases c3 : (a0.size : Int) ≤ 20
  ·rw [if_pos c3] at H
   have c3b0 : decide ((a0.size : Int) ≤ 20) = true := decide_eq_true c3
   have c3b1 : decide (a0.size ≤ 20) = true := decide_eq_true (by omega)
   clear c3
   replace H := Option.bind_eq_some_iff.mp H
   obtain ⟨t116, A40, H⟩ := H
   replace H : (if t116 < 0 then (if 0 < (a0.size : Int) then (if (bt a0 0) = 45 then (some false) else (if 0 ≤ (wrap64 ((a0.size : Int) - 1)) then (if (wrap64 ((a0.size : Int) - 1)) < (a0.size : Int) then (some ((bt a0 (wrap64 ((a0.size : Int) - 1))) != 45)) else (none)) else (none))) else (none)) else (some false)) = some r := H
   have A4 := Aside0.mk A40
   clear A40
   by_cases c5 : t116 < 0
   ·rw [if_pos c5] at H
    have c5b0 : decide (t116 < 0) = true := decide_eq_true c5
    clear c5
    by_cases c6 : 0 < (a0.size : Int)
    ·rw [if_pos c6] at H
     have c6b0 : decide (0 < (a0.size : Int)) = true := decide_eq_true c6
     have c6b1 : decide (0 < a0.size) = true := decide_eq_true (by omega)
     clear c6
     by_cases c8 : (bt a0 0) = 45
     ·rw [if_pos c8] at H
      have c8b0 : ((bt a0 0) == 45) = true := beq_iff_eq.mpr c8
      have c8b1 : ((bt a0 0) != 45) = false := bne_eq_false_iff_eq.mpr c8
      clear c8
      obtain rfl := Option.some.inj H
      go_enter Tryd.func83, Tryd.ntmps83
      go_wp2_with (first | (go_at_call 43; (with_reducible refine (strings_IndexFunc_with_dns_Label_1.calls a0 t116 _ A4.out).mono ?_); rintro e w9 ⟨rfl, hb⟩; have n0_ := am_ (below_step (bel_ HB.out) hb); clear HB; have HB := n0_; clear n0_; (try clear hb); (try clear hb2); (try clear hk); (try clear hi); have p7 : 0 ≤ (0 : Int) := (by omega); have q7 : 0 < a0.size := (by have : (0 : Int) < (a0.size : Int) := of_decide_eq_true as_; omega); have hx7 : ∀ h : 0 < a0.size, ((a0[0]'h).toNat : Int) = bt a0 0 := bt_at a0 0; clear p7; have qi7 : (0 < (a0.size : Int)) = True := eq_true (of_decide_eq_true as_); replace q7 := eq_true q7))
      go_ret
      exact ⟨fi_, bel_ HB.out⟩
     ·rw [if_neg c8] at H
      have c8b0 : ((bt a0 0) == 45) = false := beq_eq_false_iff_ne.mpr c8
      have c8b1 : ((bt a0 0) != 45) = true := bne_iff_ne.mpr c8
      obtain ⟨ji10, hji10⟩ : ∃ j_ : Int, (wrap64 ((a0.size : Int) - 1)) = j_ := ⟨_, rfl⟩
      replace H : (if 0 ≤ (ji10) then (if (ji10) < (a0.size : Int) then (some ((bt a0 (ji10)) != 45)) else (none)) else (none)) = some r := by first | (rw [hji10] at H; exact H) | (simp only [hji10] at H ⊢; exact H)
      (try rw [hji10] at A4)
      have hji10w : (IntKind.i64.wrap ((a0.size : Int) - 1)) = ji10 := (i64_w _).trans hji10
      by_cases c11 : 0 ≤ (ji10)
      ·rw [if_pos c11] at H
       have c11b0 : decide (0 ≤ (ji10)) = true := decide_eq_true c11
       clear c11
       by_cases c12 : (ji10) < (a0.size : Int)
       ·rw [if_pos c12] at H
        have c12b0 : decide ((ji10) < (a0.size : Int)) = true := decide_eq_true c12
        clear c12
        obtain rfl := Option.some.inj H
        go_enter Tryd.func83, Tryd.ntmps83
        go_wp2_with (first | (go_at_call 43; (with_reducible refine (strings_IndexFunc_with_dns_Label_1.calls a0 t116 _ A4.out).mono ?_); rintro e w14 ⟨rfl, hb⟩; have n0_ := am_ (below_step (bel_ HB.out) hb); clear HB; have HB := n0_; clear n0_; (try clear hb); (try clear hb2); (try clear hk); (try clear hi); have p7 : 0 ≤ (0 : Int) := (by omega); have q7 : 0 < a0.size := (by have : (0 : Int) < (a0.size : Int) := of_decide_eq_true as_; omega); have hx7 : ∀ h : 0 < a0.size, ((a0[0]'h).toNat : Int) = bt a0 0 := bt_at a0 0; clear p7; have qi7 : (0 < (a0.size : Int)) = True := eq_true (of_decide_eq_true as_); replace q7 := eq_true q7; have p13 : 0 ≤ ((ji10) : Int) := of_decide_eq_true as_; have q13 : (ji10) < (a0.size : Int) := of_decide_eq_true as_; have hx13 := bt_at a0 (ji10); replace p13 := eq_true p13; replace q13 := eq_true q13))
        go_ret
        exact ⟨by first | rfl | (simp [errW_none, errW_some] <;> rfl) | (simp only [← hji10]; first | rfl | (simp [errW_none, errW_some] <;> rfl)) | (simp [*, errW_none, errW_some] <;> rfl), bel_ HB.out⟩
       ·rw [if_neg c12] at H
        exact absurd H (by simp)
      ·rw [if_neg c11] at H
       exact absurd H (by simp)
    ·rw [if_neg c6] at H
     exact absurd H (by simp)
   ·rw [if_neg c5] at H
    have c5b0 : decide (t116 < 0) = false := decide_eq_false c5
    clear c5
    obtain rfl := Option.some.inj H
    go_enter Tryd.func83, Tryd.ntmps83
    go_wp2_with (first | (go_at_call 43; (with_reducible refine (strings_IndexFunc_with_dns_Label_1.calls a0 t116 _ A4.out).mono ?_); rintro e w15 ⟨rfl, hb⟩; have n0_ := am_ (below_step (bel_ HB.out) hb); clear HB; have HB := n0_; clear n0_; (try clear hb); (try clear hb2); (try clear hk); (try clear hi)))
    go_ret
    exact ⟨fi_, bel_ HB.out⟩
  ·rw [if_neg c3] at H
   have c3b0 : decide ((a0.size : Int) ≤ 20) = false := decide_eq_false c3
   have c3b1 : decide (a0.size ≤ 20) = false := decide_eq_false (by omega)
   clear c3
   obtain rfl := Option.some.inj H
   go_enter Tryd.func83, Tryd.ntmps83
   go_wp2
   go_ret
   exact ⟨fi_, bel_ HB.out⟩

/-! ### a range over a function whose iterator keeps a state of its own in a cell -/
/-- What such an iterator promises: whatever the loop holds between two rounds, if that abides new blocks and a store into the iterator's own cell: the rounds come in order, all of them, or up to one that says no more. -/
def SeqAt {α : Type} (F : Fence) (n : Nat) (P : Program) (g : Nat) (lb : Array Value) (encs : α → Array Value) (Kp : World → World → Prop) (Bs : Nat) (S Sp : List α → Prop) (Np : List α → Prop) (GG : World → Prop) (w : World) : Prop :=
 ∀ (l : Nat) (J Jx : List α → World → Prop) (W : World), Below w.heap.size w W → AbidesFrom W.heap.size J → AbidesFrom W.heap.size Jx → (∀ s A v, J s A → J s (A.setCell ⟨Bs, 0, none⟩ v)) → (∀ s A, J s A → GG A) →
  (∀ pre x W1, J pre W1 → Np (pre ++ [x]) → YieldAt F (n - 1) P l (encs x) W1 fun e W' =>
   (e = .returned (.bool true) ∧ J (pre ++ [x]) W' ∧ Kp W1 W') ∨ (e = .returned (.bool false) ∧ Jx (pre ++ [x]) W')) →
  J [] W →
  CallsIn F n P g (#[.func (.yield l) #[] #[]] ++ lb) W fun e W' => (∃ v, e = .returned v) ∧ ((∃ xs, S xs ∧ J xs W') ∨ (∃ pre, Sp pre ∧ Jx pre W'))
/-- The loop's record and its block of calls put off lie where they were laid. -/
structure Kept2 (l : Nat) (r : Loop) (W : World) : Prop where
 rec_ : W.heap[l + 1]? = some (.loop r)
 put_ : W.heap[l]? = some (.deferred (some []))
theorem Kept2.turn {l : Nat} {r r' : Loop} {W : World} (h : Kept2 l r W) : Kept2 l r' (W.putObj (l + 1) (.loop r')) :=
 ⟨World.putObj_heap_same (Array.getElem?_eq_some_iff.1 h.1).1, (World.putObj_heap_other (by omega)).trans h.2⟩
theorem Kept2.others {B l : Nat} {r : Loop} {W W' : World} (h : Kept2 l r W) (hk : KeepsFrom B W W') (hB : B ≤ l) : Kept2 l r W' := ⟨hk.same _ _ (by omega) h.1 rfl, hk.same _ _ hB h.2 rfl⟩
theorem Kept2.grown {l : Nat} {r : Loop} {W W' : World} {row : Option Nat} (h : Kept2 l r W) (hg : W.grownBy W' row) (hr : ∀ k, row = some k → ∃ o : Obj, W.heap[k]? = some o ∧ o.isWalk = true) : Kept2 l r W' :=
 ⟨(grownBy_keeps hg hr h.1 rfl).trans h.1, (grownBy_keeps hg hr h.2 rfl).trans h.2⟩
/-- The loop's law: as the kit's, with such an iterator. -/
theorem wpIn_range_cell {F : Fence} {n : Nat} {P : Program} {α : Type} {g : Operand} {ps : Array Tmp} {assign body : Code} {Q : Exit → Act → World → Prop} {a : Act} {w : World}
  (hro : F.round = none) (h1 : 1 ≤ n) {gf : Nat} {lb : Array Value} (hg : a.eval g = .func (.func gf) #[] lb) (hFg : F.fn gf) (eg : ∀ args w, (callFunc gf args).run P w = .ok (.enter gf args) w)
  {encs : α → Array Value} {Kp : World → World → Prop} {Bs : Nat} {S Sp : List α → Prop} {Np : List α → Prop} {GG : World → Prop} {w0 : World} (hseq : SeqAt F (n - 1) P gf lb encs Kp Bs S Sp Np GG w0)
  (hKt : ∀ {A B C : World}, Kp A B → Kp B C → Kp A C) (hKb : ∀ (W : World) (l : Nat) (o o' : Obj), w.heap.size ≤ l → W.heap[l]? = some o → o.isCells = false → o.isWalk = false → Kp W (W.putObj l o')) (hb0 : Below w0.heap.size w0 w) (hps : ∀ x, (encs x).size = ps.size)
  (I : List α → World → Prop) (Ix : List α → World → Prop) (hI : OwnFrom w.heap.size I) (hIx : OwnFrom w.heap.size Ix) (hIc : ∀ s A v, I s A → I s (A.setCell ⟨Bs, 0, none⟩ v)) (hIG : ∀ s A, I s A → GG A) (h0 : I [] w) (a₁ : α → Act)
  (hassign : ∀ (l : Nat) (x : α) (W : World) (K : Act → World → Prop), K (a₁ x) W →
   assign.wpIn (F.inRound l) (n - 1 - 1) P (Exit.then K (fun _ _ _ => False)) { tmps := (ps.zip (encs x)).foldl (fun t (p, v) => t.setIfInBounds p v) a.tmps, defers := [] } W)
  (hbody : ∀ (l : Nat) (pre : List α) (x : α) (W : World), I pre W → Np (pre ++ [x]) → body.wpIn (F.inRound l) (n - 1 - 1) P
   (fun e _ W' => match e with | .normal => KeepsFrom w.heap.size W W' ∧ Kp W W' ∧ I (pre ++ [x]) W' | .ret => KeepsFrom w.heap.size W W' ∧ Ix (pre ++ [x]) W' | _ => False) (a₁ x) W)
  (hdone : ∀ (D : Nat) (xs : List α) (W : World), w.heap.size ≤ D → S xs → I xs W → W.heap[D]? = some (.deferred (some [])) → Q .normal { a with defers := { target := .collected D, args := #[] } :: a.defers } W)
  (hstop : ∀ (D : Nat) (pre : List α) (W : World), w.heap.size ≤ D → Sp pre → Ix pre W → W.heap[D]? = some (.deferred (some [])) → Code.ret.wpIn F n P Q { a with defers := { target := .collected D, args := #[] } :: a.defers } W) :
  (Code.rangeFunc g ps assign body).wpIn F n P Q a w := by
 refine wpIn_rangeFunc fun fn hfn => ?_
 rw [hro]
 obtain ⟨L, hL⟩ : ∃ L : LoopState → Option Code → Loop, L = fun st pe => { state := st, pending := pe, fn, tmps := a.tmps, params := ps, assign, body, defers := w.heap.size } := ⟨_, rfl⟩
 obtain ⟨W1, hW1⟩ : ∃ W1, (w.alloc (.deferred (some []))).alloc (.loop (L .ready none)) = W1 := ⟨_, rfl⟩
 have hk1 : Kept2 w.heap.size (L .ready none) W1 := by
  rw [← hW1]
  refine ⟨?_, (Below.heap_alloc _ _ _ (by simp)).trans (World.alloc_heap_new w _)⟩
  have := World.alloc_heap_new (w.alloc (.deferred (some []))) (.loop (L .ready none))
  rwa [World.size_alloc] at this
 have hi1 : I [] W1 := by rw [← hW1]; exact hI.alloc _ (hI.alloc _ h0)
 have hb1 : Below w0.heap.size w0 W1 := by rw [← hW1]; exact hb0.trans ((((Below.refl _ w).alloc (Nat.le_refl _) _).alloc (by simp) _).mono hb0.size)
 have hs1 : w.heap.size + 2 = W1.heap.size := by rw [← hW1]; simp
 have rows : ∀ {A : World} {row : Option Nat}, (∀ r, row = some r → W1.heap.size ≤ r ∧ ∃ o : Obj, A.heap[r]? = some o ∧ o.isWalk = true) → ∀ r, row = some r → w.heap.size ≤ r ∧ ∃ o : Obj, A.heap[r]? = some o ∧ o.isCells = false :=
  fun hr r e => by obtain ⟨hB, o, ho, hw⟩ := hr r e; exact ⟨by omega, o, ho, Obj.not_cells_of_walk hw⟩
 have cells : ∀ {A : World} {r : Loop} (v : Value), Kept2 w.heap.size r A → Kept2 w.heap.size r (A.setCell ⟨Bs, 0, none⟩ v) := fun {A r} v h => ⟨(KeepsOthers.setCell A ⟨Bs, 0, none⟩ v).same _ _ h.1 rfl, (KeepsOthers.setCell A ⟨Bs, 0, none⟩ v).same _ _ h.2 rfl⟩
 refine ⟨w.heap.size + 1, [{ target := .collected w.heap.size, args := #[] }], W1, { target := .fn (.func gf) lb, args := #[.func (.yield (w.heap.size + 1)) #[] #[]] }, W1, gf,
  #[.func (.yield (w.heap.size + 1)) #[] #[]] ++ lb, W1, by rw [← hW1, hL]; exact run_enterLoop_outer _ _ _ _ _, by simp only [resolve, hg]; simp [go_sem], fun f' hf' => by simp [Target.leads] at hf'; subst hf'; exact hFg, by simp [invoke, go_sem, eg], fun _ => h1, ?_⟩
 refine (hseq (w.heap.size + 1) (fun pre W => I pre W ∧ Kept2 w.heap.size (L .ready none) W) (fun pre W => Ix pre W ∧ Kept2 w.heap.size (L .done (some .ret)) W) W1 hb1
  (fun s A B row hs hg' hr => ⟨hI s A B row hs.1 hg' (rows hr), hs.2.grown hg' fun r e => (hr r e).2⟩) (fun s A B row hs hg' hr => ⟨hIx s A B row hs.1 hg' (rows hr), hs.2.grown hg' fun r e => (hr r e).2⟩)
  (fun s A v hs => ⟨hIc s A v hs.1, cells v hs.2⟩) (fun s A hs => hIG s A hs.1) ?round ⟨hi1, hk1⟩).mono ?_
 case round =>
  rintro pre x W ⟨hi, hk⟩ hlen
  have hy := run_yield (P := P) (args := encs x) hk.1 (by rw [hL]; exact hps x)
  rw [hL] at hy
  have busy : Kept2 w.heap.size { L .ready none with state := .busy } (W.putObj (w.heap.size + 1) (.loop { L .ready none with state := .busy })) := hk.turn
  refine ⟨fn, _, assign, body, hy, roundIn_of_wpIn hfn (hassign _ x W _ ⟨_, run_beginRound hk.1 (by rw [hL]), wpIn_mono (hbody _ pre x _ (hI.putObj _ hi (by omega) hk.1 rfl) hlen) ?_⟩)⟩
  have ends : ∀ (jump : Option Code) (W3 : World), Kept2 w.heap.size { L .ready none with state := .busy } W3 → (Instr.endRound (w.heap.size + 1) jump).run P W3 = .ok (.bool jump.isNone) (W3.putObj (w.heap.size + 1) (.loop (L (if jump.isNone then .ready else .done) jump))) := fun jump W3 h => by
   have := run_endRound (P := P) jump h.1
   rw [hL] at this ⊢
   exact this
  rintro e a3 W3 hp
  cases e with
  | normal =>
   obtain ⟨hk3, hkp3, hi3⟩ := hp
   have b3 := busy.others hk3 (Nat.le_refl _)
   exact ⟨_, _, ends none W3 b3, .inl ⟨rfl, ⟨hI.putObj _ hi3 (by omega) b3.1 rfl, b3.turn⟩, hKt (hKt (hKb _ _ _ _ (by omega) hk.1 rfl rfl) hkp3) (hKb _ _ _ _ (by omega) b3.1 rfl rfl)⟩⟩
  | ret =>
   obtain ⟨hk3, hi3⟩ := hp
   have b3 := busy.others hk3 (Nat.le_refl _)
   exact ⟨_, _, ends (some .ret) W3 b3, .inr ⟨rfl, hIx.putObj _ hi3 (by omega) b3.1 rfl, b3.turn⟩⟩
  | exit id => exact hp.elim
  | goto t => exact hp.elim
  | panic ch => exact hp.elim
  | outgrown => exact hp.elim
 rintro e W2 ⟨⟨v, rfl⟩, ⟨xs, hS, hi, hk⟩ | ⟨pre, hSp, hi, hk⟩⟩
 ·exact ⟨none, _, by have := run_endLoop (P := P) hk.1 (by rw [hL]; simp); rw [hL] at this; exact this, hdone _ xs _ (Nat.le_refl _) hS (hI.putObj _ hi (by omega) hk.1 rfl) ((World.putObj_heap_other (by omega)).trans hk.2)⟩
 ·exact ⟨some .ret, _, by have := run_endLoop (P := P) hk.1 (by rw [hL]; simp); rw [hL] at this; exact this, hstop _ pre _ (Nat.le_refl _) hSp (hIx.putObj _ hi (by omega) hk.1 rfl) ((World.putObj_heap_other (by omega)).trans hk.2)⟩

/-! ### strings_splitSeq: functions 34, 52, 76 -/
theorem new_l (W : World) (v : Value) (t : TypeId) : (W.alloc (.cells #[v] t)).cell? ⟨W.heap.size, 0, none⟩ = some v ∧ (W.alloc (.cells #[v] t)).frozen? ⟨W.heap.size, 0, none⟩ = false := by
 have h := World.alloc_heap_new W (.cells #[v] t)
 exact ⟨by unfold World.cell?; rw [h]; rfl, by unfold World.frozen?; rw [h]; rfl⟩
theorem kept_l {W : World} {a : Addr} {v : Value} (o : Obj) (h : W.cell? a = some v) : (W.alloc o).cell? a = some v := Go.cell_kept h (World.grownBy_alloc W o none) (fun r e => by cases e)
theorem kept_f {W : World} {a : Addr} {v : Value} (o : Obj) (h : W.cell? a = some v) (hf : W.frozen? a = false) : (W.alloc o).frozen? a = false := (Go.frozen_kept h (World.grownBy_alloc W o none) (fun r e => by cases e)).trans hf
/-- What lies between cuts: ix tells where the next one is; m: how long it is. -/
def cuts (ix : ByteArray → Int) (m : Nat) : Nat → ByteArray → List ByteArray
 | 0, s => [s]
 | k + 1, s => if ix s < 0 then [s] else s.extract 0 (ix s).toNat :: cuts ix m k (s.extract ((ix s).toNat + m) s.size)
theorem cuts_neg {ix : ByteArray → Int} {m : Nat} {s : ByteArray} (h : ix s < 0) : ∀ k, cuts ix m k s = [s]
 | 0 => rfl
 | k + 1 => by rw [cuts, if_pos h]
theorem cuts_pos {ix : ByteArray → Int} {m k : Nat} {s : ByteArray} (h : ¬ ix s < 0) : cuts ix m (k + 1) s = s.extract 0 (ix s).toNat :: cuts ix m k (s.extract ((ix s).toNat + m) s.size) := by rw [cuts, if_neg h]
theorem cuts_more (ix : ByteArray → Int) (m : Nat) (hm : 1 ≤ m) (hb : ∀ s, 0 ≤ ix s → (ix s).toNat + m ≤ s.size) : ∀ (k : Nat) (s : ByteArray), s.size ≤ k → cuts ix m (k + 1) s = cuts ix m k s := by
 intro k
 induction k with
 | zero =>
  intro s h
  by_cases c : ix s < 0
  ·rw [cuts_neg c, cuts_neg c]
  ·have := hb s (by omega); omega
 | succ k ih =>
  intro s h
  by_cases c : ix s < 0
  ·rw [cuts_neg c, cuts_neg c]
  ·rw [cuts_pos c, cuts_pos (k := k) c, ih _ (by have := hb s (by omega); rw [ByteArray.size_extract]; omega)]
theorem cuts_enough (ix : ByteArray → Int) (m : Nat) (hm : 1 ≤ m) (hb : ∀ s, 0 ≤ ix s → (ix s).toNat + m ≤ s.size) (s : ByteArray) : ∀ (k : Nat), s.size ≤ k → cuts ix m k s = cuts ix m s.size s := by
 intro k
 induction k with
 | zero => intro h; rw [show s.size = 0 by omega]
 | succ k ih =>
  intro h
  rcases Nat.lt_or_ge k s.size with c | c
  ·rw [show s.size = k + 1 by omega]
  ·rw [cuts_more ix m hm hb k s c, ih c]
theorem cuts_cons (ix : ByteArray → Int) (m : Nat) (hm : 1 ≤ m) (hb : ∀ s, 0 ≤ ix s → (ix s).toNat + m ≤ s.size) {s : ByteArray} {i : Nat} (h : ix s = (i : Int)) :
  cuts ix m s.size s = s.extract 0 i :: cuts ix m (s.extract (i + m) s.size).size (s.extract (i + m) s.size) := by
 have h1 := hb s (by omega)
 rw [h, Int.toNat_natCast] at h1
 obtain ⟨k, hk⟩ : ∃ k, s.size = k + 1 := ⟨s.size - 1, by omega⟩
 have h2 : cuts ix m s.size s = cuts ix m (k + 1) s := by rw [hk]
 rw [h2, cuts_pos (by omega), h, Int.toNat_natCast, cuts_enough ix m hm hb _ k (by rw [ByteArray.size_extract]; omega)]
/-- The iterator's three boxes: what is still to be cut, the cut, what is kept of it. -/
structure Boxes3 (b : Nat) (s sep : ByteArray) (W : World) : Prop where
 s_ : W.cell? ⟨b, 0, none⟩ = some (.string s)
 f_ : W.frozen? ⟨b, 0, none⟩ = false
 sep_ : W.cell? ⟨b + 1, 0, none⟩ = some (.string sep)
 save_ : W.cell? ⟨b + 2, 0, none⟩ = some (.int .i64 0)
/-- The three boxes lie as they lay. -/
def Keeps3 (b : Nat) (W W' : World) : Prop := ∀ k, b ≤ k → k < b + 3 → W'.heap[k]? = W.heap[k]?
theorem Boxes3.kept {b : Nat} {s sep : ByteArray} {W W' : World} (h : Boxes3 b s sep W) (hk : Keeps3 b W W') : Boxes3 b s sep W' :=
 ⟨(World.cell?_of_block (a := ⟨b, 0, none⟩) (hk b (Nat.le_refl _) (by omega))).trans h.s_, (World.frozen?_of_block (a := ⟨b, 0, none⟩) (hk b (Nat.le_refl _) (by omega))).trans h.f_,
  (World.cell?_of_block (a := ⟨b + 1, 0, none⟩) (hk (b + 1) (by omega) (by omega))).trans h.sep_, (World.cell?_of_block (a := ⟨b + 2, 0, none⟩) (hk (b + 2) (by omega) (by omega))).trans h.save_⟩
theorem Keeps3.drewN {b : Nat} {W : World} (n : Nat) : Keeps3 b W (W.drewN n) := fun _ _ _ => rfl
/-- How much is still to be cut. -/
def boxLen (b : Nat) (W : World) : Nat := match W.cell? ⟨b, 0, none⟩ with | some (.string t) => t.size | _ => 0
theorem boxLen_eq {b : Nat} {W : World} {s : ByteArray} (h : W.cell? ⟨b, 0, none⟩ = some (.string s)) : boxLen b W = s.size := by unfold boxLen; rw [h]
theorem seq_at (s sep : ByteArray) (w : World) : Calls Tryd.prog 34 #[.string s, .string sep] w fun e w' => ∃ n, e = .returned (.func (.func 76) #[] #[.pointer (some ⟨w.heap.size + 1, 0, none⟩), .pointer (some ⟨w.heap.size, 0, none⟩), .pointer (some ⟨w.heap.size + 2, 0, none⟩)]) ∧
  w' = (((w.alloc (.cells #[.string s] 9)).alloc (.cells #[.string sep] 9)).alloc (.cells #[.int .i64 0] 3)).drewN n := by
 have h : Calls Tryd.prog 52 #[.string s, .string sep, .int .i64 0] w fun e w' => ∃ n, e = .returned (.func (.func 76) #[] #[.pointer (some ⟨w.heap.size + 1, 0, none⟩), .pointer (some ⟨w.heap.size, 0, none⟩), .pointer (some ⟨w.heap.size + 2, 0, none⟩)]) ∧
   w' = (((w.alloc (.cells #[.string s] 9)).alloc (.cells #[.string sep] 9)).alloc (.cells #[.int .i64 0] 3)).drewN n := by
  go_enter Tryd.func52, Tryd.ntmps52
  go_wp2
  go_ret
  exact ⟨0, by simp, rfl⟩
 go_enter Tryd.func34, Tryd.ntmps34
 go_wp2_with (go_at_call 52; refine h.mono ?_; rintro e w' ⟨n, rfl, rfl⟩)
 go_ret
 exact ⟨n, rfl, rfl⟩
set_option maxRecDepth 100000 in
set_option maxHeartbeats 4000000 in
/-- The iterator: the pieces in order, all, or up to one that says no more. -/
theorem split1_in (ix : ByteArray → Int) (sep : ByteArray) (hsep : 1 ≤ sep.size) (GG : World → Prop) (M : Nat) (hix : ∀ (s : ByteArray) (W : World), s.size ≤ M → GG W → Calls Tryd.prog 20 #[.string s, .string sep] W fun e W' => e = .returned (.int .i64 (ix s)) ∧ Drawn0 W W')
  (hb : ∀ s, 0 ≤ ix s → (ix s).toNat + sep.size ≤ s.size) (s : ByteArray) (hs : s.size ≤ M) (hM : M ≤ 140737488355328) (l b : Nat) (J Jx : List ByteArray → World → Prop) (W : World)
  (hJ : AbidesFrom W.heap.size J) (hJx : AbidesFrom W.heap.size Jx) (hJc : ∀ s A v, J s A → J s (A.setCell ⟨b, 0, none⟩ v)) (hJG : ∀ s A, J s A → GG A)
  (hY : ∀ pre x W1, J pre W1 → (pre ++ [x]) <+: cuts ix sep.size s.size s → YieldAt Fence.wide 2 Tryd.prog l #[.string x] W1 fun e W' => (e = .returned (.bool true) ∧ J (pre ++ [x]) W' ∧ Keeps3 b W1 W') ∨ (e = .returned (.bool false) ∧ Jx (pre ++ [x]) W'))
  (hB : Boxes3 b s sep W) (h0 : J [] W) :
  CallsIn Fence.wide 3 Tryd.prog 76 #[.func (.yield l) #[] #[], .pointer (some ⟨b + 1, 0, none⟩), .pointer (some ⟨b, 0, none⟩), .pointer (some ⟨b + 2, 0, none⟩)] W fun e W' => (∃ v, e = .returned v) ∧
   ((∃ xs, xs = cuts ix sep.size s.size s ∧ J xs W') ∨ (∃ pre, pre <+: cuts ix sep.size s.size s ∧ Jx pre W')) := by
 have hdr : ∀ (s' : List ByteArray) (A : World) (n : Nat), J s' A → J s' (A.drewN n) := fun s' A n h => hJ s' A _ none h ⟨rfl, rfl, rfl, Nat.le_refl _, fun _ _ _ => rfl⟩ (fun r e => by cases e)
 have hne : ¬ (sep.size : Int) = 0 := by omega
 have hz0 : ((sep.size : Int) == 0) = false := beq_eq_false_iff_ne.2 hne
 have h1 := hB.s_
 have h2 := hB.sep_
 have h3 := hB.save_
 refine callsIn_of_wp Tryd.func76 rfl trivial ?_ rfl
 simp only [Tryd.ntmps76, List.size_toArray, List.length_cons, List.length_nil, Nat.reduceAdd, Nat.reduceSub, Array.replicate_succ, Array.replicate_zero, List.push_toArray, List.append_toArray, List.nil_append, List.cons_append]
 gi_wp2
 gi_loopw [7, 8] (fun i f wr => ∃ (pre : List ByteArray) (s' : ByteArray), cuts ix sep.size s.size s = pre ++ cuts ix sep.size s'.size s' ∧ s'.size ≤ s.size ∧ Boxes3 b s' sep wr ∧ J pre wr)
  (fun i f wr => boxLen b wr)
 case atStart => exact ⟨[], s, rfl, Nat.le_refl _, hB, h0⟩
 case round =>
  obtain ⟨pre, s', hx, hle, hB', hJs⟩ := hrel
  have hJGs := hJG _ _ hJs
  have g1 := hB'.s_
  have g2 := hB'.sep_
  have g3 := hB'.save_
  by_cases hneg : ix s' < 0
  ·rw [cuts_neg hneg] at hx
   gi_wp2_with (refine ⟨trivial, ?_⟩; gi_at_call 20; refine (callsIn_wide.2 (hix s' _ (by omega) hJGs)).mono ?_; rintro e w' ⟨rfl, hd⟩; obtain ⟨n, rfl⟩ := hd.out)
   obtain ⟨fn, tmps, assign, body, hy, hR⟩ := hY pre s' (wr.drewN n) (hdr _ _ _ hJs) (by rw [hx]; exact List.prefix_refl _)
   rw [hy]
   gi_wp2
   refine hR.mono ?_
   rintro e W3 (⟨rfl, hJ3, hk3⟩ | ⟨rfl, hJx3⟩)
   ·gi_wp2
    go_end0
    exact ⟨⟨_, rfl⟩, .inl ⟨_, rfl, by rw [hx]; exact hJ3⟩⟩
   ·gi_wp2
    go_end0
    exact ⟨⟨_, rfl⟩, .inr ⟨pre ++ [s'], by rw [hx]; exact List.prefix_refl _, hJx3⟩⟩
  ·obtain ⟨i, hi⟩ : ∃ i : Nat, ix s' = (i : Int) := ⟨(ix s').toNat, by omega⟩
   have hfit := hb s' (by omega)
   have hc := cuts_cons ix sep.size hsep hb hi
   have hix' := hix s'
   rw [hi] at hix' hneg
   gi_wp2_with (refine ⟨trivial, ?_⟩; gi_at_call 20; refine (callsIn_wide.2 (hix' _ (by omega) hJGs)).mono ?_; rintro e w' ⟨rfl, hd⟩; obtain ⟨n, rfl⟩ := hd.out)
   obtain ⟨fn, tmps, assign, body, hy, hR⟩ := hY pre (s'.extract 0 i) (wr.drewN n) (hdr _ _ _ hJs) (by rw [hx, hc]; exact ⟨_, List.append_assoc _ _ _⟩)
   rw [hy]
   gi_wp2
   refine hR.mono ?_
   rintro e W3 (⟨rfl, hJ3, hk3⟩ | ⟨rfl, hJx3⟩)
   ·have hB3 := (hB'.kept (Keeps3.drewN n)).kept hk3
    have g1' := hB3.s_
    have g2' := hB3.sep_
    have gf := hB3.f_
    gi_wp2
    go_roundw
    case rel =>
     have hr1 : cuts ix sep.size s.size s = (pre ++ [s'.extract 0 i]) ++ cuts ix sep.size (s'.extract (i + sep.size) s'.size).size (s'.extract (i + sep.size) s'.size) := by rw [hx, hc, List.append_assoc]; rfl
     have hr2 : Boxes3 b (s'.extract (i + sep.size) s'.size) sep (W3.setCell ⟨b, 0, none⟩ (.string (s'.extract (i + sep.size) s'.size))) := ⟨World.cell?_setCell_same' _ _ _ (by rw [g1']; rfl), by rw [World.frozen?_setCell]; exact gf, (World.cell?_setCell_far W3 ⟨b, 0, none⟩ ⟨b + 1, 0, none⟩ _ (by simp)).trans hB3.sep_, (World.cell?_setCell_far W3 ⟨b, 0, none⟩ ⟨b + 2, 0, none⟩ _ (by simp)).trans hB3.save_⟩
     exact ⟨_, _, hr1, by rw [ByteArray.size_extract]; omega, hr2, hJc _ _ _ hJ3⟩
    case measure =>
     rw [boxLen_eq (World.cell?_setCell_same' _ _ _ (by rw [g1']; rfl)), boxLen_eq g1, ByteArray.size_extract]
     omega
   ·gi_wp2
    refine bodyPost_ret (results_none rfl _ _ _) rfl ?_
    exact ⟨⟨_, rfl⟩, .inr ⟨_, by rw [hx, hc]; exact ⟨_, List.append_assoc _ _ _⟩, hJx3⟩⟩
theorem firstIdx_fit (c : UInt8) (s : ByteArray) (h : 0 ≤ firstIdx s c) : (firstIdx s c).toNat + 1 ≤ s.size := by
 unfold firstIdx at h ⊢
 split
 ·next i e =>
  have := List.mem_range.1 (List.mem_of_find?_eq_some e)
  omega
 ·next e => rw [e] at h; exact absurd h (by decide)
theorem index1 (s : ByteArray) (c : UInt8) : strings_Index.f 1 s ⟨#[c]⟩ = some (firstIdx s c) := by
 have hb : bt ⟨#[c]⟩ 0 = (c.toNat : Int) := rfl
 have hj : ∀ b, b = ((⟨#[c]⟩ : ByteArray).toList == s.toList) → stringslite_Index.j0 1 s ⟨#[c]⟩ 1 b = if b = true then some 0 else some (firstIdx s c) := fun b _ => by
  rw [stringslite_Index.j0, if_pos rfl, if_pos (show (0 : Int) < ((⟨#[c]⟩ : ByteArray).size : Int) by show (0 : Int) < 1; decide), hb]
  unfold stringslite_IndexByte.f
  rw [Option.bind_some, Int.toNat_natCast, show c.toNat.toUInt8 = c from UInt8.ofNat_toNat]
 unfold strings_Index.f stringslite_Index.f
 rw [show ((⟨#[c]⟩ : ByteArray).size : Int) = 1 from rfl, if_neg (by decide), hj _ rfl]
 by_cases h : ((⟨#[c]⟩ : ByteArray).toList == s.toList) = true
 ·rw [if_pos h]
  have hs : s = ⟨#[c]⟩ := by
   have := eq_of_beq h
   rw [ByteArray.toList_eq, ByteArray.toList_eq] at this
   obtain ⟨⟨l⟩⟩ := s
   exact congrArg (fun z : List UInt8 => (⟨⟨z⟩⟩ : ByteArray)) (show l = [c] from this.symm)
  rw [hs]
  unfold firstIdx
  rw [show (⟨#[c]⟩ : ByteArray).size = 1 from rfl, show List.range 1 = [0] from rfl, List.find?_cons_of_pos (by show ((⟨#[c]⟩ : ByteArray)[0]! == c) = true; exact beq_self_eq_true c)]
  rfl
 ·rw [if_neg h]; rfl
/-- A text's pieces between one octet. -/
def pieces (c : UInt8) (s : ByteArray) : List ByteArray := cuts (fun t => firstIdx t c) 1 s.size s
/-- The iterator over the pieces of a text, where its three boxes lie. -/
theorem seq1_stops (c : UInt8) (s : ByteArray) (hs : s.size ≤ 140737488355328) (b : Nat) (w : World) (hw : b + 3 ≤ w.heap.size) (hB : Boxes3 b s ⟨#[c]⟩ w) :
  SeqAt Fence.wide 3 Tryd.prog 76 #[.pointer (some ⟨b + 1, 0, none⟩), .pointer (some ⟨b, 0, none⟩), .pointer (some ⟨b + 2, 0, none⟩)] (fun x : ByteArray => #[Value.string x]) (Keeps3 b) b (fun xs => xs = pieces c s) (fun pre => pre <+: pieces c s) (fun xs => xs <+: pieces c s) (fun _ => True) w := by
 intro l J Jx W hW hJ hJx hJc _ hY h0
 have hk : Keeps3 b w W := fun k h1 h2 => hW.block k (by omega)
 exact split1_in (fun t => firstIdx t c) ⟨#[c]⟩ (by show 1 ≤ 1; decide) (fun _ => True) 140737488355328 (fun t W _ _ => strings_Index.calls 1 t ⟨#[c]⟩ _ W (index1 t c)) (fun t h => firstIdx_fit c t h) s hs (Nat.le_refl _) l b J Jx W hJ hJx hJc (fun _ _ _ => trivial) hY (hB.kept hk) h0

/-! ### dns_Name: function 63 -/
/-- Is a text a label? -/
def labB (s : ByteArray) : Bool := dns_Label.f s == some true
theorem label_f (s : ByteArray) : dns_Label.f s = some (labB s) := by
 have h : ∃ b, dns_Label.f s = some b := by
  unfold dns_Label.f strings_IndexFunc_with_dns_Label_1.f
  rw [Option.bind_some]
  by_cases h1 : s.toList = ([] : List UInt8)
  ·rw [if_pos h1]; exact ⟨_, rfl⟩
  ·rw [if_neg h1]
   have h0 : 0 < s.size := by
    rcases Nat.eq_zero_or_pos s.size with c | c
    ·refine absurd ?_ h1
     rw [ByteArray.toList_eq]
     exact List.eq_nil_of_length_eq_zero (by rw [Array.length_toList]; exact c)
    ·exact c
   by_cases h2 : (s.size : Int) ≤ 20
   ·rw [if_pos h2, if_pos (show (0 : Int) < (s.size : Int) by omega), show wrap64 ((s.size : Int) - 1) = (s.size : Int) - 1 from by unfold wrap64; omega, if_pos (show (0 : Int) ≤ (s.size : Int) - 1 by omega), if_pos (show (s.size : Int) - 1 < (s.size : Int) by omega)]
    split
    ·split
     ·exact ⟨_, rfl⟩
     ·exact ⟨_, rfl⟩
    ·exact ⟨_, rfl⟩
   ·rw [if_neg h2]; exact ⟨_, rfl⟩
 obtain ⟨b, h⟩ := h
 unfold labB
 rw [h]
 cases b <;> rfl
/-- Is a text a name? -/
def dns_Name.f (a0 : ByteArray) : Option (Bool) := some (decide (a0.size ≤ 60) && (pieces 46 a0).all labB)
section
attribute [local go_sem] Oper.semAt_some
set_option maxHeartbeats 8000000 in
set_option maxRecDepth 100000 in
theorem dns_Name.calls (a0 : ByteArray) (r : Bool) (w : World) (h : dns_Name.f a0 = some r) :
  Calls Tryd.prog 63 #[.string a0] w fun e w' => e = .returned (.bool r) ∧ Below w.heap.size w w' := by
 obtain rfl := Option.some.inj h
 clear h
 have hlab : ∀ x, dns_Label.f x = some (labB x) := label_f
 refine (callsIn_wide (n := 4)).1 ?_
 refine callsIn_of_wp_marks Tryd.func63 rfl trivial ?_ rfl
 simp only [Tryd.ntmps63, List.size_toArray, List.length_cons, List.length_nil, Nat.reduceAdd, Nat.reduceSub, Array.replicate_succ, Array.replicate_zero, List.push_toArray, List.append_toArray, List.nil_append, List.cons_append]
 by_cases hl : a0.size ≤ 60
 ·rw [decide_eq_true hl, Bool.true_and]
  obtain ⟨R, hR⟩ : ∃ R, (pieces 46 a0).all labB = R := ⟨_, rfl⟩
  rw [hR]
  gi_wp2_with (refine ⟨trivial, ?_⟩; gi_at_call 34; refine (callsIn_wide.2 (seq_at _ _ _)).mono ?_; rintro e w' ⟨n, rfl, rfl⟩)
  obtain ⟨W0, hW0⟩ : ∃ W0, W0 = ((((w.alloc (.cells #[.bool false] 4)).alloc (.cells #[.string a0] 9)).alloc (.cells #[.string ⟨#[46]⟩] 9)).alloc (.cells #[.int .i64 0] 3)).drewN n := ⟨_, rfl⟩
  have hs0 : W0.heap.size = w.heap.size + 4 := by rw [hW0]; simp
  have z0 := new_l w (.bool false) 4
  have z1 := new_l (w.alloc (.cells #[.bool false] 4)) (.string a0) 9
  have z2 := new_l ((w.alloc (.cells #[.bool false] 4)).alloc (.cells #[.string a0] 9)) (.string ⟨#[46]⟩) 9
  have z3 := new_l (((w.alloc (.cells #[.bool false] 4)).alloc (.cells #[.string a0] 9)).alloc (.cells #[.string ⟨#[46]⟩] 9)) (.int .i64 0) 3
  simp only [World.size_alloc] at z1 z2 z3
  have c0 : W0.cell? ⟨w.heap.size, 0, none⟩ = some (.bool false) ∧ W0.frozen? ⟨w.heap.size, 0, none⟩ = false := by
   rw [hW0]
   have y1 := kept_l (.cells #[.string a0] 9) z0.1
   have y2 := kept_l (.cells #[.string ⟨#[46]⟩] 9) y1
   exact ⟨kept_l _ y2, kept_f _ y2 (kept_f _ y1 (kept_f _ z0.1 z0.2))⟩
  have b0 : Boxes3 (w.heap.size + 1) a0 ⟨#[46]⟩ W0 := by
   rw [hW0]
   have y2 := kept_l (.cells #[.string ⟨#[46]⟩] 9) z1.1
   exact ⟨kept_l _ y2, kept_f _ y2 (kept_f _ z1.1 z1.2), kept_l _ z2.1, z3.1⟩
  have hB0 : Below w.heap.size w W0 := by rw [hW0]; exact ((((((Below.refl _ w).alloc (Nat.le_refl _) _).alloc (by simp) _).alloc (by simp; omega) _).alloc (by simp; omega) _)).trans ⟨rfl, rfl, rfl, Nat.le_refl _, fun _ _ => rfl⟩
  (try simp only [World.size_alloc])
  rw [← hW0]
  refine wpIn_range_cell rfl (by omega) (gf := 76) (lb := #[.pointer (some ⟨w.heap.size + 1 + 1, 0, none⟩), .pointer (some ⟨w.heap.size + 1, 0, none⟩), .pointer (some ⟨w.heap.size + 1 + 2, 0, none⟩)]) rfl trivial (enters_of Tryd.func76 kr_ rfl)
   (seq1_stops 46 a0 (by omega) (w.heap.size + 1) W0 (by omega) b0) (fun h k i h1 h2 => (k i h1 h2).trans (h i h1 h2)) (fun W l o o' hl _ _ _ k h1 h2 => World.putObj_heap_other (by omega)) (Below.refl _ _) (fun _ => rfl)
   (fun pre W => ((∀ y ∈ pre, labB y = true) ∧ W.cell? ⟨w.heap.size, 0, none⟩ = some (.bool false) ∧ W.frozen? ⟨w.heap.size, 0, none⟩ = false ∧ w.heap.size + 4 ≤ W.heap.size) ∧ Below w.heap.size w W)
   (fun pre W => ((∃ y ∈ pre, labB y = false) ∧ W.cell? ⟨w.heap.size, 0, none⟩ = some (.bool false)) ∧ Below w.heap.size w W)
   (OwnFrom.and (Own.from (fun s A B row hs hg hr => ⟨hs.1, Go.cell_kept hs.2.1 hg hr, (Go.frozen_kept hs.2.1 hg hr).trans hs.2.2.1, Nat.le_trans hs.2.2.2 hg.size⟩) _) (ownFrom_below (Nat.le_refl _) (by omega)))
   (OwnFrom.and (Own.from (fun s A B row hs hg hr => ⟨hs.1, Go.cell_kept hs.2 hg hr⟩) _) (ownFrom_below (Nat.le_refl _) (by omega)))
   (fun s A v hs => ⟨⟨hs.1.1, (World.cell?_setCell_far A ⟨w.heap.size + 1, 0, none⟩ ⟨w.heap.size, 0, none⟩ v (by simp)).trans hs.1.2.1, by rw [World.frozen?_setCell]; exact hs.1.2.2.1, by simpa using hs.1.2.2.2⟩, hs.2.setCell (p := ⟨w.heap.size + 1, 0, none⟩) (by simp) _⟩)
   (fun _ _ _ => trivial)
   ⟨⟨fun y hy => (by cases hy), c0.1, c0.2, by omega⟩, hB0⟩
   (fun x => { tmps := #[.string a0, undef, .pointer (some ⟨w.heap.size, 0, none⟩), .string x, .string a0, .int .i64 a0.size, .bool (decide (60 < (a0.size : Int))), .string a0, .func (.func 76) #[] #[.pointer (some ⟨w.heap.size + 1 + 1, 0, none⟩), .pointer (some ⟨w.heap.size + 1, 0, none⟩), .pointer (some ⟨w.heap.size + 1 + 2, 0, none⟩)], .string x, undef, undef, undef], defers := [] }) ?assign ?body ?done ?stop
  case assign =>
   intro l x W K hK
   gi_wp2
   exact hK
  case body =>
   rintro l pre x W ⟨⟨hp, hc, hf, hsz⟩, hB⟩ _
   have hlt : w.heap.size < W.heap.size := by omega
   have hx := hlab x
   cases hv : labB x with
   | true =>
    rw [hv] at hx
    gi_wp2_with (refine ⟨trivial, ?_⟩; gi_at_call 83; refine (CallsIn.inRound l (callsIn_wide.2 (dns_Label.calls x true W hx))).mono ?_; rintro e w' ⟨rfl, hd⟩; have hc' : w'.cell? ⟨w.heap.size, 0, none⟩ = some (.bool false) := (hd.cell (p := ⟨w.heap.size, 0, none⟩) hlt).trans hc; have hf' : w'.frozen? ⟨w.heap.size, 0, none⟩ = false := (World.frozen?_of_block (a := ⟨w.heap.size, 0, none⟩) (hd.block _ hlt)).trans hf; have hk' : KeepsFrom W0.heap.size W w' := ⟨hd.size, fun k o _ hk _ => (hd.block k (Array.getElem?_eq_some_iff.1 hk).1).trans hk⟩; have hb' : Below w.heap.size w w' := hB.trans (hd.mono hB.size); have hsz' : w.heap.size + 4 ≤ w'.heap.size := Nat.le_trans hsz hd.size; have h3' : Keeps3 (w.heap.size + 1) W w' := fun k h1 h2 => hd.block k (by omega))
    exact ⟨by rw [hs0] at hk'; exact hk', fun y hy => hy.elim (hp y) fun e => by rw [e]; exact hv⟩
   | false =>
    rw [hv] at hx
    gi_wp2_with (refine ⟨trivial, ?_⟩; gi_at_call 83; refine (CallsIn.inRound l (callsIn_wide.2 (dns_Label.calls x false W hx))).mono ?_; rintro e w' ⟨rfl, hd⟩; have hc' : w'.cell? ⟨w.heap.size, 0, none⟩ = some (.bool false) := (hd.cell (p := ⟨w.heap.size, 0, none⟩) hlt).trans hc; have hf' : w'.frozen? ⟨w.heap.size, 0, none⟩ = false := (World.frozen?_of_block (a := ⟨w.heap.size, 0, none⟩) (hd.block _ hlt)).trans hf; have hk' : KeepsFrom W0.heap.size W w' := ⟨hd.size, fun k o _ hk _ => (hd.block k (Array.getElem?_eq_some_iff.1 hk).1).trans hk⟩; have hb' : Below w.heap.size w w' := hB.trans (hd.mono hB.size); have hsz' : w.heap.size + 4 ≤ w'.heap.size := Nat.le_trans hsz hd.size; have h3' : Keeps3 (w.heap.size + 1) W w' := fun k h1 h2 => hd.block k (by omega))
    exact ⟨by rw [hs0] at hk'; exact hk'.trans ((KeepsOthers.setCell w' _ _).from _), hb'.setCell (p := ⟨w.heap.size, 0, none⟩) (by simp) _⟩
  case done =>
   rintro D ys W hD rfl ⟨⟨hne, hcr, hfr, _⟩, hB⟩ hK
   obtain rfl : R = true := hR.symm.trans (List.all_eq_true.2 hne)
   gi_wp2
   have hK' := (KeepsOthers.setCell W ⟨w.heap.size, 0, none⟩ (.bool true)).same D _ hK rfl
   refine ⟨by simp, .inl ⟨_, _, rfl, run_takeDeferred hK', ?_⟩⟩
   have hc5 := Go.cell_kept (World.cell?_setCell_same' W ⟨w.heap.size, 0, none⟩ (.bool true) (by rw [hcr]; rfl)) (grownBy_putObj' _ D (.deferred none)) (fun r e => by cases e; exact ⟨_, hK', rfl⟩)
   refine ⟨.bool true, ?_, rfl, (hB.setCell (p := ⟨w.heap.size, 0, none⟩) (by simp) _).trans (belowK_b (w := w) (Nat.le_refl _) _ D _ _ (by omega) hK' rfl rfl)⟩
   simp [results, Tryd.f63, go_sem, hc5]
  case stop =>
   rintro D pre W hD hpre ⟨⟨⟨y, hy, hv⟩, hcr⟩, hB⟩ hK
   obtain rfl : R = false := hR.symm.trans (List.all_eq_false.2 ⟨y, hpre.subset hy, by rw [hv]; decide⟩)
   gi_wp2
   refine ⟨by simp, .inl ⟨_, _, rfl, run_takeDeferred hK, ?_⟩⟩
   have hc5 := Go.cell_kept hcr (grownBy_putObj' _ D (.deferred none)) (fun r e => by cases e; exact ⟨_, hK, rfl⟩)
   refine ⟨.bool false, ?_, rfl, hB.trans (belowK_b (w := w) (Nat.le_refl _) W D _ _ (by omega) hK rfl rfl)⟩
   simp [results, Tryd.f63, go_sem, hc5]
 ·rw [decide_eq_false hl, Bool.false_and]
  gi_wp2
  have z0 := new_l w (.bool false) 4
  show LeavesIn _ _ _ _ _ _ _ _ _
  refine ⟨.bool false, ?_, rfl, (Below.refl _ w).alloc (Nat.le_refl _) _⟩
  simp [results, Tryd.f63, go_sem, z0.1]
end

end Go.Proofs.YtpmllmfamjpinaaDoor.P
