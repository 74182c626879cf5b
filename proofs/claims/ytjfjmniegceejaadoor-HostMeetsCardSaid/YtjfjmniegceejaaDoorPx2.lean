-- written by wip/tool/hprint.py of this repo: the kit's print, with contracts by hand joined; Lean checks it.
import Derived.Test.YtjfjmniegceejaaDoorPx0
namespace Go.Proofs.YtjfjmniegceejaaDoor.P
open Go.RowKit Go.Proofs.YtjfjmniegceejaaDoorW.PrintWords Go.Proofs.YtjfjmniegceejaaDoorW.PrintLast Go.Proofs.YtjfjmniegceejaaDoorW.PrintMore
attribute [local go_sem] max2_int min2_int max_two min_two max_three min_three max_four min_four   -- for this text's walks alone
set_option linter.unusedVariables false
set_option linter.unusedSimpArgs false

/-! ### tolllaw01_Few: function 11 -/
def tolllaw01_Few.f (a0 : ByteArray) : Option (ByteArray) := if (a0.size : Int) > 100 then (if 0 ≤ 100 then (if 100 ≤ (a0.size : Int) then (some (a0.extract 0 100)) else (none)) else (none)) else (some a0)
set_option maxHeartbeats 8000000 in
set_option maxRecDepth 100000 in
theorem tolllaw01_Few.calls (a0 : ByteArray) (r : ByteArray) (w : World) (h : tolllaw01_Few.f a0 = some r) :
    Calls Tryd.prog 11 #[.string a0] w fun e w' => e = .returned (.string r) ∧ Drawn0 w w' := by
  have H : (if (a0.size : Int) > 100 then (if 0 ≤ 100 then (if 100 ≤ (a0.size : Int) then (some (a0.extract 0 100)) else (none)) else (none)) else (some a0)) = some r := h
  clear h
  by_cases c2 : (a0.size : Int) > 100
  · rw [if_pos c2] at H
    have c2b0 : decide (100 < (a0.size : Int)) = true := decide_eq_true c2
    have c2b1 : decide (100 < a0.size) = true := decide_eq_true (by omega)
    clear c2
    by_cases c3 : 0 ≤ 100
    · rw [if_pos c3] at H
      have c3b0 := eq_true c3
      have c3b1 : decide (0 ≤ 100) = true := decide_eq_true c3
      clear c3
      by_cases c4 : 100 ≤ (a0.size : Int)
      · rw [if_pos c4] at H
        have c4b0 := eq_true c4
        have c4b1 : decide (100 ≤ (a0.size : Int)) = true := decide_eq_true c4
        clear c4
        obtain rfl := Option.some.inj H
        go_enter Tryd.func11, Tryd.ntmps11
        go_wp2
        go_ret
        exact ⟨by first | rfl | (simp; done) | (simp [*]; done) | (simp [bne_nil_isEmpty, beq_nil_isEmpty]; done) | (simp [*, bne_nil_isEmpty, beq_nil_isEmpty]; done), by repeat (first | exact Drawn0.refl _ | apply Drawn0.step)⟩
      · rw [if_neg c4] at H
        exact absurd H (by simp)
    · rw [if_neg c3] at H
      exact absurd H (by simp)
  · rw [if_neg c2] at H
    have c2b0 : decide (100 < (a0.size : Int)) = false := decide_eq_false c2
    have c2b1 : decide (100 < a0.size) = false := decide_eq_false (by omega)
    clear c2
    obtain rfl := Option.some.inj H
    go_enter Tryd.func11, Tryd.ntmps11
    go_wp2
    go_ret
    exact ⟨by first | rfl | (simp; done) | (simp [*]; done) | (simp [bne_nil_isEmpty, beq_nil_isEmpty]; done) | (simp [*, bne_nil_isEmpty, beq_nil_isEmpty]; done), by repeat (first | exact Drawn0.refl _ | apply Drawn0.step)⟩

/-! ### stringslite_HasPrefix: function 55 -/
def stringslite_HasPrefix.f (a0 : ByteArray) (a1 : ByteArray) : Option (Bool) := if (a0.size : Int) ≥ (a1.size : Int) then (if 0 ≤ (a1.size : Int) then (if (a1.size : Int) ≤ (a0.size : Int) then (some ((a0.extract 0 a1.size).toList == a1.toList)) else (none)) else (none)) else (some false)
set_option maxHeartbeats 8000000 in
set_option maxRecDepth 100000 in
theorem stringslite_HasPrefix.calls (a0 : ByteArray) (a1 : ByteArray) (r : Bool) (w : World) (h : stringslite_HasPrefix.f a0 a1 = some r) :
    Calls Tryd.prog 55 #[.string a0, .string a1] w fun e w' => e = .returned (.bool r) ∧ Drawn0 w w' := by
  have H : (if (a0.size : Int) ≥ (a1.size : Int) then (if 0 ≤ (a1.size : Int) then (if (a1.size : Int) ≤ (a0.size : Int) then (some ((a0.extract 0 a1.size).toList == a1.toList)) else (none)) else (none)) else (some false)) = some r := h
  clear h
  by_cases c3 : (a0.size : Int) ≥ (a1.size : Int)
  · rw [if_pos c3] at H
    have c3b0 : decide ((a1.size : Int) ≤ (a0.size : Int)) = true := decide_eq_true c3
    have c3b1 : decide (a1.size ≤ a0.size) = true := decide_eq_true (Int.ofNat_le.mp c3)
    clear c3
    by_cases c4 : 0 ≤ (a1.size : Int)
    · rw [if_pos c4] at H
      have c4b0 := eq_true c4
      have c4b1 : decide (0 ≤ (a1.size : Int)) = true := decide_eq_true c4
      clear c4
      by_cases c5 : (a1.size : Int) ≤ (a0.size : Int)
      · rw [if_pos c5] at H
        have c5b0 := eq_true c5
        have c5b1 : decide ((a1.size : Int) ≤ (a0.size : Int)) = true := decide_eq_true c5
        clear c5
        obtain rfl := Option.some.inj H
        go_enter Tryd.func55, Tryd.ntmps55
        go_wp2
        go_ret
        exact ⟨by first | rfl | (simp; done) | (simp [*]; done) | (simp [bne_nil_isEmpty, beq_nil_isEmpty]; done) | (simp [*, bne_nil_isEmpty, beq_nil_isEmpty]; done), by repeat (first | exact Drawn0.refl _ | apply Drawn0.step)⟩
      · rw [if_neg c5] at H
        exact absurd H (by simp)
    · rw [if_neg c4] at H
      exact absurd H (by simp)
  · rw [if_neg c3] at H
    have c3b0 : decide ((a1.size : Int) ≤ (a0.size : Int)) = false := decide_eq_false c3
    have c3b1 : decide (a1.size ≤ a0.size) = false := decide_eq_false (fun h => c3 (Int.ofNat_le.mpr h))
    clear c3
    obtain rfl := Option.some.inj H
    go_enter Tryd.func55, Tryd.ntmps55
    go_wp2
    go_ret
    exact ⟨by first | rfl | (simp; done) | (simp [*]; done) | (simp [bne_nil_isEmpty, beq_nil_isEmpty]; done) | (simp [*, bne_nil_isEmpty, beq_nil_isEmpty]; done), by repeat (first | exact Drawn0.refl _ | apply Drawn0.step)⟩

/-! ### stringslite_CutPrefix: function 45 -/
def stringslite_CutPrefix.f (a0 : ByteArray) (a1 : ByteArray) : Option (ByteArray × Bool) := (stringslite_HasPrefix.f a0 a1).bind fun t101 => (if t101 = true then (if 0 ≤ (a1.size : Int) then (if (a1.size : Int) ≤ (a0.size : Int) then (some (a0.extract a1.size a0.size, true)) else (none)) else (none)) else (some (a0, false)))
set_option maxHeartbeats 8000000 in
set_option maxRecDepth 100000 in
theorem stringslite_CutPrefix.calls (a0 : ByteArray) (a1 : ByteArray) (r1 : ByteArray) (r2 : Bool) (w : World) (h : stringslite_CutPrefix.f a0 a1 = some (r1, r2)) :
    Calls Tryd.prog 45 #[.string a0, .string a1] w fun e w' => e = .returned (.tuple #[.string r1, .bool r2]) ∧ Drawn0 w w' := by
  have H : ((stringslite_HasPrefix.f a0 a1).bind fun t101 => (if t101 = true then (if 0 ≤ (a1.size : Int) then (if (a1.size : Int) ≤ (a0.size : Int) then (some (a0.extract a1.size a0.size, true)) else (none)) else (none)) else (some (a0, false)))) = some (r1, r2) := h
  clear h
  replace H := Option.bind_eq_some_iff.mp H
  obtain ⟨t101, A30, H⟩ := H
  replace H : (if t101 = true then (if 0 ≤ (a1.size : Int) then (if (a1.size : Int) ≤ (a0.size : Int) then (some (a0.extract a1.size a0.size, true)) else (none)) else (none)) else (some (a0, false))) = some (r1, r2) := H
  have A3 := Aside0.mk A30
  clear A30
  by_cases c4 : t101 = true
  · subst c4
    have H1 : (if 0 ≤ (a1.size : Int) then (if (a1.size : Int) ≤ (a0.size : Int) then (some (a0.extract a1.size a0.size, true)) else (none)) else (none)) = some (r1, r2) := by rw [if_pos rfl] at H; exact H
    clear H
    have H := H1
    clear H1
    by_cases c5 : 0 ≤ (a1.size : Int)
    · rw [if_pos c5] at H
      have c5b0 := eq_true c5
      have c5b1 : decide (0 ≤ (a1.size : Int)) = true := decide_eq_true c5
      clear c5
      by_cases c6 : (a1.size : Int) ≤ (a0.size : Int)
      · rw [if_pos c6] at H
        have c6b0 := eq_true c6
        have c6b1 : decide ((a1.size : Int) ≤ (a0.size : Int)) = true := decide_eq_true c6
        clear c6
        simp only [Option.some.injEq, Prod.mk.injEq] at H
        obtain ⟨rfl, rfl⟩ := H
        go_enter Tryd.func45, Tryd.ntmps45
        go_wp2_with (first | ((with_reducible refine gate_callee (f := 55) rfl ?_); refine goesL_ (some 8) rfl rfl Tryd.func55 (by kernel_rfl) rfl #[.string a0, .string a1] rfl (by (try simp only [List.map_toArray, List.map_cons, List.map_nil]); first | done | rfl | (simp only [List.length_drop, List.length_take]; rfl)) ?_; (with_reducible refine (stringslite_HasPrefix.calls a0 a1 true _ A3.out).mono ?_); rintro e w' ⟨rfl, ⟨nd, rfl⟩⟩; refine ⟨_, rfl, ?_⟩))
        go_ret2
        exact ⟨by first | rfl | (simp; done) | (simp [*]; done) | (simp [bne_nil_isEmpty, beq_nil_isEmpty]; done) | (simp [*, bne_nil_isEmpty, beq_nil_isEmpty]; done), by repeat (first | exact Drawn0.refl _ | apply Drawn0.step)⟩
      · rw [if_neg c6] at H
        exact absurd H (by simp)
    · rw [if_neg c5] at H
      exact absurd H (by simp)
  · replace c4 := Bool.eq_false_iff.mpr c4
    subst c4
    have H1 : (some (a0, false)) = some (r1, r2) := by rw [if_neg (show ¬ (false = true) by decide)] at H; exact H
    clear H
    have H := H1
    clear H1
    simp only [Option.some.injEq, Prod.mk.injEq] at H
    obtain ⟨rfl, rfl⟩ := H
    go_enter Tryd.func45, Tryd.ntmps45
    go_wp2_with (first | ((with_reducible refine gate_callee (f := 55) rfl ?_); refine goesL_ (some 8) rfl rfl Tryd.func55 (by kernel_rfl) rfl #[.string a0, .string a1] rfl (by (try simp only [List.map_toArray, List.map_cons, List.map_nil]); first | done | rfl | (simp only [List.length_drop, List.length_take]; rfl)) ?_; (with_reducible refine (stringslite_HasPrefix.calls a0 a1 false _ A3.out).mono ?_); rintro e w' ⟨rfl, ⟨nd, rfl⟩⟩; refine ⟨_, rfl, ?_⟩))
    go_ret2
    exact ⟨by first | rfl | (simp; done) | (simp [*]; done) | (simp [bne_nil_isEmpty, beq_nil_isEmpty]; done) | (simp [*, bne_nil_isEmpty, beq_nil_isEmpty]; done), by repeat (first | exact Drawn0.refl _ | apply Drawn0.step)⟩

/-! ### strings_CutPrefix: function 27 -/
def strings_CutPrefix.f (a0 : ByteArray) (a1 : ByteArray) : Option (ByteArray × Bool) := (stringslite_CutPrefix.f a0 a1).bind fun bt102 => (some (bt102.1, bt102.2))
set_option maxHeartbeats 8000000 in
set_option maxRecDepth 100000 in
theorem strings_CutPrefix.calls (a0 : ByteArray) (a1 : ByteArray) (r1 : ByteArray) (r2 : Bool) (w : World) (h : strings_CutPrefix.f a0 a1 = some (r1, r2)) :
    Calls Tryd.prog 27 #[.string a0, .string a1] w fun e w' => e = .returned (.tuple #[.string r1, .bool r2]) ∧ Drawn0 w w' := by
  have H : ((stringslite_CutPrefix.f a0 a1).bind fun bt102 => (some (bt102.1, bt102.2))) = some (r1, r2) := h
  clear h
  replace H := Option.bind_eq_some_iff.mp H
  obtain ⟨⟨t102, t103⟩, A30, H⟩ := H
  replace H : (some (t102, t103)) = some (r1, r2) := H
  have A3 := Aside0.mk A30
  clear A30
  simp only [Option.some.injEq, Prod.mk.injEq] at H
  obtain ⟨rfl, rfl⟩ := H
  go_enter Tryd.func27, Tryd.ntmps27
  go_wp2_with (first | ((with_reducible refine gate_callee (f := 45) rfl ?_); refine goesL_ (some 8) rfl rfl Tryd.func45 (by kernel_rfl) rfl #[.string a0, .string a1] rfl (by (try simp only [List.map_toArray, List.map_cons, List.map_nil]); first | done | rfl | (simp only [List.length_drop, List.length_take]; rfl)) ?_; (with_reducible refine (stringslite_CutPrefix.calls a0 a1 t102 t103 _ A3.out).mono ?_); rintro e w' ⟨rfl, ⟨nd, rfl⟩⟩; refine ⟨_, rfl, ?_⟩))
  go_ret2
  exact ⟨by first | rfl | (simp; done) | (simp [*]; done) | (simp [bne_nil_isEmpty, beq_nil_isEmpty]; done) | (simp [*, bne_nil_isEmpty, beq_nil_isEmpty]; done), by repeat (first | exact Drawn0.refl _ | apply Drawn0.step)⟩

/-! ### utf8_decodeRuneInStringSlow: function 76 -/
def utf8_decodeRuneInStringSlow.f (a0 : ByteArray) : Option (Int × Int) := none
theorem utf8_decodeRuneInStringSlow.calls (a0 : ByteArray) (r1 : Int) (r2 : Int) (w : World) (h : utf8_decodeRuneInStringSlow.f a0 = some (r1, r2)) :
    Calls Tryd.prog 76 #[.string a0] w fun e w' => e = .returned (.tuple #[.int .i32 r1, .int .i64 r2]) ∧ Drawn0 w w' := by
  exact absurd h (by simp [utf8_decodeRuneInStringSlow.f])

/-! ### utf8_DecodeRuneInString: function 70 -/
def utf8_DecodeRuneInString.f (a0 : ByteArray) : Option (Int × Int) := none
theorem utf8_DecodeRuneInString.calls (a0 : ByteArray) (r1 : Int) (r2 : Int) (w : World) (h : utf8_DecodeRuneInString.f a0 = some (r1, r2)) :
    Calls Tryd.prog 70 #[.string a0] w fun e w' => e = .returned (.tuple #[.int .i32 r1, .int .i64 r2]) ∧ Drawn0 w w' := by
  exact absurd h (by simp [utf8_DecodeRuneInString.f])

/-! ### bytealg_IndexByteString: function 86 -/
def bytealg_IndexByteString.f (a0 : ByteArray) (a1 : Int) : Option (Int) := none
theorem bytealg_IndexByteString.calls (a0 : ByteArray) (a1 : Int) (r : Int) (w : World) (h : bytealg_IndexByteString.f a0 a1 = some r) :
    Calls Tryd.prog 86 #[.string a0, .int .u8 a1] w fun e w' => e = .returned (.int .i64 r) ∧ Drawn0 w w' := by
  exact absurd h (by simp [bytealg_IndexByteString.f])

/-! ### stringslite_IndexByte: function 80 -/
def stringslite_IndexByte.f (a0 : ByteArray) (a1 : Int) : Option (Int) := some (firstIdx a0 a1.toNat.toUInt8)
set_option maxHeartbeats 4000000 in
theorem stringslite_IndexByte.calls (a0 : ByteArray) (a1 : Int) (r : Int) (w : World) (h : stringslite_IndexByte.f a0 a1 = some r) :
    Calls Tryd.prog 80 #[.string a0, .int .u8 a1] w fun e w' => e = .returned (.int .i64 r) ∧ Drawn0 w w' := by
  obtain rfl := Option.some.inj h
  clear h
  have hov : ∀ W, (callFunc 86 #[.string a0, .int .u8 a1]).run Tryd.prog W = .ok (.value (.int .i64 (firstIdx a0 a1.toNat.toUInt8))) W := fun W => by
    rw [run_callFunc_extern Tryd.func86 (by kernel_rfl) (by kernel_rfl) (by kernel_rfl) (e := Extern.BytealgIndexByte.indexByte) (by kernel_rfl), run_indexByte_string]
    rfl
  go_enter Tryd.func80, Tryd.ntmps80
  go_wp2_with (simp only [hov])
  go_ret
  exact ⟨rfl, Drawn0.refl _⟩

/-! ### bytealg_IndexString: function 81 -/
def bytealg_IndexString.f (a0 : ByteArray) (a1 : ByteArray) : Option (Int) := none
theorem bytealg_IndexString.calls (a0 : ByteArray) (a1 : ByteArray) (r : Int) (w : World) (h : bytealg_IndexString.f a0 a1 = some r) :
    Calls Tryd.prog 81 #[.string a0, .string a1] w fun e w' => e = .returned (.int .i64 r) ∧ Drawn0 w w' := by
  exact absurd h (by simp [bytealg_IndexString.f])

/-! ### bytealg_Cutover: function 82 -/
def bytealg_Cutover.f (a0 : Int) : Option (Int) := some (wrap64 (Int.tdiv (wrap64 (a0 + 16)) 8))
set_option maxHeartbeats 8000000 in
set_option maxRecDepth 100000 in
theorem bytealg_Cutover.calls (a0 : Int) (r : Int) (w : World) (h : bytealg_Cutover.f a0 = some r) :
    Calls Tryd.prog 82 #[.int .i64 a0] w fun e w' => e = .returned (.int .i64 r) ∧ Drawn0 w w' := by
  have H : (some (wrap64 (Int.tdiv (wrap64 (a0 + 16)) 8))) = some r := h
  clear h
  obtain rfl := Option.some.inj H
  go_enter Tryd.func82, Tryd.ntmps82
  go_wp2
  go_ret
  exact ⟨by first | rfl | (simp; done) | (simp [*]; done) | (simp [bne_nil_isEmpty, beq_nil_isEmpty]; done) | (simp [*, bne_nil_isEmpty, beq_nil_isEmpty]; done), by repeat (first | exact Drawn0.refl _ | apply Drawn0.step)⟩

/-! ### bytealg_hashStr_string: function 87 -/
def bytealg_hashStr_string.f (a0 : ByteArray) : Option (Int × Int) := none
theorem bytealg_hashStr_string.calls (a0 : ByteArray) (r1 : Int) (r2 : Int) (w : World) (h : bytealg_hashStr_string.f a0 = some (r1, r2)) :
    Calls Tryd.prog 87 #[.string a0] w fun e w' => e = .returned (.tuple #[.int .u32 r1, .int .u32 r2]) ∧ Drawn0 w w' := by
  exact absurd h (by simp [bytealg_hashStr_string.f])

/-! ### bytealg_IndexRabinKarp_string: function 83 -/
def bytealg_IndexRabinKarp_string.f (a0 : ByteArray) (a1 : ByteArray) : Option (Int) := none
theorem bytealg_IndexRabinKarp_string.calls (a0 : ByteArray) (a1 : ByteArray) (r : Int) (w : World) (h : bytealg_IndexRabinKarp_string.f a0 a1 = some r) :
    Calls Tryd.prog 83 #[.string a0, .string a1] w fun e w' => e = .returned (.int .i64 r) ∧ Drawn0 w w' := by
  exact absurd h (by simp [bytealg_IndexRabinKarp_string.f])

/-! ### stringslite_Index: function 77 -/
def stringslite_Index.j0 : Nat → ByteArray → ByteArray → Int → Bool → Option (Int)
  | 0, _, _, _, _ => none
  | k + 1, x0, x1, x5, x16 => if x16 = true then (some 0) else (if x5 = 1 then (if 0 < (x1.size : Int) then ((stringslite_IndexByte.f x0 (bt x1 0)).bind fun t104 => (some t104)) else (none)) else (if x5 ≥ (x0.size : Int) then (some (-1)) else (none)))
def stringslite_Index.f (k : Nat) (a0 : ByteArray) (a1 : ByteArray) : Option (Int) := if (a1.size : Int) = 0 then (stringslite_Index.j0 k a0 a1 (a1.size : Int) true) else (stringslite_Index.j0 k a0 a1 (a1.size : Int) (a1.toList == a0.toList))
theorem stringslite_Index.mono_l : ∀ k, (∀ y0 y1 y2 y3, LeO (stringslite_Index.j0 k y0 y1 y2 y3) (stringslite_Index.j0 (k + 1) y0 y1 y2 y3))
  | 0 => fun _ _ _ _ r h => by simp [stringslite_Index.j0] at h
  | k + 1 => by
    have ih0 := stringslite_Index.mono_l k
    · intro y0 y1 y2 y3
      unfold stringslite_Index.j0
      repeat' first
      | (with_reducible exact ih0 _ _ _ _)
      | (with_reducible exact LeO.refl _)
      | (with_reducible exact LeO.none _)
      | (with_reducible refine LeO.ite ?_ ?_)
      | (with_reducible refine LeO.bind ?_ (fun _ => ?_))
      | exact ih0 _ _ _ _
      | exact LeO.none _
      | refine LeO.ite ?_ ?_
      | refine LeO.bind ?_ (fun _ => ?_)
theorem stringslite_Index.mono : ∀ a0 a1 k, LeO (stringslite_Index.f k a0 a1) (stringslite_Index.f (k + 1) a0 a1) := by
  intro a0 a1 k
  have ih0 := stringslite_Index.mono_l k
  unfold stringslite_Index.f
  repeat' first
      | (with_reducible exact ih0 _ _ _ _)
      | (with_reducible exact LeO.refl _)
      | (with_reducible exact LeO.none _)
      | (with_reducible refine LeO.ite ?_ ?_)
      | (with_reducible refine LeO.bind ?_ (fun _ => ?_))
      | exact ih0 _ _ _ _
      | exact LeO.none _
      | refine LeO.ite ?_ ?_
      | refine LeO.bind ?_ (fun _ => ?_)
set_option maxHeartbeats 8000000 in
set_option maxRecDepth 100000 in
theorem stringslite_Index.calls (k : Nat) (a0 : ByteArray) (a1 : ByteArray) (r : Int) (w : World) (h : stringslite_Index.f k a0 a1 = some r) :
    Calls Tryd.prog 77 #[.string a0, .string a1] w fun e w' => e = .returned (.int .i64 r) ∧ Drawn0 w w' := by
  have H : (if (a1.size : Int) = 0 then (stringslite_Index.j0 k a0 a1 (a1.size : Int) true) else (stringslite_Index.j0 k a0 a1 (a1.size : Int) (a1.toList == a0.toList))) = some r := h
  clear h
  have HC3 := Aside0.mk H
  clear H
  go_enter Tryd.func77, Tryd.ntmps77
  go_upto_region 2 with (fail)
  go_cut [16] (fun v16 wc => ∃ (kq : Nat) (x16_2 : Bool), v16 = .bool x16_2 ∧ Aside0 (stringslite_Index.j0 kq a0 a1 (a1.size : Int) x16_2 = some r) ∧ Aside0 (kq ≤ k) ∧ Drawn0 w wc)
  case first =>
    have H := HC3.out
    clear HC3
    by_cases c4 : (a1.size : Int) = 0
    · rw [if_pos c4] at H
      have c4b0 : ((a1.size : Int) == 0) = true := beq_iff_eq.mpr c4
      have c4b1 : ((a1.size : Int) != 0) = false := bne_eq_false_iff_eq.mpr c4
      clear c4
      (first | rw [c4b0] | rw [c4b1] | rw [c4b2] | (simp only [i64_w, i32_w]; rw [c4b0]) | skip)
      have H' := Aside0.mk H
      clear H
      go_wp2
      go_meet
      case rel => exact ⟨_, (true), (by first | rfl | (simp; done) | (simp [*]; done) | (simp [bne_nil_isEmpty, beq_nil_isEmpty]; done) | (simp [*, bne_nil_isEmpty, beq_nil_isEmpty]; done)), H', ⟨by first | omega | exact Nat.le_refl _⟩, by repeat (first | exact Drawn0.refl _ | apply Drawn0.step)⟩
    · rw [if_neg c4] at H
      have c4b0 : ((a1.size : Int) == 0) = false := beq_eq_false_iff_ne.mpr c4
      have c4b1 : ((a1.size : Int) != 0) = true := bne_iff_ne.mpr c4
      (first | rw [c4b0] | rw [c4b1] | rw [c4b2] | (simp only [i64_w, i32_w]; rw [c4b0]) | skip)
      have H' := Aside0.mk H
      clear H
      go_wp2
      go_meet
      case rel => exact ⟨_, ((a1.toList == a0.toList)), (by first | rfl | (simp; done) | (simp [*]; done) | (simp [bne_nil_isEmpty, beq_nil_isEmpty]; done) | (simp [*, bne_nil_isEmpty, beq_nil_isEmpty]; done)), H', ⟨by first | omega | exact Nat.le_refl _⟩, by repeat (first | exact Drawn0.refl _ | apply Drawn0.step)⟩
  case rest =>
    clear HC3
    try clear p2
    try clear c4
    try clear c4b0
    try clear c4b1
    try clear c4b2
    obtain ⟨kq, x16_2, rfl, HA, HJ2, ⟨mc2, rfl⟩⟩ := hcut
    cases kq with
    | zero => exact absurd HA.out (by simp [stringslite_Index.j0])
    | succ kj2 =>
      have H := HA.out
      clear HA
      simp only [stringslite_Index.j0] at H
      by_cases c5 : x16_2 = true
      · subst c5
        have H1 : (some 0) = some r := by rw [if_pos rfl] at H; exact H
        clear H
        have H := H1
        clear H1
        obtain rfl := Option.some.inj H
        go_wp2
        go_ret
        exact ⟨by first | rfl | (simp; done) | (simp [*]; done) | (simp [bne_nil_isEmpty, beq_nil_isEmpty]; done) | (simp [*, bne_nil_isEmpty, beq_nil_isEmpty]; done), by repeat (first | exact Drawn0.refl _ | apply Drawn0.step)⟩
      · replace c5 := Bool.eq_false_iff.mpr c5
        subst c5
        have H1 : (if (a1.size : Int) = 1 then (if 0 < (a1.size : Int) then ((stringslite_IndexByte.f a0 (bt a1 0)).bind fun t104 => (some t104)) else (none)) else (if (a1.size : Int) ≥ (a0.size : Int) then (some (-1)) else (none))) = some r := by rw [if_neg (show ¬ (false = true) by decide)] at H; exact H
        clear H
        have H := H1
        clear H1
        by_cases c6 : (a1.size : Int) = 1
        · rw [if_pos c6] at H
          have c6b0 : ((a1.size : Int) == 1) = true := beq_iff_eq.mpr c6
          have c6b1 : ((a1.size : Int) != 1) = false := bne_eq_false_iff_eq.mpr c6
          clear c6
          by_cases c7 : 0 < (a1.size : Int)
          · rw [if_pos c7] at H
            have c7b0 : decide (0 < (a1.size : Int)) = true := decide_eq_true c7
            have c7b1 : decide (0 < a1.size) = true := decide_eq_true (by omega)
            clear c7
            replace H := Option.bind_eq_some_iff.mp H
            obtain ⟨t104, A90, H⟩ := H
            replace H : (some t104) = some r := H
            have A9 := Aside0.mk A90
            clear A90
            obtain rfl := Option.some.inj H
            have p8 : 0 ≤ (0 : Int) := (by omega)
            have q8 : 0 < a1.size := (by have : (0 : Int) < (a1.size : Int) := of_decide_eq_true (by first | (with_reducible assumption) | assumption); omega)
            have hx8 : ∀ h : 0 < a1.size, ((a1[0]'h).toNat : Int) = bt a1 0 := bt_at a1 0
            clear p8
            have qi8 : (0 < (a1.size : Int)) = True := eq_true (of_decide_eq_true (by first | (with_reducible assumption) | assumption))
            replace q8 := eq_true q8
            go_wp2_with (first | ((with_reducible refine gate_callee (f := 80) rfl ?_); refine goesL_ (some 30) rfl rfl Tryd.func80 (by kernel_rfl) rfl #[.string a0, .int .u8 (bt a1 0)] rfl (by (try simp only [List.map_toArray, List.map_cons, List.map_nil]); first | done | rfl | (simp only [List.length_drop, List.length_take]; rfl)) ?_; (with_reducible refine (stringslite_IndexByte.calls a0 (bt a1 0) t104 _ A9.out).mono ?_); rintro e w' ⟨rfl, ⟨nd, rfl⟩⟩; refine ⟨_, rfl, ?_⟩))
            go_ret
            exact ⟨by first | rfl | (simp; done) | (simp [*]; done) | (simp [bne_nil_isEmpty, beq_nil_isEmpty]; done) | (simp [*, bne_nil_isEmpty, beq_nil_isEmpty]; done), by repeat (first | exact Drawn0.refl _ | apply Drawn0.step)⟩
          · rw [if_neg c7] at H
            exact absurd H (by simp)
        · rw [if_neg c6] at H
          have c6b0 : ((a1.size : Int) == 1) = false := beq_eq_false_iff_ne.mpr c6
          have c6b1 : ((a1.size : Int) != 1) = true := bne_iff_ne.mpr c6
          by_cases c10 : (a1.size : Int) ≥ (a0.size : Int)
          · rw [if_pos c10] at H
            have c10b0 : decide ((a0.size : Int) ≤ (a1.size : Int)) = true := decide_eq_true c10
            have c10b1 : decide (a0.size ≤ a1.size) = true := decide_eq_true (Int.ofNat_le.mp c10)
            clear c10
            obtain rfl := Option.some.inj H
            go_wp2
            go_ret
            exact ⟨by first | rfl | (simp; done) | (simp [*]; done) | (simp [bne_nil_isEmpty, beq_nil_isEmpty]; done) | (simp [*, bne_nil_isEmpty, beq_nil_isEmpty]; done), by repeat (first | exact Drawn0.refl _ | apply Drawn0.step)⟩
          · rw [if_neg c10] at H
            exact absurd H (by simp)

/-! ### strings_Index: function 71 -/
def strings_Index.f (k : Nat) (a0 : ByteArray) (a1 : ByteArray) : Option (Int) := (stringslite_Index.f k a0 a1).bind fun t105 => (some t105)
theorem strings_Index.mono : ∀ a0 a1 k, LeO (strings_Index.f k a0 a1) (strings_Index.f (k + 1) a0 a1) := by
  intro a0 a1 k
  unfold strings_Index.f
  repeat' first
      | (with_reducible exact stringslite_Index.mono _ _ _)
      | (with_reducible exact LeO.refl _)
      | (with_reducible exact LeO.none _)
      | (with_reducible refine LeO.ite ?_ ?_)
      | (with_reducible refine LeO.bind ?_ (fun _ => ?_))
      | exact stringslite_Index.mono _ _ _
      | exact LeO.none _
      | refine LeO.ite ?_ ?_
      | refine LeO.bind ?_ (fun _ => ?_)
set_option maxHeartbeats 8000000 in
set_option maxRecDepth 100000 in
theorem strings_Index.calls (k : Nat) (a0 : ByteArray) (a1 : ByteArray) (r : Int) (w : World) (h : strings_Index.f k a0 a1 = some r) :
    Calls Tryd.prog 71 #[.string a0, .string a1] w fun e w' => e = .returned (.int .i64 r) ∧ Drawn0 w w' := by
  have H : ((stringslite_Index.f k a0 a1).bind fun t105 => (some t105)) = some r := h
  clear h
  replace H := Option.bind_eq_some_iff.mp H
  obtain ⟨t105, A30, H⟩ := H
  replace H : (some t105) = some r := H
  have A3 := Aside0.mk A30
  clear A30
  obtain rfl := Option.some.inj H
  go_enter Tryd.func71, Tryd.ntmps71
  go_wp2_with (first | ((with_reducible refine gate_callee (f := 77) rfl ?_); refine goesL_ (some 7) rfl rfl Tryd.func77 (by kernel_rfl) rfl #[.string a0, .string a1] rfl (by (try simp only [List.map_toArray, List.map_cons, List.map_nil]); first | done | rfl | (simp only [List.length_drop, List.length_take]; rfl)) ?_; (with_reducible refine (stringslite_Index.calls k a0 a1 t105 _ A3.out).mono ?_); rintro e w' ⟨rfl, ⟨nd, rfl⟩⟩; refine ⟨_, rfl, ?_⟩))
  go_ret
  exact ⟨by first | rfl | (simp; done) | (simp [*]; done) | (simp [bne_nil_isEmpty, beq_nil_isEmpty]; done) | (simp [*, bne_nil_isEmpty, beq_nil_isEmpty]; done), by repeat (first | exact Drawn0.refl _ | apply Drawn0.step)⟩

-- NOT PRINTED: function 69 (strings_splitSeq_1)

-- function 56: told where it is called

-- function 46: told where it is called

/-! ### dns_octet: function 58 -/
def dns_octet.f (a0 : Int) : Option (Bool) := if a0 ≥ 97 then (if a0 ≤ 122 then (some true) else (if a0 ≥ 48 then (if a0 ≤ 57 then (some true) else (some (a0 == 45))) else (some (a0 == 45)))) else (if a0 ≥ 48 then (if a0 ≤ 57 then (some true) else (some (a0 == 45))) else (some (a0 == 45)))
set_option maxHeartbeats 8000000 in
set_option maxRecDepth 100000 in
theorem dns_octet.calls (a0 : Int) (r : Bool) (w : World) (h : dns_octet.f a0 = some r) :
    Calls Tryd.prog 58 #[.int .i32 a0] w fun e w' => e = .returned (.bool r) ∧ Drawn0 w w' := by
  have H : (if a0 ≥ 97 then (if a0 ≤ 122 then (some true) else (if a0 ≥ 48 then (if a0 ≤ 57 then (some true) else (some (a0 == 45))) else (some (a0 == 45)))) else (if a0 ≥ 48 then (if a0 ≤ 57 then (some true) else (some (a0 == 45))) else (some (a0 == 45)))) = some r := h
  clear h
  by_cases c2 : a0 ≥ 97
  · rw [if_pos c2] at H
    have c2b0 : decide (97 ≤ a0) = true := decide_eq_true c2
    clear c2
    by_cases c3 : a0 ≤ 122
    · rw [if_pos c3] at H
      have c3b0 : decide (a0 ≤ 122) = true := decide_eq_true c3
      clear c3
      obtain rfl := Option.some.inj H
      go_enter Tryd.func58, Tryd.ntmps58
      go_wp2
      go_ret
      exact ⟨by first | rfl | (simp; done) | (simp [*]; done) | (simp [bne_nil_isEmpty, beq_nil_isEmpty]; done) | (simp [*, bne_nil_isEmpty, beq_nil_isEmpty]; done), by repeat (first | exact Drawn0.refl _ | apply Drawn0.step)⟩
    · rw [if_neg c3] at H
      have c3b0 : decide (a0 ≤ 122) = false := decide_eq_false c3
      clear c3
      by_cases c4 : a0 ≥ 48
      · rw [if_pos c4] at H
        have c4b0 : decide (48 ≤ a0) = true := decide_eq_true c4
        clear c4
        by_cases c5 : a0 ≤ 57
        · rw [if_pos c5] at H
          have c5b0 : decide (a0 ≤ 57) = true := decide_eq_true c5
          clear c5
          obtain rfl := Option.some.inj H
          go_enter Tryd.func58, Tryd.ntmps58
          go_wp2
          go_ret
          exact ⟨by first | rfl | (simp; done) | (simp [*]; done) | (simp [bne_nil_isEmpty, beq_nil_isEmpty]; done) | (simp [*, bne_nil_isEmpty, beq_nil_isEmpty]; done), by repeat (first | exact Drawn0.refl _ | apply Drawn0.step)⟩
        · rw [if_neg c5] at H
          have c5b0 : decide (a0 ≤ 57) = false := decide_eq_false c5
          clear c5
          obtain rfl := Option.some.inj H
          go_enter Tryd.func58, Tryd.ntmps58
          go_wp2
          go_ret
          exact ⟨by first | rfl | (simp; done) | (simp [*]; done) | (simp [bne_nil_isEmpty, beq_nil_isEmpty]; done) | (simp [*, bne_nil_isEmpty, beq_nil_isEmpty]; done), by repeat (first | exact Drawn0.refl _ | apply Drawn0.step)⟩
      · rw [if_neg c4] at H
        have c4b0 : decide (48 ≤ a0) = false := decide_eq_false c4
        clear c4
        obtain rfl := Option.some.inj H
        go_enter Tryd.func58, Tryd.ntmps58
        go_wp2
        go_ret
        exact ⟨by first | rfl | (simp; done) | (simp [*]; done) | (simp [bne_nil_isEmpty, beq_nil_isEmpty]; done) | (simp [*, bne_nil_isEmpty, beq_nil_isEmpty]; done), by repeat (first | exact Drawn0.refl _ | apply Drawn0.step)⟩
  · rw [if_neg c2] at H
    have c2b0 : decide (97 ≤ a0) = false := decide_eq_false c2
    clear c2
    by_cases c6 : a0 ≥ 48
    · rw [if_pos c6] at H
      have c6b0 : decide (48 ≤ a0) = true := decide_eq_true c6
      clear c6
      by_cases c7 : a0 ≤ 57
      · rw [if_pos c7] at H
        have c7b0 : decide (a0 ≤ 57) = true := decide_eq_true c7
        clear c7
        obtain rfl := Option.some.inj H
        go_enter Tryd.func58, Tryd.ntmps58
        go_wp2
        go_ret
        exact ⟨by first | rfl | (simp; done) | (simp [*]; done) | (simp [bne_nil_isEmpty, beq_nil_isEmpty]; done) | (simp [*, bne_nil_isEmpty, beq_nil_isEmpty]; done), by repeat (first | exact Drawn0.refl _ | apply Drawn0.step)⟩
      · rw [if_neg c7] at H
        have c7b0 : decide (a0 ≤ 57) = false := decide_eq_false c7
        clear c7
        obtain rfl := Option.some.inj H
        go_enter Tryd.func58, Tryd.ntmps58
        go_wp2
        go_ret
        exact ⟨by first | rfl | (simp; done) | (simp [*]; done) | (simp [bne_nil_isEmpty, beq_nil_isEmpty]; done) | (simp [*, bne_nil_isEmpty, beq_nil_isEmpty]; done), by repeat (first | exact Drawn0.refl _ | apply Drawn0.step)⟩
    · rw [if_neg c6] at H
      have c6b0 : decide (48 ≤ a0) = false := decide_eq_false c6
      clear c6
      obtain rfl := Option.some.inj H
      go_enter Tryd.func58, Tryd.ntmps58
      go_wp2
      go_ret
      exact ⟨by first | rfl | (simp; done) | (simp [*]; done) | (simp [bne_nil_isEmpty, beq_nil_isEmpty]; done) | (simp [*, bne_nil_isEmpty, beq_nil_isEmpty]; done), by repeat (first | exact Drawn0.refl _ | apply Drawn0.step)⟩

-- NOT PRINTED: function 57 (dns_Label_1)

-- function 72: told where it is called

-- function 59: told where it is called

/-- May an octet be in a label? -/
def octB (r : Nat) : Bool := (decide (97 ≤ r) && decide (r ≤ 122)) || ((decide (48 ≤ r) && decide (r ≤ 57)) || r == 45)
theorem octB_f (r : Nat) : dns_octet.f (r : Int) = some (octB r) := by
  have e : ((r : Int) == 45) = (r == 45) := by rw [Bool.eq_iff_iff, beq_iff_eq, beq_iff_eq]; omega
  unfold dns_octet.f octB
  rw [e]
  by_cases h1 : 97 ≤ r <;> by_cases h2 : r ≤ 122 <;> by_cases h3 : 48 ≤ r <;> by_cases h4 : r ≤ 57
  all_goals
    have g1 : (r : Int) ≥ 97 ↔ 97 ≤ r := by omega
    have g2 : (r : Int) ≤ 122 ↔ r ≤ 122 := by omega
    have g3 : (r : Int) ≥ 48 ↔ 48 ≤ r := by omega
    have g4 : (r : Int) ≤ 57 ↔ r ≤ 57 := by omega
    simp only [g1, g2, g3, g4, h1, h2, h3, h4, if_true, if_false, decide_true, decide_false, Bool.true_and, Bool.false_and, Bool.and_true, Bool.and_false, Bool.true_or, Bool.false_or]

/-! ### strings_IndexFunc: functions 59, 72 -/
/-- A function that tells of a rune. -/
def RuneAt (P : Program) (g : Nat) (p : Nat → Bool) : Prop := ∀ (W : World) (r : Nat), Calls P g #[.int .i32 (r : Int)] W fun e w' => e = .returned (.bool (p r)) ∧ Below W.heap.size W w'
/-- Where the first rune begins of which p holds, from a place on; -1: there is none. -/
def idxRuneFrom (p : Nat → Bool) (s : ByteArray) : Nat → Nat → Int
  | 0, _ => -1
  | f + 1, pos => if pos < s.size then (if p (Utf8.decode s pos).1 = true then (pos : Int) else idxRuneFrom p s f (pos + (Utf8.decode s pos).2)) else -1
def idxRune (p : Nat → Bool) (s : ByteArray) : Int := idxRuneFrom p s s.size 0
theorem idxRuneFrom_end (p : Nat → Bool) (s : ByteArray) (f pos : Nat) (h : ¬ pos < s.size) : idxRuneFrom p s f pos = -1 := by cases f <;> simp [idxRuneFrom, h]
/-- Where p holds of whatever is no octet of ASCII: there is no such rune just if it holds of no octet. -/
theorem idxRuneFrom_neg (p : Nat → Bool) (hp : ∀ r, 128 ≤ r → p r = true) (s : ByteArray) : ∀ (f pos : Nat), s.size ≤ pos + f → decide (idxRuneFrom p s f pos < 0) = (s.data.toList.drop pos).all (fun c => !p c.toNat)
  | 0, pos, h => by
    rw [List.drop_eq_nil_of_le (by rw [Array.length_toList]; exact h)]; rfl
  | f + 1, pos, h => by
    have hl : s.data.toList.length = s.size := Array.length_toList
    rw [idxRuneFrom]
    by_cases hps : pos < s.size
    · rw [if_pos hps, List.drop_eq_getElem_cons (by omega), List.all_cons]
      have he : s.data.toList[pos]'(by omega) = s[pos]'hps := rfl
      rw [he]
      by_cases ha : (s[pos]'hps).toNat < 128
      · rw [decode_ascii s pos hps ha]
        by_cases hq : p (s[pos]'hps).toNat = true
        · rw [if_pos hq, hq]
          simp only [Bool.not_true, Bool.false_and]
          exact decide_eq_false (by omega)
        · rw [if_neg hq, idxRuneFrom_neg p hp s f (pos + 1) (by omega)]
          have : p (s[pos]'hps).toNat = false := by simpa using hq
          rw [this]; rfl
      · have h1 := hp _ (decode_high s pos hps (by omega)).1
        rw [if_pos h1, hp _ (by omega)]
        simp only [Bool.not_true, Bool.false_and]
        exact decide_eq_false (by omega)
    · rw [if_neg hps, List.drop_eq_nil_of_le (by omega)]; rfl
theorem idxRune_neg (p : Nat → Bool) (hp : ∀ r, 128 ≤ r → p r = true) (s : ByteArray) : decide (idxRune p s < 0) = s.data.toList.all (fun c => !p c.toNat) := by
  have := idxRuneFrom_neg p hp s s.size 0 (by omega)
  rwa [List.drop_zero] at this
set_option maxHeartbeats 8000000 in
set_option maxRecDepth 100000 in
theorem strings_indexFunc_at (g : Nat) (eg : ∀ args W, (callFunc g args).run Tryd.prog W = .ok (.enter g args) W) (p : Nat → Bool) (s : ByteArray) (w : World) (hp : RuneAt Tryd.prog g p) :
    Calls Tryd.prog 72 #[.string s, .func (.func g) #[] #[], .bool true] w fun e w' => e = .returned (.int .i64 (idxRune p s)) ∧ Below w.heap.size w w' := by
  have HP := Aside0.mk hp
  clear hp
  go_enter Tryd.func72, Tryd.ntmps72
  go_wp2
  go_loopg [] s.size (fun gf wx => ∃ pos : Nat, Aside0 (wx.heap[w.heap.size]? = some (.stringIter s pos)) ∧ Aside0 (Below w.heap.size w wx) ∧ Aside0 (idxRuneFrom p s gf pos = idxRune p s) ∧ s.size ≤ pos + gf)
  case atStart => exact ⟨0, ⟨World.iter_heap w s 0⟩, ⟨(Below.refl _ w).alloc (Nat.le_refl _) _⟩, ⟨rfl⟩, by omega⟩
  case round =>
    obtain ⟨pos, IT, BW, LE, hfu⟩ := hrel
    by_cases hps : pos < s.size
    · obtain ⟨g', rfl⟩ : ∃ g', gk = g' + 1 := ⟨gk - 1, by omega⟩
      have hnx : ∀ ty, (Instr.next (.pointer (some ⟨w.heap.size, 0, none⟩)) true ty).run Tryd.prog wr = _ := fun ty => Lib.run_next_any_at wr w.heap.size s pos ty IT.out hps
      have hwd := Lib.decode_width_pos s pos hps
      have hleft := LE.out
      rw [idxRuneFrom, if_pos hps] at hleft
      generalize (Utf8.decode s pos).1 = R at hnx hleft
      generalize (Utf8.decode s pos).2 = K at hnx hleft hwd
      have hit2 := Lib.iterAt_heap wr w.heap.size s pos (pos + K) IT.out
      have hbw2 := Lib.below_iterAt BW.out (k := w.heap.size) (Nat.le_refl _) s (pos + K)
      clear IT BW LE
      generalize wr.iterAt w.heap.size s (pos + K) = W at hnx hit2 hbw2
      have hS := HP.out W R
      have IT2 := Aside0.mk hit2
      have BW2 := Aside0.mk hbw2
      have LE2 := Aside0.mk hleft
      clear hit2 hbw2 hleft
      cases hq : p R with
      | true =>
        rw [hq] at hS LE2
        have HS := Aside0.mk hS
        clear hS hq
        go_wp2_with (go_at_fn g; refine HS.out.mono ?_; rintro e W' ⟨rfl, hb⟩; have HB := Aside0.mk hb; clear hb)
        go_ret
        exact ⟨by rw [← LE2.out, if_pos (by first | trivial | rfl)]; rfl, BW2.out.trans (HB.out.mono BW2.out.size)⟩
      | false =>
        rw [hq] at hS LE2
        have HS := Aside0.mk hS
        clear hS hq
        go_wp2_with (go_at_fn g; refine HS.out.mono ?_; rintro e W' ⟨rfl, hb⟩; have HB := Aside0.mk hb; clear hb)
        go_roundg g'
        case measure => omega
        case rel => exact ⟨pos + K, ⟨(HB.out.block _ (Array.getElem?_eq_some_iff.1 IT2.out).1).trans IT2.out⟩, ⟨BW2.out.trans (HB.out.mono BW2.out.size)⟩, ⟨by have := LE2.out; rwa [if_neg (by simp)] at this⟩, by omega⟩
    · have hnx : ∀ ty, (Instr.next (.pointer (some ⟨w.heap.size, 0, none⟩)) true ty).run Tryd.prog wr = _ := fun ty => Lib.run_next_end_at wr w.heap.size s pos ty IT.out hps
      have hleft := LE.out
      rw [idxRuneFrom_end p s gk pos hps] at hleft
      have LE2 := Aside0.mk hleft
      clear hleft IT LE
      go_wp2
      go_ret
      exact ⟨by rw [← LE2.out]; rfl, BW.out⟩
set_option maxHeartbeats 8000000 in
theorem strings_IndexFunc_at (g : Nat) (eg : ∀ args W, (callFunc g args).run Tryd.prog W = .ok (.enter g args) W) (p : Nat → Bool) (s : ByteArray) (w : World) (hp : RuneAt Tryd.prog g p) :
    Calls Tryd.prog 59 #[.string s, .func (.func g) #[] #[]] w fun e w' => e = .returned (.int .i64 (idxRune p s)) ∧ Below w.heap.size w w' := by
  have HC := Aside0.mk (strings_indexFunc_at g eg p s w hp)
  clear hp eg
  generalize idxRune p s = x at HC
  go_enter Tryd.func59, Tryd.ntmps59
  go_wp2_with (go_at_call 72; refine HC.out.mono ?_; rintro e W' ⟨rfl, hb⟩; have HB := Aside0.mk hb; clear hb)
  go_ret
  exact ⟨rfl, HB.out⟩

/-! ### strings_IndexFunc_with_dns_Label_1: function 59 with 57 -/
def strings_IndexFunc_with_dns_Label_1.p (r : Nat) : Bool := !octB r
set_option maxHeartbeats 4000000 in
theorem strings_IndexFunc_with_dns_Label_1.at_ : RuneAt Tryd.prog 57 strings_IndexFunc_with_dns_Label_1.p := by
  intro W r
  unfold strings_IndexFunc_with_dns_Label_1.p
  have ho := Aside0.mk (octB_f r)
  go_enter Tryd.func57, Tryd.ntmps57
  go_wp2_with (go_at_call 58; refine (dns_octet.calls _ _ _ ho.out).mono ?_; rintro e w' ⟨rfl, hd⟩; have HB := Aside0.mk (show Below _ _ _ from by first | exact hd.below | exact hd); clear hd)
  go_ret
  exact ⟨rfl, HB.out⟩
def strings_IndexFunc_with_dns_Label_1.f (a0 : ByteArray) : Option (Int) := some (idxRune strings_IndexFunc_with_dns_Label_1.p a0)
theorem strings_IndexFunc_with_dns_Label_1.calls (a0 : ByteArray) (r : Int) (w : World) (h : strings_IndexFunc_with_dns_Label_1.f a0 = some r) :
    Calls Tryd.prog 59 #[.string a0, .func (.func 57) #[] #[]] w fun e w' => e = .returned (.int .i64 r) ∧ Below w.heap.size w w' := by
  obtain rfl := Option.some.inj h
  exact strings_IndexFunc_at 57 (enters_of Tryd.func57 (by kernel_rfl) rfl) _ a0 w strings_IndexFunc_with_dns_Label_1.at_

/-! ### dns_Label: function 47 -/
def dns_Label.f (a0 : ByteArray) : Option (Bool) := if a0.toList = ([] : List UInt8) then (some false) else (if (a0.size : Int) ≤ 20 then ((strings_IndexFunc_with_dns_Label_1.f a0).bind fun t106 => (if t106 < 0 then (if 0 < (a0.size : Int) then (if (bt a0 0) = 45 then (some false) else (if 0 ≤ (wrap64 ((a0.size : Int) - 1)) then (if (wrap64 ((a0.size : Int) - 1)) < (a0.size : Int) then (some ((bt a0 (wrap64 ((a0.size : Int) - 1))) != 45)) else (none)) else (none))) else (none)) else (some false))) else (some false))
set_option maxHeartbeats 8000000 in
set_option maxRecDepth 100000 in
theorem dns_Label.calls (a0 : ByteArray) (r : Bool) (w : World) (h : dns_Label.f a0 = some r) :
    Calls Tryd.prog 47 #[.string a0] w fun e w' => e = .returned (.bool r) ∧ Below w.heap.size w w' := by
  have HB := Aside0.mk (Below.refl w.heap.size w)
  have H : (if a0.toList = ([] : List UInt8) then (some false) else (if (a0.size : Int) ≤ 20 then ((strings_IndexFunc_with_dns_Label_1.f a0).bind fun t106 => (if t106 < 0 then (if 0 < (a0.size : Int) then (if (bt a0 0) = 45 then (some false) else (if 0 ≤ (wrap64 ((a0.size : Int) - 1)) then (if (wrap64 ((a0.size : Int) - 1)) < (a0.size : Int) then (some ((bt a0 (wrap64 ((a0.size : Int) - 1))) != 45)) else (none)) else (none))) else (none)) else (some false))) else (some false))) = some r := h
  clear h
  by_cases c2 : a0.toList = ([] : List UInt8)
  · rw [if_pos c2] at H
    have c2b0 : (a0.toList == ([] : List UInt8)) = true := beq_iff_eq.mpr c2
    have c2b1 : (a0.toList != ([] : List UInt8)) = false := bne_eq_false_iff_eq.mpr c2
    clear c2
    obtain rfl := Option.some.inj H
    go_enter Tryd.func47, Tryd.ntmps47
    go_wp2
    go_ret
    exact ⟨by first | rfl | (simp [errW_none, errW_some] <;> rfl) | (simp [*, errW_none, errW_some] <;> rfl), by repeat (first | (with_reducible first | exact HB.out | apply below_alloc | apply pw_below_drewN | apply below_drew1) | exact HB.out)⟩
  · rw [if_neg c2] at H
    have c2b0 : (a0.toList == ([] : List UInt8)) = false := beq_eq_false_iff_ne.mpr c2
    have c2b1 : (a0.toList != ([] : List UInt8)) = true := bne_iff_ne.mpr c2
    by_cases c3 : (a0.size : Int) ≤ 20
    · rw [if_pos c3] at H
      have c3b0 : decide ((a0.size : Int) ≤ 20) = true := decide_eq_true c3
      have c3b1 : decide (a0.size ≤ 20) = true := decide_eq_true (by omega)
      clear c3
      replace H := Option.bind_eq_some_iff.mp H
      obtain ⟨t106, A40, H⟩ := H
      replace H : (if t106 < 0 then (if 0 < (a0.size : Int) then (if (bt a0 0) = 45 then (some false) else (if 0 ≤ (wrap64 ((a0.size : Int) - 1)) then (if (wrap64 ((a0.size : Int) - 1)) < (a0.size : Int) then (some ((bt a0 (wrap64 ((a0.size : Int) - 1))) != 45)) else (none)) else (none))) else (none)) else (some false)) = some r := H
      have A4 := Aside0.mk A40
      clear A40
      by_cases c5 : t106 < 0
      · rw [if_pos c5] at H
        have c5b0 : decide (t106 < 0) = true := decide_eq_true c5
        clear c5
        by_cases c6 : 0 < (a0.size : Int)
        · rw [if_pos c6] at H
          have c6b0 : decide (0 < (a0.size : Int)) = true := decide_eq_true c6
          have c6b1 : decide (0 < a0.size) = true := decide_eq_true (by omega)
          clear c6
          by_cases c8 : (bt a0 0) = 45
          · rw [if_pos c8] at H
            have c8b0 : ((bt a0 0) == 45) = true := beq_iff_eq.mpr c8
            have c8b1 : ((bt a0 0) != 45) = false := bne_eq_false_iff_eq.mpr c8
            clear c8
            obtain rfl := Option.some.inj H
            go_enter Tryd.func47, Tryd.ntmps47
            go_wp2_with (first | (go_at_call 59; (with_reducible refine (strings_IndexFunc_with_dns_Label_1.calls a0 t106 _ A4.out).mono ?_); rintro e w9 ⟨rfl, hb⟩; have n0_ := Aside0.mk (below_step (by repeat (first | (with_reducible first | exact HB.out | apply below_alloc | apply pw_below_drewN | apply below_drew1) | exact HB.out)) hb); clear HB; have HB := n0_; clear n0_; (try clear hb); (try clear hb2); (try clear hk); (try clear hi); have p7 : 0 ≤ (0 : Int) := (by omega); have q7 : 0 < a0.size := (by have : (0 : Int) < (a0.size : Int) := of_decide_eq_true (by first | (with_reducible assumption) | assumption); omega); have hx7 : ∀ h : 0 < a0.size, ((a0[0]'h).toNat : Int) = bt a0 0 := bt_at a0 0; clear p7; have qi7 : (0 < (a0.size : Int)) = True := eq_true (of_decide_eq_true (by first | (with_reducible assumption) | assumption)); replace q7 := eq_true q7))
            go_ret
            exact ⟨by first | rfl | (simp [errW_none, errW_some] <;> rfl) | (simp [*, errW_none, errW_some] <;> rfl), by repeat (first | (with_reducible first | exact HB.out | apply below_alloc | apply pw_below_drewN | apply below_drew1) | exact HB.out)⟩
          · rw [if_neg c8] at H
            have c8b0 : ((bt a0 0) == 45) = false := beq_eq_false_iff_ne.mpr c8
            have c8b1 : ((bt a0 0) != 45) = true := bne_iff_ne.mpr c8
            obtain ⟨ji10, hji10⟩ : ∃ j_ : Int, (wrap64 ((a0.size : Int) - 1)) = j_ := ⟨_, rfl⟩
            replace H : (if 0 ≤ (ji10) then (if (ji10) < (a0.size : Int) then (some ((bt a0 (ji10)) != 45)) else (none)) else (none)) = some r := by first | (rw [hji10] at H; exact H) | (simp only [hji10] at H ⊢; exact H)
            (try rw [hji10] at A4)
            have hji10w : (IntKind.i64.wrap ((a0.size : Int) - 1)) = ji10 := (i64_w _).trans hji10
            by_cases c11 : 0 ≤ (ji10)
            · rw [if_pos c11] at H
              have c11b0 : decide (0 ≤ (ji10)) = true := decide_eq_true c11
              clear c11
              by_cases c12 : (ji10) < (a0.size : Int)
              · rw [if_pos c12] at H
                have c12b0 : decide ((ji10) < (a0.size : Int)) = true := decide_eq_true c12
                clear c12
                obtain rfl := Option.some.inj H
                go_enter Tryd.func47, Tryd.ntmps47
                go_wp2_with (first | (go_at_call 59; (with_reducible refine (strings_IndexFunc_with_dns_Label_1.calls a0 t106 _ A4.out).mono ?_); rintro e w14 ⟨rfl, hb⟩; have n0_ := Aside0.mk (below_step (by repeat (first | (with_reducible first | exact HB.out | apply below_alloc | apply pw_below_drewN | apply below_drew1) | exact HB.out)) hb); clear HB; have HB := n0_; clear n0_; (try clear hb); (try clear hb2); (try clear hk); (try clear hi); have p7 : 0 ≤ (0 : Int) := (by omega); have q7 : 0 < a0.size := (by have : (0 : Int) < (a0.size : Int) := of_decide_eq_true (by first | (with_reducible assumption) | assumption); omega); have hx7 : ∀ h : 0 < a0.size, ((a0[0]'h).toNat : Int) = bt a0 0 := bt_at a0 0; clear p7; have qi7 : (0 < (a0.size : Int)) = True := eq_true (of_decide_eq_true (by first | (with_reducible assumption) | assumption)); replace q7 := eq_true q7; have p13 : 0 ≤ ((ji10) : Int) := of_decide_eq_true (by first | (with_reducible assumption) | assumption); have q13 : (ji10) < (a0.size : Int) := of_decide_eq_true (by first | (with_reducible assumption) | assumption); have hx13 := bt_at a0 (ji10); replace p13 := eq_true p13; replace q13 := eq_true q13))
                go_ret
                exact ⟨by first | rfl | (simp [errW_none, errW_some] <;> rfl) | (simp only [← hji10]; first | rfl | (simp [errW_none, errW_some] <;> rfl)) | (simp [*, errW_none, errW_some] <;> rfl), by repeat (first | (with_reducible first | exact HB.out | apply below_alloc | apply pw_below_drewN | apply below_drew1) | exact HB.out)⟩
              · rw [if_neg c12] at H
                exact absurd H (by simp)
            · rw [if_neg c11] at H
              exact absurd H (by simp)
        · rw [if_neg c6] at H
          exact absurd H (by simp)
      · rw [if_neg c5] at H
        have c5b0 : decide (t106 < 0) = false := decide_eq_false c5
        clear c5
        obtain rfl := Option.some.inj H
        go_enter Tryd.func47, Tryd.ntmps47
        go_wp2_with (first | (go_at_call 59; (with_reducible refine (strings_IndexFunc_with_dns_Label_1.calls a0 t106 _ A4.out).mono ?_); rintro e w15 ⟨rfl, hb⟩; have n0_ := Aside0.mk (below_step (by repeat (first | (with_reducible first | exact HB.out | apply below_alloc | apply pw_below_drewN | apply below_drew1) | exact HB.out)) hb); clear HB; have HB := n0_; clear n0_; (try clear hb); (try clear hb2); (try clear hk); (try clear hi)))
        go_ret
        exact ⟨by first | rfl | (simp [errW_none, errW_some] <;> rfl) | (simp [*, errW_none, errW_some] <;> rfl), by repeat (first | (with_reducible first | exact HB.out | apply below_alloc | apply pw_below_drewN | apply below_drew1) | exact HB.out)⟩
    · rw [if_neg c3] at H
      have c3b0 : decide ((a0.size : Int) ≤ 20) = false := decide_eq_false c3
      have c3b1 : decide (a0.size ≤ 20) = false := decide_eq_false (by omega)
      clear c3
      obtain rfl := Option.some.inj H
      go_enter Tryd.func47, Tryd.ntmps47
      go_wp2
      go_ret
      exact ⟨by first | rfl | (simp [errW_none, errW_some] <;> rfl) | (simp [*, errW_none, errW_some] <;> rfl), by repeat (first | (with_reducible first | exact HB.out | apply below_alloc | apply pw_below_drewN | apply below_drew1) | exact HB.out)⟩

/-! ### a range over a function whose iterator keeps a state of its own in a cell -/
/-- What such an iterator promises: whatever the loop holds between two rounds, if that abides new blocks and a store into the iterator's own cell: the rounds come in order, all of them, or up to one that says no more. -/
def SeqAt {α : Type} (F : Fence) (n : Nat) (P : Program) (g : Nat) (lb : Array Value) (encs : α → Array Value) (Kp : World → World → Prop) (Bs : Nat) (S Sp : List α → Prop) (N : Nat) (w : World) : Prop :=
  ∀ (l : Nat) (J Jx : List α → World → Prop) (W : World), Below w.heap.size w W → AbidesFrom W.heap.size J → AbidesFrom W.heap.size Jx → (∀ s A v, J s A → J s (A.setCell ⟨Bs, 0, none⟩ v)) →
    (∀ pre x W1, J pre W1 → pre.length < N → YieldAt F (n - 1) P l (encs x) W1 fun e W' =>
      (e = .returned (.bool true) ∧ J (pre ++ [x]) W' ∧ Kp W1 W') ∨ (e = .returned (.bool false) ∧ Jx (pre ++ [x]) W')) →
    J [] W →
    CallsIn F n P g (#[.func (.yield l) #[] #[]] ++ lb) W fun e W' => (∃ v, e = .returned v) ∧ ((∃ xs, S xs ∧ J xs W') ∨ (∃ pre, Sp pre ∧ Jx pre W'))
/-- The loop's record and its block of calls put off lie where they were laid. -/
structure Kept2 (l : Nat) (r : Loop) (W : World) : Prop where
  rec_ : W.heap[l + 1]? = some (.loop r)
  put_ : W.heap[l]? = some (.deferred (some []))
theorem Kept2.turn {l : Nat} {r r' : Loop} {W : World} (h : Kept2 l r W) : Kept2 l r' (W.putObj (l + 1) (.loop r')) :=
  ⟨World.putObj_heap_same (Array.getElem?_eq_some_iff.1 h.1).1, (World.putObj_heap_other (by omega)).trans h.2⟩
theorem Kept2.others {B l : Nat} {r : Loop} {W W' : World} (h : Kept2 l r W) (hk : KeepsFrom B W W') (hB : B ≤ l) : Kept2 l r W' := ⟨hk.same _ _ (by omega) h.1 rfl, hk.same _ _ hB h.2 rfl⟩
theorem Kept2.grown {l : Nat} {r : Loop} {W W' : World} {row : Option Nat} (h : Kept2 l r W) (hg : W.grownBy W' row) (hr : ∀ k, row = some k → ∃ o : Obj, W.heap[k]? = some o ∧ o.isWalk = true) : Kept2 l r W' :=
  ⟨(grownBy_keeps hg hr h.1 rfl).trans h.1, (grownBy_keeps hg hr h.2 rfl).trans h.2⟩
/-- The loop's law: as the kit's, with such an iterator. -/
theorem wpIn_range_cell {F : Fence} {n : Nat} {P : Program} {α : Type} {g : Operand} {ps : Array Tmp} {assign body : Code} {Q : Exit → Act → World → Prop} {a : Act} {w : World}
    (hro : F.round = none) (h1 : 1 ≤ n) {gf : Nat} {lb : Array Value} (hg : a.eval g = .func (.func gf) #[] lb) (hFg : F.fn gf) (eg : ∀ args w, (callFunc gf args).run P w = .ok (.enter gf args) w)
    {encs : α → Array Value} {Kp : World → World → Prop} {Bs : Nat} {S Sp : List α → Prop} {N : Nat} {w0 : World} (hseq : SeqAt F (n - 1) P gf lb encs Kp Bs S Sp N w0)
    (hKt : ∀ {A B C : World}, Kp A B → Kp B C → Kp A C) (hKb : ∀ (W : World) (l : Nat) (o o' : Obj), w.heap.size ≤ l → W.heap[l]? = some o → o.isCells = false → o.isWalk = false → Kp W (W.putObj l o')) (hb0 : Below w0.heap.size w0 w) (hps : ∀ x, (encs x).size = ps.size)
    (I : List α → World → Prop) (Ix : List α → World → Prop) (hI : OwnFrom w.heap.size I) (hIx : OwnFrom w.heap.size Ix) (hIc : ∀ s A v, I s A → I s (A.setCell ⟨Bs, 0, none⟩ v)) (h0 : I [] w) (a₁ : α → Act)
    (hassign : ∀ (l : Nat) (x : α) (W : World) (K : Act → World → Prop), K (a₁ x) W →
      assign.wpIn (F.inRound l) (n - 1 - 1) P (Exit.then K (fun _ _ _ => False)) { tmps := (ps.zip (encs x)).foldl (fun t (p, v) => t.setIfInBounds p v) a.tmps, defers := [] } W)
    (hbody : ∀ (l : Nat) (pre : List α) (x : α) (W : World), I pre W → pre.length < N → body.wpIn (F.inRound l) (n - 1 - 1) P
      (fun e _ W' => match e with | .normal => KeepsFrom w.heap.size W W' ∧ Kp W W' ∧ I (pre ++ [x]) W' | .ret => KeepsFrom w.heap.size W W' ∧ Ix (pre ++ [x]) W' | _ => False) (a₁ x) W)
    (hdone : ∀ (D : Nat) (xs : List α) (W : World), w.heap.size ≤ D → S xs → I xs W → W.heap[D]? = some (.deferred (some [])) → Q .normal { a with defers := { target := .collected D, args := #[] } :: a.defers } W)
    (hstop : ∀ (D : Nat) (pre : List α) (W : World), w.heap.size ≤ D → Sp pre → Ix pre W → W.heap[D]? = some (.deferred (some [])) → Code.ret.wpIn F n P Q { a with defers := { target := .collected D, args := #[] } :: a.defers } W) :
    (Code.rangeFunc g ps assign body).wpIn F n P Q a w := by
  refine wpIn_rangeFunc fun fn hfn => ?_
  rw [hro]
  obtain ⟨L, hL⟩ : ∃ L : LoopState → Option Code → Loop, L = fun st pe => { state := st, pending := pe, fn, tmps := a.tmps, params := ps, assign, body, defers := w.heap.size } := ⟨_, rfl⟩
  obtain ⟨W1, hW1⟩ : ∃ W1, (w.alloc (.deferred (some []))).alloc (.loop (L .ready none)) = W1 := ⟨_, rfl⟩
  have hk1 : Kept2 w.heap.size (L .ready none) W1 := by
    rw [← hW1]
    refine ⟨?_, (Below.heap_alloc _ _ _ (by simp)).trans (World.alloc_heap_new w _)⟩
    have := World.alloc_heap_new (w.alloc (.deferred (some []))) (.loop (L .ready none))
    rwa [World.size_alloc] at this
  have hi1 : I [] W1 := by rw [← hW1]; exact hI.alloc _ (hI.alloc _ h0)
  have hb1 : Below w0.heap.size w0 W1 := by rw [← hW1]; exact hb0.trans ((((Below.refl _ w).alloc (Nat.le_refl _) _).alloc (by simp) _).mono hb0.size)
  have hs1 : w.heap.size + 2 = W1.heap.size := by rw [← hW1]; simp
  have rows : ∀ {A : World} {row : Option Nat}, (∀ r, row = some r → W1.heap.size ≤ r ∧ ∃ o : Obj, A.heap[r]? = some o ∧ o.isWalk = true) → ∀ r, row = some r → w.heap.size ≤ r ∧ ∃ o : Obj, A.heap[r]? = some o ∧ o.isCells = false :=
    fun hr r e => by obtain ⟨hB, o, ho, hw⟩ := hr r e; exact ⟨by omega, o, ho, Obj.not_cells_of_walk hw⟩
  have cells : ∀ {A : World} {r : Loop} (v : Value), Kept2 w.heap.size r A → Kept2 w.heap.size r (A.setCell ⟨Bs, 0, none⟩ v) := fun {A r} v h => ⟨(KeepsOthers.setCell A ⟨Bs, 0, none⟩ v).same _ _ h.1 rfl, (KeepsOthers.setCell A ⟨Bs, 0, none⟩ v).same _ _ h.2 rfl⟩
  refine ⟨w.heap.size + 1, [{ target := .collected w.heap.size, args := #[] }], W1, { target := .fn (.func gf) lb, args := #[.func (.yield (w.heap.size + 1)) #[] #[]] }, W1, gf,
    #[.func (.yield (w.heap.size + 1)) #[] #[]] ++ lb, W1, by rw [← hW1, hL]; exact run_enterLoop_outer _ _ _ _ _, by simp only [resolve, hg]; simp [go_sem], fun f' hf' => by simp [Target.leads] at hf'; subst hf'; exact hFg, by simp [invoke, go_sem, eg], fun _ => h1, ?_⟩
  refine (hseq (w.heap.size + 1) (fun pre W => I pre W ∧ Kept2 w.heap.size (L .ready none) W) (fun pre W => Ix pre W ∧ Kept2 w.heap.size (L .done (some .ret)) W) W1 hb1
    (fun s A B row hs hg' hr => ⟨hI s A B row hs.1 hg' (rows hr), hs.2.grown hg' fun r e => (hr r e).2⟩) (fun s A B row hs hg' hr => ⟨hIx s A B row hs.1 hg' (rows hr), hs.2.grown hg' fun r e => (hr r e).2⟩)
    (fun s A v hs => ⟨hIc s A v hs.1, cells v hs.2⟩) ?round ⟨hi1, hk1⟩).mono ?_
  case round =>
    rintro pre x W ⟨hi, hk⟩ hlen
    have hy := run_yield (P := P) (args := encs x) hk.1 (by rw [hL]; exact hps x)
    rw [hL] at hy
    have busy : Kept2 w.heap.size { L .ready none with state := .busy } (W.putObj (w.heap.size + 1) (.loop { L .ready none with state := .busy })) := hk.turn
    refine ⟨fn, _, assign, body, hy, roundIn_of_wpIn hfn (hassign _ x W _ ⟨_, run_beginRound hk.1 (by rw [hL]), wpIn_mono (hbody _ pre x _ (hI.putObj _ hi (by omega) hk.1 rfl) hlen) ?_⟩)⟩
    have ends : ∀ (jump : Option Code) (W3 : World), Kept2 w.heap.size { L .ready none with state := .busy } W3 → (Instr.endRound (w.heap.size + 1) jump).run P W3 = .ok (.bool jump.isNone) (W3.putObj (w.heap.size + 1) (.loop (L (if jump.isNone then .ready else .done) jump))) := fun jump W3 h => by
      have := run_endRound (P := P) jump h.1
      rw [hL] at this ⊢
      exact this
    rintro e a3 W3 hp
    cases e with
    | normal =>
      obtain ⟨hk3, hkp3, hi3⟩ := hp
      have b3 := busy.others hk3 (Nat.le_refl _)
      exact ⟨_, _, ends none W3 b3, .inl ⟨rfl, ⟨hI.putObj _ hi3 (by omega) b3.1 rfl, b3.turn⟩, hKt (hKt (hKb _ _ _ _ (by omega) hk.1 rfl rfl) hkp3) (hKb _ _ _ _ (by omega) b3.1 rfl rfl)⟩⟩
    | ret =>
      obtain ⟨hk3, hi3⟩ := hp
      have b3 := busy.others hk3 (Nat.le_refl _)
      exact ⟨_, _, ends (some .ret) W3 b3, .inr ⟨rfl, hIx.putObj _ hi3 (by omega) b3.1 rfl, b3.turn⟩⟩
    | exit id => exact hp.elim
    | goto t => exact hp.elim
    | panic ch => exact hp.elim
    | outgrown => exact hp.elim
  rintro e W2 ⟨⟨v, rfl⟩, ⟨xs, hS, hi, hk⟩ | ⟨pre, hSp, hi, hk⟩⟩
  · exact ⟨none, _, by have := run_endLoop (P := P) hk.1 (by rw [hL]; simp); rw [hL] at this; exact this, hdone _ xs _ (Nat.le_refl _) hS (hI.putObj _ hi (by omega) hk.1 rfl) ((World.putObj_heap_other (by omega)).trans hk.2)⟩
  · exact ⟨some .ret, _, by have := run_endLoop (P := P) hk.1 (by rw [hL]; simp); rw [hL] at this; exact this, hstop _ pre _ (Nat.le_refl _) hSp (hIx.putObj _ hi (by omega) hk.1 rfl) ((World.putObj_heap_other (by omega)).trans hk.2)⟩

end Go.Proofs.YtjfjmniegceejaaDoor.P
