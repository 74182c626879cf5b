-- written by wip/tool/hprint.py of this repo: the kit's print, with contracts by hand joined; Lean checks it.
import Derived.Test.YtpmllmfamjpinaaDoorPx0
import Derived.Test.YtpmllmfamjpinaaDoorPx2
import Derived.Test.YtpmllmfamjpinaaDoorPx3
import Derived.Test.YtpmllmfamjpinaaDoorPx4
namespace Go.Proofs.YtpmllmfamjpinaaDoor.P
open Go.RowKit Go.Proofs.YtpmllmfamjpinaaDoorW.PrintWords Go.Proofs.YtpmllmfamjpinaaDoorW.PrintLast Go.Proofs.YtpmllmfamjpinaaDoorW.PrintMore
attribute [local go_sem] max2_int min2_int max_two min_two max_three min_three max_four min_four   -- for this text's walks alone
set_option linter.unusedVariables false
set_option linter.unusedSimpArgs false

/-! ### query_Plain: function 55 -/
mutual
def query_Plain.j0 : Nat → Int → Bool → Option (Bool)
 | 0, _, _ => none
 | k + 1, x0, x3 => if x3 = true then (some true) else (if x0 ≥ 65 then (query_Plain.j1 k x0 (decide (x0 ≤ 90))) else (query_Plain.j1 k x0 false))
def query_Plain.j1 : Nat → Int → Bool → Option (Bool)
 | 0, _, _ => none
 | k + 1, x0, x3 => if x3 = true then (some true) else (if x0 ≥ 48 then (if x0 ≤ 57 then (some true) else ((strings_IndexByte.f (⟨#[45, 46, 95, 126]⟩ : ByteArray) x0).bind fun t319 => (some (decide (t319 ≥ 0))))) else ((strings_IndexByte.f (⟨#[45, 46, 95, 126]⟩ : ByteArray) x0).bind fun t320 => (some (decide (t320 ≥ 0)))))
end
def query_Plain.f (k : Nat) (a0 : Int) : Option (Bool) := if a0 ≥ 97 then (query_Plain.j0 k a0 (decide (a0 ≤ 122))) else (query_Plain.j0 k a0 false)
theorem query_Plain.mono_l : ∀ k, (∀ y0 y1, LeO (query_Plain.j0 k y0 y1) (query_Plain.j0 (k + 1) y0 y1)) ∧ (∀ y0 y1, LeO (query_Plain.j1 k y0 y1) (query_Plain.j1 (k + 1) y0 y1))
 | 0 => ⟨fun _ _ r h => by simp [query_Plain.j0] at h, fun _ _ r h => by simp [query_Plain.j1] at h⟩
 | k + 1 => by
  obtain ⟨ih0, ih1⟩ := query_Plain.mono_l k
  refine ⟨?_, ?_⟩
  ·intro y0 y1
   unfold query_Plain.j0
   repeat' first
   | (with_reducible exact ih0 _ _)
   | (with_reducible exact ih1 _ _)
   | (with_reducible exact LeO.refl _)
   | (with_reducible exact LeO.none _)
   | (with_reducible refine LeO.ite ?_ ?_)
   | (with_reducible refine LeO.bind ?_ (fun _ => ?_))
   | exact ih0 _ _
   | exact ih1 _ _
   | exact LeO.none _
   | refine LeO.ite ?_ ?_
   | refine LeO.bind ?_ (fun _ => ?_)
  ·intro y0 y1
   unfold query_Plain.j1
   repeat' first
   | (with_reducible exact ih0 _ _)
   | (with_reducible exact ih1 _ _)
   | (with_reducible exact LeO.refl _)
   | (with_reducible exact LeO.none _)
   | (with_reducible refine LeO.ite ?_ ?_)
   | (with_reducible refine LeO.bind ?_ (fun _ => ?_))
   | exact ih0 _ _
   | exact ih1 _ _
   | exact LeO.none _
   | refine LeO.ite ?_ ?_
   | refine LeO.bind ?_ (fun _ => ?_)
theorem query_Plain.mono : ∀ a0 k, LeO (query_Plain.f k a0) (query_Plain.f (k + 1) a0) := by
 intro a0 k
 obtain ⟨ih0, ih1⟩ := query_Plain.mono_l k
 unfold query_Plain.f
 repeat' first
   | (with_reducible exact ih0 _ _)
   | (with_reducible exact ih1 _ _)
   | (with_reducible exact LeO.refl _)
   | (with_reducible exact LeO.none _)
   | (with_reducible refine LeO.ite ?_ ?_)
   | (with_reducible refine LeO.bind ?_ (fun _ => ?_))
   | exact ih0 _ _
   | exact ih1 _ _
   | exact LeO.none _
   | refine LeO.ite ?_ ?_
   | refine LeO.bind ?_ (fun _ => ?_)
set_option maxHeartbeats 8000000 in
set_option maxRecDepth 100000 in
theorem query_Plain.calls (k : Nat) (a0 : Int) (r : Bool) (w : World) (h : query_Plain.f k a0 = some r) :
  Calls Tryd.prog 55 #[.int .u8 a0] w fun e w' => e = .returned (.bool r) ∧ Drawn0 w w' := by
 have H : (if a0 ≥ 97 then (query_Plain.j0 k a0 (decide (a0 ≤ 122))) else (query_Plain.j0 k a0 false)) = some r := h
 clear h
 have HC2 := Aside0.mk H
 clear H
 go_enter Tryd.func55, Tryd.ntmps55
 go_upto_region 1 with (fail)
 go_cut [3] (fun v3 wc => ∃ (kq : Nat) (x3_1 : Bool), v3 = .bool x3_1 ∧ Aside0 (query_Plain.j0 kq a0 x3_1 = some r) ∧ Aside0 (kq ≤ k) ∧ Drawn0 w wc)
 case first =>
  have H := HC2.out
  clear HC2
  by_cases c3 : a0 ≥ 97
  ·rw [if_pos c3] at H
   have c3b0 : decide (97 ≤ a0) = true := decide_eq_true c3
   clear c3
   (first | rw [c3b0] | rw [c3b1] | rw [c3b2] | (simp only [i64_w, i32_w]; rw [c3b0]) | skip)
   have H' := Aside0.mk H
   clear H
   go_wp2
   go_meet
   case rel => exact ⟨_, (decide (a0 ≤ 122)), sd_, H', ⟨by first | omega | exact Nat.le_refl _⟩, by repeat (first | exact Drawn0.refl _ | apply Drawn0.step)⟩
  ·rw [if_neg c3] at H
   have c3b0 : decide (97 ≤ a0) = false := decide_eq_false c3
   clear c3
   (first | rw [c3b0] | rw [c3b1] | rw [c3b2] | (simp only [i64_w, i32_w]; rw [c3b0]) | skip)
   have H' := Aside0.mk H
   clear H
   go_wp2
   go_meet
   case rel => exact ⟨_, (false), sd_, H', ⟨by first | omega | exact Nat.le_refl _⟩, by repeat (first | exact Drawn0.refl _ | apply Drawn0.step)⟩
 case rest =>
  clear HC2
  try clear p2
  try clear c3
  try clear c3b0
  try clear c3b1
  try clear c3b2
  obtain ⟨kq, x3_1, rfl, HA, HJ1, ⟨mc1, rfl⟩⟩ := hcut
  cases kq with
  | zero => exact absurd HA.out (by simp [query_Plain.j0])
  | succ kj1 =>
   have H := HA.out
   clear HA
   simp only [query_Plain.j0] at H
   by_cases c4 : x3_1 = true
   ·subst c4
    have H1 : (some true) = some r := by rw [if_pos rfl] at H; exact H
    clear H
    have H := H1
    clear H1
    obtain rfl := Option.some.inj H
    go_wp2
    go_ret
    exact ⟨by first | rfl | (simp; done) | (simp [*]; done) | (simp [bne_nil_isEmpty, beq_nil_isEmpty]; done) | (simp [*, bne_nil_isEmpty, beq_nil_isEmpty]; done), by repeat (first | exact Drawn0.refl _ | apply Drawn0.step)⟩
   ·replace c4 := Bool.eq_false_iff.mpr c4
    subst c4
    have H1 : (if a0 ≥ 65 then (query_Plain.j1 kj1 a0 (decide (a0 ≤ 90))) else (query_Plain.j1 kj1 a0 false)) = some r := by rw [if_neg (show ¬ (false = true) by decide)] at H; exact H
    clear H
    have H := H1
    clear H1
    have HC5 := Aside0.mk H
    clear H
    go_upto_region 2 with (fail)
    go_cut [3] (fun v3 wc => ∃ (kq : Nat) (x3_4 : Bool), v3 = .bool x3_4 ∧ Aside0 (query_Plain.j1 kq a0 x3_4 = some r) ∧ Aside0 (kq ≤ kj1) ∧ Drawn0 w wc)
    case first =>
     have H := HC5.out
     clear HC5
     by_cases c6 : a0 ≥ 65
     ·rw [if_pos c6] at H
      have c6b0 : decide (65 ≤ a0) = true := decide_eq_true c6
      clear c6
      (first | rw [c6b0] | rw [c6b1] | rw [c6b2] | (simp only [i64_w, i32_w]; rw [c6b0]) | skip)
      have H' := Aside0.mk H
      clear H
      go_wp2
      go_meet
      case rel => exact ⟨_, (decide (a0 ≤ 90)), sd_, H', ⟨by have := HJ1.out; first | omega | exact Nat.le_refl _⟩, by repeat (first | exact Drawn0.refl _ | apply Drawn0.step)⟩
     ·rw [if_neg c6] at H
      have c6b0 : decide (65 ≤ a0) = false := decide_eq_false c6
      clear c6
      (first | rw [c6b0] | rw [c6b1] | rw [c6b2] | (simp only [i64_w, i32_w]; rw [c6b0]) | skip)
      have H' := Aside0.mk H
      clear H
      go_wp2
      go_meet
      case rel => exact ⟨_, (false), sd_, H', ⟨by have := HJ1.out; first | omega | exact Nat.le_refl _⟩, by repeat (first | exact Drawn0.refl _ | apply Drawn0.step)⟩
    case rest =>
     clear HC5
     try clear c1
     try clear p2
     try clear c3
     try clear c3b0
     try clear c3b1
     try clear c3b2
     try clear c4
     try clear c5
     try clear c6
     try clear c6b0
     try clear c6b1
     try clear c6b2
     try clear p2
     obtain ⟨kq, x3_4, rfl, HA, HJ4, ⟨mc4, rfl⟩⟩ := hcut
     cases kq with
     | zero => exact absurd HA.out (by simp [query_Plain.j1])
     | succ kj4 =>
      have H := HA.out
      clear HA
      simp only [query_Plain.j1] at H
      by_cases c7 : x3_4 = true
      ·subst c7
       have H1 : (some true) = some r := by rw [if_pos rfl] at H; exact H
       clear H
       have H := H1
       clear H1
       obtain rfl := Option.some.inj H
       go_wp2
       go_ret
       exact ⟨by first | rfl | (simp; done) | (simp [*]; done) | (simp [bne_nil_isEmpty, beq_nil_isEmpty]; done) | (simp [*, bne_nil_isEmpty, beq_nil_isEmpty]; done), by repeat (first | exact Drawn0.refl _ | apply Drawn0.step)⟩
      ·replace c7 := Bool.eq_false_iff.mpr c7
       subst c7
       have H1 : (if a0 ≥ 48 then (if a0 ≤ 57 then (some true) else ((strings_IndexByte.f (⟨#[45, 46, 95, 126]⟩ : ByteArray) a0).bind fun t319 => (some (decide (t319 ≥ 0))))) else ((strings_IndexByte.f (⟨#[45, 46, 95, 126]⟩ : ByteArray) a0).bind fun t320 => (some (decide (t320 ≥ 0))))) = some r := by rw [if_neg (show ¬ (false = true) by decide)] at H; exact H
       clear H
       have H := H1
       clear H1
       by_cases c8 : a0 ≥ 48
       ·rw [if_pos c8] at H
        have c8b0 : decide (48 ≤ a0) = true := decide_eq_true c8
        clear c8
        by_cases c9 : a0 ≤ 57
        ·rw [if_pos c9] at H
         have c9b0 : decide (a0 ≤ 57) = true := decide_eq_true c9
         clear c9
         obtain rfl := Option.some.inj H
         go_wp2
         go_ret
         exact ⟨by first | rfl | (simp; done) | (simp [*]; done) | (simp [bne_nil_isEmpty, beq_nil_isEmpty]; done) | (simp [*, bne_nil_isEmpty, beq_nil_isEmpty]; done), by repeat (first | exact Drawn0.refl _ | apply Drawn0.step)⟩
        ·rw [if_neg c9] at H
         have c9b0 : decide (a0 ≤ 57) = false := decide_eq_false c9
         clear c9
         replace H := Option.bind_eq_some_iff.mp H
         obtain ⟨t319, A100, H⟩ := H
         replace H : (some (decide (t319 ≥ 0))) = some r := H
         have A10 := Aside0.mk A100
         clear A100
         obtain rfl := Option.some.inj H
         go_wp2_with (first | ((with_reducible refine gate_callee (f := 46) rfl ?_); refine goesL_ (some 23) rfl rfl Tryd.func46 kr_ rfl #[.string (⟨#[45, 46, 95, 126]⟩ : ByteArray), .int .u8 a0] rfl rl_ ?_; (with_reducible refine (strings_IndexByte.calls (⟨#[45, 46, 95, 126]⟩ : ByteArray) a0 t319 _ A10.out).mono ?_); rintro e w' ⟨rfl, ⟨nd, rfl⟩⟩; refine ⟨_, rfl, ?_⟩))
         go_ret
         exact ⟨by first | rfl | (simp; done) | (simp [*]; done) | (simp [bne_nil_isEmpty, beq_nil_isEmpty]; done) | (simp [*, bne_nil_isEmpty, beq_nil_isEmpty]; done), by repeat (first | exact Drawn0.refl _ | apply Drawn0.step)⟩
       ·rw [if_neg c8] at H
        have c8b0 : decide (48 ≤ a0) = false := decide_eq_false c8
        clear c8
        replace H := Option.bind_eq_some_iff.mp H
        obtain ⟨t320, A110, H⟩ := H
        replace H : (some (decide (t320 ≥ 0))) = some r := H
        have A11 := Aside0.mk A110
        clear A110
        obtain rfl := Option.some.inj H
        go_wp2_with (first | ((with_reducible refine gate_callee (f := 46) rfl ?_); refine goesL_ (some 23) rfl rfl Tryd.func46 kr_ rfl #[.string (⟨#[45, 46, 95, 126]⟩ : ByteArray), .int .u8 a0] rfl rl_ ?_; (with_reducible refine (strings_IndexByte.calls (⟨#[45, 46, 95, 126]⟩ : ByteArray) a0 t320 _ A11.out).mono ?_); rintro e w' ⟨rfl, ⟨nd, rfl⟩⟩; refine ⟨_, rfl, ?_⟩))
        go_ret
        exact ⟨by first | rfl | (simp; done) | (simp [*]; done) | (simp [bne_nil_isEmpty, beq_nil_isEmpty]; done) | (simp [*, bne_nil_isEmpty, beq_nil_isEmpty]; done), by repeat (first | exact Drawn0.refl _ | apply Drawn0.step)⟩

/-! ### the shelf's Lays.n156 at this program -/
def laysB_ren : Go.Shelf.Ren := ⟨fun | 167 => 56 | 170 => 29 | 156 => 39 | 165 => 57 | 166 => 26 | 169 => 30 | 240 => 45 | 241 => 80 | 276 => 66 | 277 => 89 | n => n, fun | 31 => 65 | 9 => 9 | 3 => 3 | 4 => 4 | 0 => 0 | 20 => 20 | 72 => 51 | 76 => 54 | 70 => 49 | 37 => 33 | 75 => 53 | 127 => 73 | 164 => 85 | 5 => 5 | 80 => 57 | n => n, fun  | n => n⟩
theorem laysB : Lays.n156 Tryd.prog laysB_ren where
 mixed := by kernel_rfl
 f156 := Tryd.func39.trans (congrArg some kr_)
 f165 := Tryd.func57.trans (congrArg some kr_)
 f166 := Tryd.func26.trans (congrArg some kr_)
 f169 := Tryd.func30.trans (congrArg some kr_)
 f240 := Tryd.func45.trans (congrArg some kr_)
 f241 := Tryd.func80.trans (congrArg some kr_)
 f276 := Tryd.func66.trans (congrArg some kr_)
 f277 := Tryd.func89.trans (congrArg some kr_)
 t0 := Tryd.underlying0
 a0 := Tryd.isAgg0
 z0 := Tryd.sizeOf0
 v0 := Tryd.zeroValue0
 t3 := Tryd.underlying3
 a3 := Tryd.isAgg3
 z3 := Tryd.sizeOf3
 v3 := Tryd.zeroValue3
 t4 := Tryd.underlying4
 a4 := Tryd.isAgg4
 z4 := Tryd.sizeOf4
 v4 := Tryd.zeroValue4
 t9 := Tryd.underlying9
 a9 := Tryd.isAgg9
 z9 := Tryd.sizeOf9
 v9 := Tryd.zeroValue9
 t20 := Tryd.underlying20
 a20 := Tryd.isAgg20
 z20 := Tryd.sizeOf20
 v20 := Tryd.zeroValue20
 t31 := Tryd.underlying65
 a31 := Tryd.isAgg65
 z31 := Tryd.sizeOf65
 v31 := Tryd.zeroValue65
 t37 := Tryd.underlying33
 a37 := Tryd.isAgg33
 z37 := Tryd.sizeOf33
 v37 := Tryd.zeroValue33
 t70 := Tryd.underlying49
 a70 := Tryd.isAgg49
 z70 := Tryd.sizeOf49
 v70 := Tryd.zeroValue49
 t72 := Tryd.underlying51
 a72 := Tryd.isAgg51
 z72 := Tryd.sizeOf51
 v72 := Tryd.zeroValue51
 t75 := Tryd.underlying53
 a75 := Tryd.isAgg53
 z75 := Tryd.sizeOf53
 v75 := Tryd.zeroValue53
 t76 := Tryd.underlying54
 a76 := Tryd.isAgg54
 z76 := Tryd.sizeOf54
 v76 := Tryd.zeroValue54
 t127 := Tryd.underlying73
 a127 := Tryd.isAgg73
 z127 := Tryd.sizeOf73
 v127 := Tryd.zeroValue73
 t164 := Tryd.underlying85
 a164 := Tryd.isAgg85
 z164 := Tryd.sizeOf85
 v164 := Tryd.zeroValue85

/-! ### builder_own: a text under way, in a block that a call has made itself -/
theorem extraB : Builder.Extra Tryd.prog laysB_ren where
 sizeBuilder := by kernel_rfl
 liesBuilder := by kernel_rfl
 t5 := Tryd.underlying5
 a5 := Tryd.isAgg5
 z5 := Tryd.sizeOf5
 v5 := Tryd.zeroValue5
 infoByte := by kernel_rfl
 cellsByte := by kernel_rfl
 sizeByte := by kernel_rfl
 neB5 := by decide
theorem laysB166 : Lays.n166 Tryd.prog laysB_ren := { laysB with }
theorem laysB167 : Lays.n167 Tryd.prog laysB_ren := { laysB with f167 := Tryd.func56.trans (congrArg some kr_), t5 := Tryd.underlying5, a5 := Tryd.isAgg5, z5 := Tryd.sizeOf5, v5 := Tryd.zeroValue5 }
theorem laysB169 : Lays.n169 Tryd.prog laysB_ren := { laysB with }
theorem laysB170 : Lays.n170 Tryd.prog laysB_ren := { laysB with f170 := Tryd.func29.trans (congrArg some kr_) }
/-- The builder of block B, B the first of a call's own, holds these octets. -/
def Bld (B : Nat) (l : List UInt8) (w : World) : Prop := Lib.IsBuilder 51 5 B B (Lib.byteCells l) w
theorem bld_new (w : World) : Bld w.heap.size [] (w.alloc (.cells #[.pointer none, .slice none 0 0] 51)) := Lib.fresh_isBuilder 51 5 w
theorem bld_byte (B : Nat) (l : List UInt8) (c : UInt8) (w : World) (h : Bld B l w) (hlen : l.length + 1 ≤ 140737488355328) (hBw : B ≤ w.heap.size) :
  Calls Tryd.prog 56 #[.pointer (some ⟨B, 0, none⟩), .int .u8 c.toNat] w fun e w' => e = .returned .nilIface ∧ Bld B (l ++ [c]) w' ∧ Below B w w' := by
 refine (Any.Builder_WriteByte laysB167 extraB B B (Lib.byteCells l) c.toNat w h (by rw [Lib.byteCells_length]; exact hlen) hBw).mono ?_
 rintro e w' ⟨rfl, h1, h2⟩
 refine ⟨rfl, Or.inr ?_, h2⟩
 rw [Lib.byteCells_append]
 exact h1
theorem bld_text (B : Nat) (l : List UInt8) (s : ByteArray) (w : World) (h : Bld B l w) (hlen : l.length + s.size ≤ 140737488355328) (hBw : B ≤ w.heap.size) :
  Calls Tryd.prog 26 #[.pointer (some ⟨B, 0, none⟩), .string s] w fun e w' => e = .returned (.tuple #[.int .i64 s.size, .nilIface]) ∧ Bld B (l ++ s.data.toList) w' ∧ Below B w w' := by
 refine (Any.Builder_WriteString laysB166 extraB B B (Lib.byteCells l) s w h (by rw [Lib.byteCells_length]; exact hlen) hBw).mono ?_
 rintro e w' ⟨rfl, h1, h2⟩
 refine ⟨rfl, Or.inr ?_, h2⟩
 rw [Lib.byteCells_append, ← Lib.strCells_eq]
 exact h1
theorem bld_len (B : Nat) (l : List UInt8) (w : World) (h : Bld B l w) :
  Calls Tryd.prog 29 #[.pointer (some ⟨B, 0, none⟩)] w fun e w' => e = .returned (.int .i64 l.length) ∧ w' = w := by
 refine (Any.Builder_Len laysB170 B B (Lib.byteCells l) w h).mono ?_
 rintro e w' ⟨rfl, rfl⟩
 rw [Lib.byteCells_length]
 exact ⟨rfl, rfl⟩
theorem bld_done (B : Nat) (l : List UInt8) (w : World) (h : Bld B l w) (hBw : B ≤ w.heap.size) :
  Calls Tryd.prog 30 #[.pointer (some ⟨B, 0, none⟩)] w fun e w' => e = .returned (.string ⟨l.toArray⟩) ∧ Below B w w' :=
 Any.Builder_String_any laysB169 extraB B B l w h hBw
theorem bld_below {B : Nat} {l : List UInt8} {w w' : World} (h : Bld B l w) (hb : Below w.heap.size w w') : Bld B l w' := by
 have f : ∀ p, Lib.BuilderAt 51 5 B B p (Lib.byteCells l) w → Lib.BuilderAt 51 5 B B p (Lib.byteCells l) w' := by
  rintro p ⟨h1, v, h2, h3, h4⟩
  exact ⟨h1, v, (hb.block _ (blk_lt h2)).trans h2, h3.kept (row := none) ⟨hb.os, hb.tape, hb.output, hb.size, fun k hk _ => hb.block k hk⟩ (Classical.em _), h4⟩
 exact h.elim (fun x => .inl (f _ x)) (fun x => .inr (f _ x))

/-! ### query_written: function 38 -/
def query_written.x (n : Nat) : UInt8 := UInt8.ofNat (if n < 10 then 48 + n else 55 + n)
def query_written.o (k : Nat) (c : UInt8) : Option (List UInt8) := (query_Plain.f k c.toNat).bind fun b => if b = true then some [c] else if c.toNat = 32 then some [43] else some [37, query_written.x (c.toNat / 16), query_written.x (c.toNat % 16)]
def query_written.g (k : Nat) : List UInt8 → Option (List UInt8)
 | [] => some []
 | c :: r => (query_written.o k c).bind fun x => (query_written.g k r).bind fun y => some (x ++ y)
def query_written.f (k : Nat) (a0 : ByteArray) : Option (ByteArray) := if a0.size ≤ 40000000000000 then (query_written.g k a0.data.toList).bind fun l => some ⟨l.toArray⟩ else none
theorem query_written.o_mono : ∀ c k, LeO (query_written.o k c) (query_written.o (k + 1) c) := by
 intro c k
 unfold query_written.o
 refine LeO.bind (query_Plain.mono _ _) (fun _ => ?_)
 exact LeO.refl _
theorem query_written.g_mono : ∀ l k, LeO (query_written.g k l) (query_written.g (k + 1) l) := by
 intro l k
 induction l with
 | nil => exact LeO.refl _
 | cons c r ih =>
  unfold query_written.g
  exact LeO.bind (query_written.o_mono c k) (fun _ => LeO.bind ih (fun _ => LeO.refl _))
theorem query_written.mono : ∀ a0 k, LeO (query_written.f k a0) (query_written.f (k + 1) a0) := by
 intro a0 k
 unfold query_written.f
 refine LeO.ite (LeO.bind (query_written.g_mono _ _) (fun _ => LeO.refl _)) (LeO.refl _)
theorem query_written.g_snoc (k : Nat) : ∀ (l : List UInt8) (c : UInt8) (x y : List UInt8), query_written.g k l = some x → query_written.o k c = some y → query_written.g k (l ++ [c]) = some (x ++ y) := by
 intro l
 induction l with
 | nil => intro c x y h1 h2; rw [query_written.g] at h1; obtain rfl := Option.some.inj h1; simp [query_written.g, h2]
 | cons a r ih =>
  intro c x y h1 h2
  rw [query_written.g] at h1
  obtain ⟨u, e1, h1⟩ := Option.bind_eq_some_iff.1 h1
  obtain ⟨v, e2, h1⟩ := Option.bind_eq_some_iff.1 h1
  obtain rfl := Option.some.inj h1
  rw [List.cons_append, query_written.g, e1, Option.bind_some, ih c v y e2 h2, Option.bind_some, List.append_assoc]
theorem query_written.g_get (k : Nat) : ∀ (l : List UInt8) (x : List UInt8), query_written.g k l = some x → ∀ (j : Nat) c, l[j]? = some c → ∃ y, query_written.o k c = some y := by
 intro l
 induction l with
 | nil => intro x _ j c h; simp at h
 | cons a r ih =>
  intro x h1 j c hj
  rw [query_written.g] at h1
  obtain ⟨u, e1, h1⟩ := Option.bind_eq_some_iff.1 h1
  obtain ⟨v, e2, h1⟩ := Option.bind_eq_some_iff.1 h1
  cases j with
  | zero => rw [List.getElem?_cons_zero] at hj; obtain rfl := Option.some.inj hj; exact ⟨u, e1⟩
  | succ j => rw [List.getElem?_cons_succ] at hj; exact ih v e2 j c hj
theorem query_written.o_len (k : Nat) (c : UInt8) (y : List UInt8) (h : query_written.o k c = some y) : y.length ≤ 3 := by
 unfold query_written.o at h
 obtain ⟨b, _, h⟩ := Option.bind_eq_some_iff.1 h
 split at h
 ·obtain rfl := Option.some.inj h; simp
 ·split at h
  ·obtain rfl := Option.some.inj h; simp
  ·obtain rfl := Option.some.inj h; simp
noncomputable def query_written.T6 : Bool × List (List Nat × List Nat) := (true, [([], []), ([0], [0]), ([], []), ([2], [2]), ([3], [3]), ([1, 4], [1, 4]), ([5], [5]), ([], []), ([7], [7]), ([], []), ([9], [9]), ([10], [10]), ([8, 11], [8, 11]), ([6, 12], [6, 12]), ([13], [13])])
noncomputable def query_written.B6 : List Nat := [0, 1, 0, 4, 12, 31, 63, 0, 128, 0, 512, 1536, 3968, 8191, 16383]
theorem query_written.tab6 : rtab .any (opsOf Tryd.f38 6) = query_written.T6 := by kernel_rfl
theorem query_written.bits6 : waitsOk query_written.T6.2 query_written.B6 = true := by kernel_rfl
set_option maxRecDepth 100000 in
theorem query_written.cut (n : Nat) (h : n < 16) (w : World) : (Instr.slice 9 (Value.string { data := #[48, 49, 50, 51, 52, 53, 54, 55, 56, 57, 65, 66, 67, 68, 69, 70] }) (some (Value.int IntKind.u8 (n : Int))) (some (Value.int IntKind.u8 (IntKind.u8.wrap ((n : Int) + 1)))) none).run Tryd.prog w = .ok (.string ⟨#[query_written.x n]⟩) w := by
 match n, h, w with
 | 0, _, _ => rfl
 | 1, _, _ => rfl
 | 2, _, _ => rfl
 | 3, _, _ => rfl
 | 4, _, _ => rfl
 | 5, _, _ => rfl
 | 6, _, _ => rfl
 | 7, _, _ => rfl
 | 8, _, _ => rfl
 | 9, _, _ => rfl
 | 10, _, _ => rfl
 | 11, _, _ => rfl
 | 12, _, _ => rfl
 | 13, _, _ => rfl
 | 14, _, _ => rfl
 | 15, _, _ => rfl
 | n + 16, h, _ => exact absurd h (by omega)
theorem query_written.low (c : UInt8) : Go.bits .and .u8 (c.toNat : Int) 15 = ((c.toNat % 16 : Nat) : Int) := by
 have h : ∀ n : Fin 256, Go.bits .and .u8 (n.val : Int) 15 = ((n.val % 16 : Nat) : Int) := by decide +kernel
 exact h ⟨c.toNat, c.toNat_lt⟩
set_option maxHeartbeats 8000000 in
set_option maxRecDepth 100000 in
theorem query_written.calls (k : Nat) (a0 : ByteArray) (r : ByteArray) (w : World) (h : query_written.f k a0 = some r) :
  Calls Tryd.prog 38 #[.string a0] w fun e w' => e = .returned (.string r) ∧ Below w.heap.size w w' := by
 have hmx : a0.size ≤ 40000000000000 := by
  by_cases hx : a0.size ≤ 40000000000000
  ·exact hx
  ·rw [query_written.f, if_neg hx] at h; cases h
 rw [query_written.f, if_pos hmx] at h
 obtain ⟨L, hL, h⟩ := Option.bind_eq_some_iff.1 h
 obtain rfl := Option.some.inj h
 clear h
 have HL := Aside0.mk hL
 clear hL
 have hsz : a0.data.toList.length = a0.size := data_length a0
 have HSZ := Aside0.mk hsz
 clear hsz
 have HB0 := am_ (bld_new w)
 have HW0 := am_ ((Below.refl w.heap.size w).alloc (Nat.le_refl _) (.cells #[.pointer none, .slice none 0 0] 51))
 go_enter Tryd.func38, Tryd.ntmps38
 go_wp2
 go_loopw [8] (fun i wr => ∃ (j : Nat) (l : List UInt8), j ≤ a0.size ∧ i = .int .i64 j ∧ Aside0 (query_written.g k (a0.data.toList.take j) = some l) ∧ Aside0 (l.length ≤ 3 * j) ∧ Aside0 (Bld w.heap.size l wr) ∧ Aside0 (Below w.heap.size w wr)) (fun i _ => a0.size - (intOf i).toNat)
 case atStart => exact ⟨0, [], Nat.zero_le _, rfl, ⟨by rw [List.take_zero]; rfl⟩, ⟨Nat.zero_le _⟩, HB0, HW0⟩
 case round =>
  clear HB0 HW0
  obtain ⟨j, l, hj, rfl, HG, HN, HB, HW⟩ := hrel
  by_cases hlt : j < a0.size
  ·have p1 : (0 ≤ (j : Int)) = True := eq_true (by omega)
   have q1 : ((j : Int) < (a0.size : Int)) = True := eq_true (by omega)
   obtain ⟨y, hy⟩ := query_written.g_get k _ L HL.out j (a0[j]'hlt) (by rw [Array.getElem?_toList]; exact Array.getElem?_eq_getElem hlt)
   have hnx : query_written.g k (a0.data.toList.take (j + 1)) = some (l ++ y) := by
    rw [List.take_add_one, show a0.data.toList[j]? = some (a0[j]'hlt) from by rw [Array.getElem?_toList]; exact Array.getElem?_eq_getElem hlt]
    exact query_written.g_snoc k _ _ l y HG.out hy
   have hyl := query_written.o_len k _ y hy
   have hNN := HN.out
   have HNX := Aside0.mk hnx
   clear hnx
   unfold query_written.o at hy
   obtain ⟨b, hb, hy⟩ := Option.bind_eq_some_iff.1 hy
   have HY := Aside0.mk hy
   clear hy
   have hws := HW.out.size
   go_wp2_with fail
   generalize (a0[j]'hlt) = c at *
   refine (query_Plain.calls k _ b wr hb).mono ?_
   rintro e w1 ⟨rfl, nd, rfl⟩
   have HB1 := am_ (show Bld w.heap.size l (wr.drewN nd) from HB.out)
   have HW1 := am_ (show Below w.heap.size w (wr.drewN nd) from HW.out.trans ⟨rfl, rfl, rfl, Nat.le_refl _, fun _ _ => rfl⟩)
   have hws1 : w.heap.size ≤ (wr.drewN nd).heap.size := hws
   generalize wr.drewN nd = w2 at HB1 HW1 hws1 ⊢
   cases b with
   | true =>
    obtain rfl := Option.some.inj (HY.out.symm.trans (if_pos rfl))
    go_wp2_with fail
    refine (bld_byte _ l c w2 HB1.out (by omega) hws1).mono ?_
    rintro e w3 ⟨rfl, h1, h2⟩
    have H1 := Aside0.mk h1
    have H2 := am_ (HW1.out.trans h2)
    clear h1 h2
    go_wp2
    exact ⟨⟨j + 1, l ++ [c], by omega, by go_num, HNX, ⟨by simp; omega⟩, H1, H2⟩, by simp [intOf]; omega⟩
   | false =>
    by_cases h32 : c.toNat = 32
    ·have e32 : ((c.toNat : Int) == 32) = true := by rw [h32]; rfl
     obtain rfl := Option.some.inj (HY.out.symm.trans ((if_neg (by decide)).trans (if_pos h32)))
     go_wp2_with fail
     refine (bld_byte _ l 43 w2 HB1.out (by omega) hws1).mono ?_
     rintro e w3 ⟨rfl, h1, h2⟩
     have H1 := Aside0.mk h1
     have H2 := am_ (HW1.out.trans h2)
     clear h1 h2
     go_wp2
     exact ⟨⟨j + 1, l ++ [43], by omega, by go_num, HNX, ⟨by simp; omega⟩, H1, H2⟩, by simp [intOf]; omega⟩
    ·have e32 : ((c.toNat : Int) == 32) = false := beq_eq_false_iff_ne.2 (by omega)
     obtain rfl := Option.some.inj (HY.out.symm.trans ((if_neg (by decide)).trans (if_neg h32)))
     go_wp2_with fail
     have HB2 := am_ (show Bld w.heap.size l w2.drew from HB1.out)
     have HW2 := am_ (below_drew1 HW1.out)
     have hws2 : w.heap.size ≤ w2.drew.heap.size := hws1
     clear HB1 HW1 hws1 HB HW hws
     refine start_ (n := 15) (S := fun w' => True) (ds := []) #[false, false, false, false, false, false, false, false, false, false, false, false, false, false, false] kr_ rfl rfl trivial (fun hHeld => ?_); refine with_tabW query_written.tab6 query_written.bits6 (fun HT_ HW_ => ?_)
     generalize w2.drew = w4 at HB2 HW2 hws2 hHeld ⊢
     have S1 : ∀ w' : World, (Instr.slice 9 (Value.string { data := #[48, 49, 50, 51, 52, 53, 54, 55, 56, 57, 65, 66, 67, 68, 69, 70] }) (some (Value.int IntKind.u8 ((c.toNat : Int) / 16))) (some (Value.int IntKind.u8 (IntKind.u8.wrap ((c.toNat : Int) / 16 + 1)))) none).run Tryd.prog w' = .ok (.string ⟨#[query_written.x (c.toNat / 16)]⟩) w' := fun w' => query_written.cut (c.toNat / 16) (by have := c.toNat_lt; omega) w'
     have S2 : ∀ w' : World, (Instr.slice 9 (Value.string { data := #[48, 49, 50, 51, 52, 53, 54, 55, 56, 57, 65, 66, 67, 68, 69, 70] }) (some (Value.int IntKind.u8 (bits BinOp.and IntKind.u8 (c.toNat : Int) 15))) (some (Value.int IntKind.u8 (IntKind.u8.wrap (bits BinOp.and IntKind.u8 (c.toNat : Int) 15 + 1)))) none).run Tryd.prog w' = .ok (.string ⟨#[query_written.x (c.toNat % 16)]⟩) w' := fun w' => by rw [query_written.low]; exact query_written.cut (c.toNat % 16) (by omega) w'
     refine pure_ (i := 0) (N := some 14) (v := ?_) (a' := ?_) #[true, false, false, false, false, false, false, false, false, false, false, false, false, false, false] rfl rfl (any_of HT_.out kr_) (fun _ _ _ h => h) (Or.inl ⟨by rfl, ?_⟩) ?_ ?_
     rotate_left
     ·intro w'
      go_simp
      with_reducible rfl
     rotate_left
     ·simp only [Act.put, sx_, s0_, s1_, i64_w, i32_w]
      rfl
     refine pure_ (i := 1) (N := some 15) (v := ?_) (a' := ?_) #[true, true, false, false, false, false, false, false, false, false, false, false, false, false, false] rfl rfl (any_of HT_.out kr_) (fun _ _ _ h => h) (Or.inl ⟨by rfl, ?_⟩) ?_ ?_
     rotate_left
     ·intro w'
      go_simp
      with_reducible rfl
     rotate_left
     ·simp only [Act.put, sx_, s0_, s1_, i64_w, i32_w]
      rfl
     refine pure_ (i := 2) (N := some 16) (v := ?_) (a' := ?_) #[true, true, true, false, false, false, false, false, false, false, false, false, false, false, false] rfl rfl (any_of HT_.out kr_) (fun _ _ _ h => h) (Or.inl ⟨by rfl, ?_⟩) ?_ ?_
     rotate_left
     ·intro w'
      go_simp
      with_reducible rfl
     rotate_left
     ·simp only [Act.put, sx_, s0_, s1_, i64_w, i32_w]
      rfl
     refine pure_ (i := 3) (N := some 17) (v := ?_) (a' := ?_) #[true, true, true, true, false, false, false, false, false, false, false, false, false, false, false] rfl rfl (any_of HT_.out kr_) (fun _ _ _ h => h) (Or.inl ⟨by rfl, ?_⟩) ?_ ?_
     rotate_left
     ·intro w'
      go_simp
      with_reducible rfl
     rotate_left
     ·simp only [Act.put, sx_, s0_, s1_, i64_w, i32_w]
      rfl
     refine pure_ (i := 4) (N := some 18) (v := ?_) (a' := ?_) #[true, true, true, true, true, false, false, false, false, false, false, false, false, false, false] rfl rfl (any_of HT_.out kr_) (fun _ _ _ h => h) (Or.inl ⟨by rfl, ?_⟩) ?_ ?_
     rotate_left
     ·intro w'
      go_simp
      with_reducible rfl
     rotate_left
     ·simp only [Act.put, sx_, s0_, s1_, i64_w, i32_w]
      rfl
     refine pure_ (i := 5) (N := some 19) (v := ?_) (a' := ?_) #[true, true, true, true, true, true, false, false, false, false, false, false, false, false, false] rfl rfl (any_of HT_.out kr_) (fun _ _ _ h => h) (Or.inl ⟨by rfl, ?_⟩) ?_ ?_
     rotate_left
     ·intro w'
      go_simp
      with_reducible rfl
     rotate_left
     ·simp only [Act.put, sx_, s0_, s1_, i64_w, i32_w]
      rfl
     refine pure_ (i := 6) (N := some 20) (v := ?_) (a' := ?_) #[true, true, true, true, true, true, true, false, false, false, false, false, false, false, false] rfl rfl (any_of HT_.out kr_) (fun _ _ _ h => h) (Or.inl ⟨by rfl, ?_⟩) ?_ ?_
     rotate_left
     ·intro w'
      go_simp
      with_reducible rfl
     rotate_left
     ·simp only [Act.put, sx_, s0_, s1_, i64_w, i32_w]
      rfl
     refine pure_ (i := 7) (N := some 21) (v := ?_) (a' := ?_) #[true, true, true, true, true, true, true, true, false, false, false, false, false, false, false] rfl rfl (any_of HT_.out kr_) (fun _ _ _ h => h) (Or.inl ⟨by rfl, ?_⟩) ?_ ?_
     rotate_left
     ·intro w'
      go_simp
      with_reducible rfl
     rotate_left
     ·simp only [Act.put, sx_, s0_, s1_, i64_w, i32_w]
      rfl
     refine pure_ (i := 8) (N := some 22) (v := ?_) (a' := ?_) #[true, true, true, true, true, true, true, true, true, false, false, false, false, false, false] rfl rfl (any_of HT_.out kr_) (fun _ _ _ h => h) (Or.inl ⟨by rfl, ?_⟩) ?_ ?_
     rotate_left
     ·intro w'
      go_simp
      with_reducible rfl
     rotate_left
     ·simp only [Act.put, sx_, s0_, s1_, i64_w, i32_w]
      rfl
     refine pure_ (i := 9) (N := some 23) (v := ?_) (a' := ?_) #[true, true, true, true, true, true, true, true, true, true, false, false, false, false, false] rfl rfl (any_of HT_.out kr_) (fun _ _ _ h => h) (Or.inl ⟨by rfl, ?_⟩) ?_ ?_
     rotate_left
     ·intro w'
      go_simp
      with_reducible rfl
     rotate_left
     ·simp only [Act.put, sx_, s0_, s1_, i64_w, i32_w]
      rfl
     refine pure_ (i := 10) (N := some 24) (v := ?_) (a' := ?_) #[true, true, true, true, true, true, true, true, true, true, true, false, false, false, false] rfl rfl (any_of HT_.out kr_) (fun _ _ _ h => h) (Or.inl ⟨by rfl, ?_⟩) ?_ ?_
     rotate_left
     ·intro w'
      go_simp
      with_reducible rfl
     rotate_left
     ·simp only [Act.put, sx_, s0_, s1_, i64_w, i32_w]
      rfl
     refine pure_ (i := 11) (N := some 25) (v := ?_) (a' := ?_) #[true, true, true, true, true, true, true, true, true, true, true, true, false, false, false] rfl rfl (any_of HT_.out kr_) (fun _ _ _ h => h) (Or.inl ⟨by rfl, ?_⟩) ?_ ?_
     rotate_left
     ·intro w'
      go_simp
      with_reducible rfl
     rotate_left
     ·simp only [Act.put, sx_, s0_, s1_, i64_w, i32_w]
      rfl
     refine pure_ (i := 12) (N := some 26) (v := ?_) (a' := ?_) #[true, true, true, true, true, true, true, true, true, true, true, true, true, false, false] rfl rfl (any_of HT_.out kr_) (fun _ _ _ h => h) (Or.inl ⟨by rfl, ?_⟩) ?_ ?_
     rotate_left
     ·intro w'
      go_simp
      with_reducible rfl
     rotate_left
     ·simp only [Act.put, sx_, s0_, s1_, i64_w, i32_w]
      rfl
     refine pure_ (i := 13) (N := some 27) (v := ?_) (a' := ?_) #[true, true, true, true, true, true, true, true, true, true, true, true, true, true, false] rfl rfl (any_of HT_.out kr_) (fun _ _ _ h => h) (Or.inl ⟨by rfl, ?_⟩) ?_ ?_
     rotate_left
     ·intro w'
      go_simp
      with_reducible rfl
     rotate_left
     ·simp only [Act.put, sx_, s0_, s1_, i64_w, i32_w]
      rfl
     generalize hS : ((⟨#[37]⟩ : ByteArray) ++ ⟨#[query_written.x (c.toNat / 16)]⟩ ++ ⟨#[query_written.x (c.toNat % 16)]⟩) = S3
     have hS3 : S3.data.toList = [37, query_written.x (c.toNat / 16), query_written.x (c.toNat % 16)] := by rw [← hS]; rfl
     have hZ3 : S3.size = 3 := by rw [← hS]; rfl
     clear hS
     refine one_ (i := 14) (N := some 28) #[true, true, true, true, true, true, true, true, true, true, true, true, true, true, true] rfl rfl (one_of HT_.out kr_) (by decide) (fun K hK => ?_)
     refine goes_ Tryd.func26 kr_ rfl #[.pointer (some ⟨w.heap.size, 0, none⟩), .string S3] (by rfl) rfl rfl (by (try simp only [List.map_toArray, List.map_cons, List.map_nil]); first | done | rfl) ?_
     refine (bld_text _ l S3 w4 HB2.out (by omega) hws2).mono ?_
     rintro e w5 ⟨rfl, h1, h2⟩
     rw [hS3] at h1
     have H1 := Aside0.mk h1
     have H2 := am_ (HW2.out.trans h2)
     clear h1 h2
     refine ⟨_, rfl, ?_⟩
     refine hK.out _ _ trivial ?_
     clear hK K
     intro _
     refine norm_ (a' := ?_) ?_ ?_
     rotate_left
     ·show Act.put _ (some 28) _ = _
      simp only [Act.put, sx_, s0_, s1_, i64_w, i32_w]
      rfl
     refine done_ (done_of HT_.out kr_) ?_
     try go_wp2
     exact ⟨⟨j + 1, l ++ [37, query_written.x (c.toNat / 16), query_written.x (c.toNat % 16)], by omega, by go_num, HNX, ⟨by simp; omega⟩, H1, H2⟩, by simp [intOf]; omega⟩
  ·have hje : j = a0.size := by omega
   subst hje
   go_wp2_with fail
   have hl : l = L := by
    have h1 := HG.out
    rw [← HSZ.out, List.take_length, HL.out] at h1
    exact (Option.some.inj h1).symm
   subst hl
   refine (bld_done _ l wr HB.out HW.out.size).mono ?_
   rintro e w5 ⟨rfl, h2⟩
   have H2 := am_ (HW.out.trans h2)
   clear h2
   go_wp2
   go_ret
   exact ⟨rfl, H2.out⟩

/-! ### strings_Join: function 39 -/
def strings_Join.f (a0 : List ByteArray) (a1 : ByteArray) : Option (ByteArray) := if (Lib.join (a0.map (·.data.toList)) a1.data.toList).length ≤ 140737488355328 ∧ a0.length ≤ 140737488355328 then some ⟨(Lib.join (a0.map (·.data.toList)) a1.data.toList).toArray⟩ else none
theorem strings_Join.calls (A0 : Option Addr) (c0 : Nat) (l0 : List ByteArray) (a1 : ByteArray) (r : ByteArray) (w : World) (hr0 : Kd.C Kd.string w A0 l0.length l0) (hc0 : l0.length ≤ c0) (h : strings_Join.f l0 a1 = some r) :
  Calls Tryd.prog 39 #[.slice A0 l0.length c0, .string a1] w fun e w' => e = .returned (.string r) ∧ Below w.heap.size w w' := by
 unfold strings_Join.f at h
 split at h
 ·next hb =>
  obtain rfl := Option.some.inj h
  by_cases h0 : l0 = []
  ·subst h0
   refine (Any.strings_Join_none laysB extraB A0 c0 a1 w).mono ?_
   rintro e w' ⟨rfl, rfl⟩
   exact ⟨rfl, Below.refl _ _⟩
  ·have hn : 0 < l0.length := List.length_pos_iff.2 h0
   obtain ⟨ad, rfl, _⟩ := hr0.2.2 hn
   have hcell : ∀ (j : Nat) x, l0[j]? = some x → w.cell? (ad.add j) = some (.string x) := by
    intro j x hj
    obtain ⟨hj1, hj2⟩ := List.getElem?_eq_some_iff.1 hj
    obtain ⟨ad', e, hx⟩ := Kd.at_string hr0 (j : Int) (by omega) (by omega)
    obtain rfl := Option.some.inj e
    rw [Int.toNat_natCast] at hx
    rw [hx]
    simp only [rdOf, Int.toNat_natCast, List.getD_eq_getElem?_getD, hj, Option.getD_some]
   obtain ⟨b, o, s⟩ := ad
   have hc0' := hcell 0 (l0[0]'hn) (List.getElem?_eq_getElem hn)
   have hs : s = none := by
    cases s with
    | none => rfl
    | some v =>
     rw [Addr.add, if_pos rfl, World.cell?] at hc0'
     split at hc0' <;> simp at hc0'
   subst hs
   refine (Any.strings_Join laysB extraB b o c0 l0 a1 w (fun j x hj => ?_) (World.block_lt_of_cell? w _ hc0') hb.2 hc0 hb.1)
   have hx := hcell j x hj
   unfold Addr.add at hx
   split at hx
   ·next hz => rw [hz]; exact hx
   ·exact hx
 ·cases h

/-! ### query_Text: function 22 -/
def query_Text.l0 : Nat → List ByteArray → List (S35) → Int → Int → Option (ByteArray × Int)
 | 0, _, _, _, _ => none
 | k + 1, x4, x13, x14, x15 => if x15 < x14 then (if 0 ≤ x15 then (if x15 < (x13.length : Int) then ((query_written.f k ((rd_T35 x13 x15).f0)).bind fun t327 => (if t327.size + 1 ≤ 9223372036854775807 then ((query_written.f k ((rd_T35 x13 x15).f1)).bind fun t328 => (if (t327 ++ (⟨#[61]⟩ : ByteArray)).size + t328.size ≤ 9223372036854775807 then (if x4.length < 8796093022208 then (query_Text.l0 k (x4 ++ [(t327 ++ (⟨#[61]⟩ : ByteArray)) ++ t328]) x13 x14 (wrap64 (x15 + 1))) else (none)) else (none))) else (none))) else (none)) else (none)) else ((strings_Join.f x4 (⟨#[38]⟩ : ByteArray)).bind fun t332 => (some (t332, 0)))
def query_Text.f (k : Nat) (l0 : List (S35)) : Option (ByteArray × Int) := (query_May.f k l0).bind fun t321 => (if t321 = true then (if 0 ≤ (l0.length : Int) then (if ((l0.length : Int) : Int).toNat ≤ 17592186044416 then (query_Text.l0 k (([] : List ByteArray)) l0 (l0.length : Int) 0) else (none)) else (none)) else (some ((⟨#[]⟩ : ByteArray), 1)))
theorem query_Text.mono_l : ∀ k, (∀ y0 y1 y2 y3, LeO (query_Text.l0 k y0 y1 y2 y3) (query_Text.l0 (k + 1) y0 y1 y2 y3))
 | 0 => fun _ _ _ _ r h => by simp [query_Text.l0] at h
 | k + 1 => by
  have ih0 := query_Text.mono_l k
  ·intro y0 y1 y2 y3
   unfold query_Text.l0
   repeat' first
   | (with_reducible exact ih0 _ _ _ _)
   | (with_reducible exact query_May.mono _ _)
   | (with_reducible exact query_written.mono _ _)
   | (with_reducible exact LeO.refl _)
   | (with_reducible exact LeO.none _)
   | (with_reducible refine LeO.ite ?_ ?_)
   | (with_reducible refine LeO.bind ?_ (fun _ => ?_))
   | exact ih0 _ _ _ _
   | exact query_May.mono _ _
   | exact query_written.mono _ _
   | exact LeO.none _
   | refine LeO.ite ?_ ?_
   | refine LeO.bind ?_ (fun _ => ?_)
theorem query_Text.mono : ∀ a0 k, LeO (query_Text.f k a0) (query_Text.f (k + 1) a0) := by
 intro a0 k
 have ih0 := query_Text.mono_l k
 unfold query_Text.f
 repeat' first
   | (with_reducible exact ih0 _ _ _ _)
   | (with_reducible exact query_May.mono _ _)
   | (with_reducible exact query_written.mono _ _)
   | (with_reducible exact LeO.refl _)
   | (with_reducible exact LeO.none _)
   | (with_reducible refine LeO.ite ?_ ?_)
   | (with_reducible refine LeO.bind ?_ (fun _ => ?_))
   | exact ih0 _ _ _ _
   | exact query_May.mono _ _
   | exact query_written.mono _ _
   | exact LeO.none _
   | refine LeO.ite ?_ ?_
   | refine LeO.bind ?_ (fun _ => ?_)
def query_Text.T7 : Bool × List (List Nat × List Nat) := (true, [([], []), ([], []), ([1], [1]), ([2], [2]), ([3], [3]), ([], []), ([5], [5]), ([6, 3], [6]), ([4, 7], [4, 7]), ([8], [8]), ([0, 9, 7], [0, 9]), ([10, 10, 0, 1, 2, 3, 4, 5, 6, 7, 8, 9, 10], [0, 10])])
def query_Text.B7 : List Nat := [0, 0, 2, 6, 14, 0, 32, 110, 254, 510, 1023, 2047]
theorem query_Text.tab7 : rtab .any (opsOf Tryd.f22 7) = query_Text.T7 := by kernel_rfl
theorem query_Text.bits7 : waitsOk query_Text.T7.2 query_Text.B7 = true := by kernel_rfl
set_option maxHeartbeats 8000000 in
set_option maxRecDepth 100000 in
theorem query_Text.calls (k : Nat) (A0 : Option Addr) (c0 : Nat) (l0 : List (S35)) (r1 : ByteArray) (r2 : Int) (w : World) (hr0 : Kd.C k35 w A0 l0.length l0) (hc0 : l0.length ≤ c0) (h : query_Text.f k l0 = some (r1, r2)) :
  Calls Tryd.prog 22 #[.slice A0 l0.length c0] w fun e w' => e = .returned (.tuple #[.string r1, .int .i64 r2]) ∧ Below w.heap.size w w' := by
 have hu35 := Tryd.underlying35
 have HR0 := Aside0.mk hr0
 have HC0 := Aside0.mk hc0
 clear hr0 hc0
 have HB := am_ (Below.refl w.heap.size w)
 have H : ((query_May.f k l0).bind fun t321 => (if t321 = true then (if 0 ≤ (l0.length : Int) then (if ((l0.length : Int) : Int).toNat ≤ 17592186044416 then (query_Text.l0 k (([] : List ByteArray)) l0 (l0.length : Int) 0) else (none)) else (none)) else (some ((⟨#[]⟩ : ByteArray), 1)))) = some (r1, r2) := h
 clear h
 replace H := Option.bind_eq_some_iff.mp H
 obtain ⟨t321, A20, H⟩ := H
 replace H : (if t321 = true then (if 0 ≤ (l0.length : Int) then (if ((l0.length : Int) : Int).toNat ≤ 17592186044416 then (query_Text.l0 k (([] : List ByteArray)) l0 (l0.length : Int) 0) else (none)) else (none)) else (some ((⟨#[]⟩ : ByteArray), 1))) = some (r1, r2) := H
 have A2 := Aside0.mk A20
 clear A20
 by_cases c3 : t321 = true
 ·subst c3
  have H1 : (if 0 ≤ (l0.length : Int) then (if ((l0.length : Int) : Int).toNat ≤ 17592186044416 then (query_Text.l0 k (([] : List ByteArray)) l0 (l0.length : Int) 0) else (none)) else (none)) = some (r1, r2) := by rw [if_pos rfl] at H; exact H
  clear H
  have H := H1
  clear H1
  by_cases c4 : 0 ≤ (l0.length : Int)
  ·rw [if_pos c4] at H
   have c4b0 := eq_true c4
   have c4b1 : decide (0 ≤ (l0.length : Int)) = true := decide_eq_true c4
   clear c4
   by_cases c5 : ((l0.length : Int) : Int).toNat ≤ 17592186044416
   ·rw [if_pos c5] at H
    have c5b0 := eq_true c5
    have c5b1 : decide (((l0.length : Int) : Int).toNat ≤ 17592186044416) = true := decide_eq_true c5
    clear c5
    obtain ⟨y322, hy322⟩ : ∃ y_ : List ByteArray, y_ = (([] : List ByteArray)) := ⟨_, rfl⟩
    replace H : (query_Text.l0 k y322 l0 (l0.length : Int) 0) = some (r1, r2) := by first | (rw [hy322]; with_reducible exact H) | (have H2_ := (Option.bind_some _ _).symm.trans H; rw [hy322]; with_reducible exact H2_) | (have H2_ := (Option.bind_some _ _).symm.trans H; with_reducible exact H2_) | with_reducible exact H | (rw [hy322]; exact H) | exact H
    have Ny322 := Aside0.mk hy322
    clear hy322
    have H' := Aside0.mk H
    clear H
    go_enter Tryd.func22, Tryd.ntmps22
    go_wp2_with (first | ((with_reducible refine gate_callee (f := 37) rfl ?_); refine goesL_ (some 8) rfl rfl Tryd.func37 kr_ rfl #[.slice A0 l0.length c0] rfl rl_ ?_; (with_reducible refine (query_May.calls k _ _ l0 true _ ?side1 ?side2 A2.out).mono ?_); (case side1 => exact C_ HR0.out); (case side2 => exact HC0.out); rintro e w6 ⟨rfl, hb⟩; refine ⟨_, rfl, ?_⟩; have n0_ := am_ (below_step (bel_ HB.out) hb); clear HB; have HB := n0_; clear n0_; (try clear hb); (try clear hb2); (try clear hk); (try clear hi)) | ((with_reducible refine gate_dst (N := 12) rfl ?_); refine Kd.R_make0 Kd.string _ 9 rfl (N := 12) rfl 65 _ _ rfl (l0.length : Int) rfl rfl Tryd.underlying65 (.string ⟨#[]⟩) 16 info9 rfl (by decide) (by omega) (⟨#[]⟩ : ByteArray) (ok := fun _ => True) (okp := fun _ => True) rfl (fun _ hk => hk) trivial (of_decide_eq_true as_) (Nat.le_trans (Nat.mul_le_mul_right _ (of_decide_eq_true as_ : (l0.length : Int).toNat ≤ 17592186044416)) (by omega)) (Below.refl _ _) (Nat.le_refl _) ?_; intro v323 w7 ho8 hb hg_ hnew_; clear hg_ hnew_; (first | rw [← Ny322.out] at ho8 | (simp only [Int.reduceToNat] at ho8; rw [← Ny322.out] at ho8)); have n0_ := am_ (Kd.R_lower ho8 (below_size (bel_ HB.out))); have n1_ := am_ (below_step (bel_ HB.out) hb); clear HB; have HO324 := n0_; have HB := n1_; clear n0_ n1_ hb ho8))
    go_loopg [4, 15] k (fun kq v4 v15 w' => ∃ (x4_1 : List ByteArray) (x15_1 : Int), v15 = .int .i64 x15_1 ∧ Aside0 (query_Text.l0 kq x4_1 l0 (l0.length : Int) x15_1 = some (r1, r2)) ∧ Aside0 (kq ≤ k) ∧ Aside0 (Kd.R Kd.string 9 w' w.heap.size (fun _ => True) v4 x4_1) ∧ Aside0 (Below w.heap.size w w'))
    case atStart => exact ⟨(y322), (0), sd_, H', ⟨Nat.le_refl _⟩, ⟨by (with_reducible repeat (first | apply Kd.R_alloc | apply Kd.R_drewN | apply Kd.R_drew)); exact HO324.out⟩, ⟨bel_ HB.out⟩⟩
    case round =>
     clear H'
     try clear c2
     try clear p2
     try clear c3
     try clear c4
     try clear c4b0
     try clear c4b1
     try clear c5
     try clear c5b0
     try clear c5b1
     obtain ⟨x4_1, x15_1, rfl, HA, HK1, HO_4, HB⟩ := hrel
     cases gk with
     | zero => exact absurd HA.out (by simp [query_Text.l0])
     | succ k1 =>
      have H := HA.out
      clear HA
      simp only [query_Text.l0] at H
      by_cases c9 : x15_1 < (l0.length : Int)
      ·rw [if_pos c9] at H
       have c9b0 : decide (x15_1 < (l0.length : Int)) = true := decide_eq_true c9
       clear c9
       by_cases c10 : 0 ≤ x15_1
       ·rw [if_pos c10] at H
        have c10b0 : decide (0 ≤ x15_1) = true := decide_eq_true c10
        clear c10
        by_cases c11 : x15_1 < (l0.length : Int)
        ·rw [if_pos c11] at H
         have c11b0 : decide (x15_1 < (l0.length : Int)) = true := decide_eq_true c11
         clear c11
         replace H := Option.bind_eq_some_iff.mp H
         obtain ⟨t327, A120, H⟩ := H
         replace H : (if t327.size + 1 ≤ 9223372036854775807 then ((query_written.f k1 ((rd_T35 l0 x15_1).f1)).bind fun t328 => (if (t327 ++ (⟨#[61]⟩ : ByteArray)).size + t328.size ≤ 9223372036854775807 then (if x4_1.length < 8796093022208 then (query_Text.l0 k1 (x4_1 ++ [(t327 ++ (⟨#[61]⟩ : ByteArray)) ++ t328]) l0 (l0.length : Int) (wrap64 (x15_1 + 1))) else (none)) else (none))) else (none)) = some (r1, r2) := H
         have A12 := Aside0.mk A120
         clear A120
         by_cases c13 : t327.size + 1 ≤ 9223372036854775807
         ·rw [if_pos c13] at H
          have c13b0 := eq_true c13
          have c13b1 : decide (t327.size + 1 ≤ 9223372036854775807) = true := decide_eq_true c13
          try have c13b2 : (9223372036854775807 < t327.size + 1) = False := eq_false (Nat.not_lt.2 c13)
          replace H := Option.bind_eq_some_iff.mp H
          obtain ⟨t328, A140, H⟩ := H
          replace H : (if (t327 ++ (⟨#[61]⟩ : ByteArray)).size + t328.size ≤ 9223372036854775807 then (if x4_1.length < 8796093022208 then (query_Text.l0 k1 (x4_1 ++ [(t327 ++ (⟨#[61]⟩ : ByteArray)) ++ t328]) l0 (l0.length : Int) (wrap64 (x15_1 + 1))) else (none)) else (none)) = some (r1, r2) := H
          have A14 := Aside0.mk A140
          clear A140
          by_cases c15 : (t327 ++ (⟨#[61]⟩ : ByteArray)).size + t328.size ≤ 9223372036854775807
          ·rw [if_pos c15] at H
           have c15b0 := eq_true c15
           have c15b1 : decide ((t327 ++ (⟨#[61]⟩ : ByteArray)).size + t328.size ≤ 9223372036854775807) = true := decide_eq_true c15
           try have c15b2 : (9223372036854775807 < (t327 ++ (⟨#[61]⟩ : ByteArray)).size + t328.size) = False := eq_false (Nat.not_lt.2 c15)
           (try have c15z : (9223372036854775807 < t327.size + 1 + t328.size) = False := eq_false (Nat.not_lt.2 (by have q_ := c15; simp only [ByteArray.size_append] at q_; exact q_)))
           by_cases c16 : x4_1.length < 8796093022208
           ·rw [if_pos c16] at H
            have LMc16 := Aside0.mk c16
            clear c16
            obtain ⟨y329, hy329⟩ : ∃ y_ : List ByteArray, y_ = (x4_1 ++ [(t327 ++ (⟨#[61]⟩ : ByteArray)) ++ t328]) := ⟨_, rfl⟩
            replace H : (query_Text.l0 k1 y329 l0 (l0.length : Int) (wrap64 (x15_1 + 1))) = some (r1, r2) := by first | (rw [hy329]; with_reducible exact H) | (have H2_ := (Option.bind_some _ _).symm.trans H; rw [hy329]; with_reducible exact H2_) | (have H2_ := (Option.bind_some _ _).symm.trans H; with_reducible exact H2_) | with_reducible exact H | (rw [hy329]; exact H) | exact H
            have Ny329 := Aside0.mk hy329
            clear hy329
            have H' := Aside0.mk H
            clear H
            have p325 : 0 ≤ (x15_1 : Int) := of_decide_eq_true as_
            have q325 : x15_1 < (l0.length : Int) := of_decide_eq_true as_
            obtain ⟨ad325, e325, hx325_0, hx325_1⟩ := at_T35 HR0.out x15_1 p325 q325
            cases e325
            replace hx325_0 := (HB.out.cell (World.block_lt_of_cell? w _ hx325_0)).trans hx325_0
            replace hx325_1 := (HB.out.cell (World.block_lt_of_cell? w _ hx325_1)).trans hx325_1
            replace p325 := eq_true p325
            replace q325 := eq_true q325
            try go_wp2_with (first | ((with_reducible refine gate_dst (N := 6) rfl ?_); refine box_event ?hg (N := 6) ?hd (cs := #[.string (⟨#[]⟩ : ByteArray), .string (⟨#[]⟩ : ByteArray)]) (t := 35) ?hr ?_; (case hd => rfl); (case hg => rfl); (case hr => first | (go_simp; done) | (go_simp; rfl)); intro gb326 hg w17 hbox hb; have n0_ := am_ (Kd.R_below (R_ HO_4.out) hb); have n1_ := am_ (below_step (bel_ HB.out) hb); have n2_ := am_ (hbox); have n3_ := am_ ((by rw [hg]; exact (below_size (bel_ HB.out)) : w.heap.size ≤ gb326)); have n4_ := am_ ((by rw [hg]; exact (below_size (bel_ HB.out)) : w.heap.size ≤ gb326)); clear HO_4 HB; have HO_4 := n0_; have HB := n1_; have BK326 := n2_; have GW326 := n3_; have GE326 := n4_; clear n0_ n1_ n2_ n3_ n4_ hb hbox hg; have hcz18_0 : w17.cell? ⟨gb326, 0, none⟩ = some (.string (⟨#[]⟩ : ByteArray)) := (blk_cell BK326.out 0).trans rfl; have hcz18_1 : w17.cell? ⟨gb326, 1, none⟩ = some (.string (⟨#[]⟩ : ByteArray)) := (blk_cell BK326.out 1).trans rfl; have hfz18_0 := blk_frozen BK326.out 0; have hfz18_1 := blk_frozen BK326.out 1))
            have n0_ : Aside0 (Kd.R Kd.string 9 ((w17.setCell ⟨gb326, 0, none⟩ (.string ((rd_T35 l0 x15_1).f0))).setCell ⟨gb326, 1, none⟩ (.string ((rd_T35 l0 x15_1).f1))) w.heap.size (fun _ => True) u4 x4_1) := ⟨by (with_reducible repeat (first | apply Kd.R_alloc | apply Kd.R_drewN | apply Kd.R_drew)); exact Kd.R_mono (Kd.R_far (p := ⟨gb326, 1, none⟩) (Kd.R_far (p := ⟨gb326, 0, none⟩) (Kd.R_types HO_4.out BK326.out (by decide)) (fun _ hk => hk.2) (.string ((rd_T35 l0 x15_1).f0))) (fun _ hk => hk.2) (.string ((rd_T35 l0 x15_1).f1))) (fun _ hk => trivial)⟩
            have n1_ : Aside0 (((w17.setCell ⟨gb326, 0, none⟩ (.string ((rd_T35 l0 x15_1).f0))).setCell ⟨gb326, 1, none⟩ (.string ((rd_T35 l0 x15_1).f1))).heap[gb326]? = some (.cells #[.string ((rd_T35 l0 x15_1).f0), .string ((rd_T35 l0 x15_1).f1)] 35 (0, 0))) := ⟨by (with_reducible repeat (first | refine blk_drewN ?_ _ | refine blk_drew ?_ | refine blk_alloc ?_ _)); refine blk_put (cs := #[.string ((rd_T35 l0 x15_1).f0), .string (⟨#[]⟩ : ByteArray)]) ?_ 1 _ rfl; (with_reducible repeat (first | refine blk_drewN ?_ _ | refine blk_drew ?_ | refine blk_alloc ?_ _)); refine blk_put (cs := #[.string (⟨#[]⟩ : ByteArray), .string (⟨#[]⟩ : ByteArray)]) ?_ 0 _ rfl; (with_reducible repeat (first | refine blk_drewN ?_ _ | refine blk_drew ?_ | refine blk_alloc ?_ _)); exact BK326.out⟩
            have n2_ : Aside0 (Below w.heap.size w ((w17.setCell ⟨gb326, 0, none⟩ (.string ((rd_T35 l0 x15_1).f0))).setCell ⟨gb326, 1, none⟩ (.string ((rd_T35 l0 x15_1).f1)))) := ⟨bel_ HB.out⟩
            (try clear HO_4)
            (try clear BK326)
            (try clear HB)
            generalize ((w17.setCell ⟨gb326, 0, none⟩ (.string ((rd_T35 l0 x15_1).f0))).setCell ⟨gb326, 1, none⟩ (.string ((rd_T35 l0 x15_1).f1))) = w19 at n0_ n1_ n2_ ⊢
            have HO_4 := n0_
            have BK326 := n1_
            have HB := n2_
            clear n0_ n1_ n2_
            have n0_ := am_ (Kd.R_drew HO_4.out)
            have n1_ := am_ (blk_drew BK326.out)
            have n2_ := am_ (below_drew1 HB.out)
            clear HO_4 BK326 HB
            have HO_4 := n0_
            have BK326 := n1_
            have HB := n2_
            clear n0_ n1_ n2_
            refine start_ (n := 12) (S := fun w' => w'.cell? ⟨gb326, 0, none⟩ = some (.string ((rd_T35 l0 x15_1).f0)) ∧ w'.cell? ⟨gb326, 1, none⟩ = some (.string ((rd_T35 l0 x15_1).f1))) (ds := []) #[false, false, false, false, false, false, false, false, false, false, false, false] kr_ rfl rfl ⟨(blk_cell BK326.out 0).trans rfl, (blk_cell BK326.out 1).trans rfl⟩ (fun hHeld => ?_); refine with_tabW query_Text.tab7 query_Text.bits7 (fun HT_ HW_ => ?_)
            generalize w19.drew = w20 at HO_4 BK326 HB hHeld ⊢
            refine pure_ (i := 0) (N := some 19) (v := ?_) (a' := ?_) #[true, false, false, false, false, false, false, false, false, false, false, false] rfl rfl (any_of HT_.out kr_) (fun _ _ _ h => h) (Or.inl ⟨by rfl, ?_⟩) ?_ ?_
            rotate_left
            ·intro w'
             go_simp
             with_reducible rfl
            rotate_left
            ·simp only [Act.put, sx_, s0_, s1_, i64_w, i32_w]
             rfl
            refine pure_ (i := 1) (N := some 20) (v := ?_) (a' := ?_) #[true, true, false, false, false, false, false, false, false, false, false, false] rfl rfl (any_of HT_.out kr_) (fun _ _ _ h => h) (Or.inl ⟨by rfl, ?_⟩) ?_ ?_
            rotate_left
            ·intro w'
             go_simp
             with_reducible rfl
            rotate_left
            ·simp only [Act.put, sx_, s0_, s1_, i64_w, i32_w]
             rfl
            refine pure_ (i := 5) (N := some 24) (v := ?_) (a' := ?_) #[true, true, false, false, false, true, false, false, false, false, false, false] rfl rfl (any_of HT_.out kr_) (fun _ _ _ h => h) (Or.inl ⟨by rfl, ?_⟩) ?_ ?_
            rotate_left
            ·intro w'
             go_simp
             with_reducible rfl
            rotate_left
            ·simp only [Act.put, sx_, s0_, s1_, i64_w, i32_w]
             rfl
            refine take_ (i := 2) (N := some 21) (v := ?_) (a' := ?_) #[true, true, true, false, false, true, false, false, false, false, false, false] rfl rfl (take_ofW HT_.out HW_.out kr_) (fun _ _ _ h => h) (Or.inl ⟨by rfl, ?_⟩) hHeld ?_ ?_
            rotate_left
            ·rintro w' ⟨s0, s1⟩
             go_simp
             with_reducible rfl
            rotate_left
            ·simp only [Act.put, sx_, s0_, s1_, i64_w, i32_w]
             rfl
            refine take_ (i := 6) (N := some 25) (v := ?_) (a' := ?_) #[true, true, true, false, false, true, true, false, false, false, false, false] rfl rfl (take_ofW HT_.out HW_.out kr_) (fun _ _ _ h => h) (Or.inl ⟨by rfl, ?_⟩) hHeld ?_ ?_
            rotate_left
            ·rintro w' ⟨s0, s1⟩
             go_simp
             with_reducible rfl
            rotate_left
            ·simp only [Act.put, sx_, s0_, s1_, i64_w, i32_w]
             rfl
            refine one_ (i := 3) (N := some 22) #[true, true, true, true, false, true, true, false, false, false, false, false] rfl rfl (one_of HT_.out kr_) (by decide) (fun K hK => ?_)
            refine goes_ Tryd.func38 kr_ rfl #[.string ((rd_T35 l0 x15_1).f0)] (by rfl) rfl rfl rl_ ?_
            with_reducible refine (query_written.calls k1 ((rd_T35 l0 x15_1).f0) t327 _ A12.out).mono ?_
            rintro e w21 ⟨rfl, hb⟩
            refine ⟨_, rfl, ?_⟩
            have n0_ := am_ (Kd.R_below (R_ HO_4.out) hb)
            have n1_ := am_ (blk_below (g := gb326) (o := .cells #[.string ((rd_T35 l0 x15_1).f0), .string ((rd_T35 l0 x15_1).f1)] 35 (0, 0)) (blk_ BK326.out) hb)
            have n2_ := am_ (below_step (bel_ HB.out) hb)
            clear HO_4 BK326 HB
            have HO_4 := n0_
            have BK326 := n1_
            have HB := n2_
            clear n0_ n1_ n2_
            (try clear hb)
            (try clear hb2)
            (try clear hk)
            (try clear hi)
            refine hK.out _ _ ⟨(blk_cell BK326.out 0).trans rfl, (blk_cell BK326.out 1).trans rfl⟩ (fun hHeld => ?_)
            clear hK K
            refine norm_ (a' := ?_) ?_ ?_
            rotate_left
            ·show Act.put _ (some 22) _ = _
             simp only [Act.put, sx_, s0_, s1_, i64_w, i32_w]
             rfl
            refine pure_ (i := 4) (N := some 23) (v := ?_) (a' := ?_) #[true, true, true, true, true, true, true, false, false, false, false, false] rfl rfl (any_of HT_.out kr_) (fun _ _ _ h => h) (Or.inl ⟨by rfl, ?_⟩) ?_ ?_
            rotate_left
            ·intro w'
             go_simp
             with_reducible rfl
            rotate_left
            ·simp only [Act.put, sx_, s0_, s1_, i64_w, i32_w]
             rfl
            refine one_ (i := 7) (N := some 26) #[true, true, true, true, true, true, true, true, false, false, false, false] rfl rfl (one_of HT_.out kr_) (by decide) (fun K hK => ?_)
            refine goes_ Tryd.func38 kr_ rfl #[.string ((rd_T35 l0 x15_1).f1)] (by rfl) rfl rfl rl_ ?_
            with_reducible refine (query_written.calls k1 ((rd_T35 l0 x15_1).f1) t328 _ A14.out).mono ?_
            rintro e w22 ⟨rfl, hb⟩
            refine ⟨_, rfl, ?_⟩
            have n0_ := am_ (Kd.R_below (R_ HO_4.out) hb)
            have n1_ := am_ (blk_below (g := gb326) (o := .cells #[.string ((rd_T35 l0 x15_1).f0), .string ((rd_T35 l0 x15_1).f1)] 35 (0, 0)) (blk_ BK326.out) hb)
            have n2_ := am_ (below_step (bel_ HB.out) hb)
            clear HO_4 BK326 HB
            have HO_4 := n0_
            have BK326 := n1_
            have HB := n2_
            clear n0_ n1_ n2_
            (try clear hb)
            (try clear hb2)
            (try clear hk)
            (try clear hi)
            refine hK.out _ _ ⟨(blk_cell BK326.out 0).trans rfl, (blk_cell BK326.out 1).trans rfl⟩ (fun hHeld => ?_)
            clear hK K
            refine norm_ (a' := ?_) ?_ ?_
            rotate_left
            ·show Act.put _ (some 26) _ = _
             simp only [Act.put, sx_, s0_, s1_, i64_w, i32_w]
             rfl
            refine pure_ (i := 8) (N := some 27) (v := ?_) (a' := ?_) #[true, true, true, true, true, true, true, true, true, false, false, false] rfl rfl (any_of HT_.out kr_) (fun _ _ _ h => h) (Or.inl ⟨by rfl, ?_⟩) ?_ ?_
            rotate_left
            ·intro w'
             go_simp
             with_reducible rfl
            rotate_left
            ·simp only [Act.put, sx_, s0_, s1_, i64_w, i32_w]
             rfl
            refine one_ (i := 9) (N := some 28) #[true, true, true, true, true, true, true, true, true, true, false, false] rfl rfl (one_of HT_.out kr_) (by decide) (fun K hK => ?_)
            refine value_ (w1 := ?_) (v := ?_) (by rfl) rfl ?_ ?_
            rotate_left 2
            ·go_simp
             constructor
             ·rfl
             ·rfl
            refine hK.out _ _ ⟨(blk_cell (blk_alloc BK326.out _) 0).trans rfl, (blk_cell (blk_alloc BK326.out _) 1).trans rfl⟩ (fun hHeld => ?_)
            clear hK K
            refine norm_ (a' := ?_) ?_ ?_
            rotate_left
            ·show Act.put _ (some 28) _ = _
             simp only [Act.put, sx_, s0_, s1_, i64_w, i32_w]
             rfl
            refine one_ (i := 10) (N := some 29) #[true, true, true, true, true, true, true, true, true, true, true, false] rfl rfl (one_of HT_.out kr_) (by decide) (fun K hK => ?_)
            refine Kd.R_append_step Kd.string (w0 := w) w.heap.size (by rfl) (.tmp 19) (.tmp 28) 65 9 (.string ⟨#[]⟩) 16 rfl Tryd.underlying65 info9 rfl (by decide) (by omega) u4 x4_1 ((t327 ++ (⟨#[61]⟩ : ByteArray)) ++ t328) [.string ((t327 ++ (⟨#[61]⟩ : ByteArray)) ++ t328)] (fun _ => True) (fun _ => False) rfl rfl ?aP (fun _ hk => hk.elim) ?aF ?aO ?aB ?aS ?aL ?_
            (case aP => exact rfl)
            (case aB => exact (bel_ HB.out))
            (case aF => exact (fun _ _ => trivial))
            (case aO => exact (R_ HO_4.out))
            (case aS => exact (below_size (bel_ HB.out)))
            (case aL => have := LMc16.out; omega)
            intro v330 w23 ho hb hg hat
            rw [← Ny329.out] at ho
            have n0_ := am_ (blk_grown (g := gb326) (o := .cells #[.string ((rd_T35 l0 x15_1).f0), .string ((rd_T35 l0 x15_1).f1)] 35 (0, 0)) (blk_ BK326.out) hg (Kd.R_ne HO_4.out BK326.out (by decide)))
            have n1_ := am_ (hb)
            have n2_ := am_ (ho)
            clear BK326 HB HO_4
            have BK326 := n0_
            have HB := n1_
            have HO331 := n2_
            clear n0_ n1_ n2_ ho hb hg hat
            refine hK.out _ _ ⟨(blk_cell BK326.out 0).trans rfl, (blk_cell BK326.out 1).trans rfl⟩ (fun hHeld => ?_)
            clear hK K
            refine norm_ (a' := ?_) ?_ ?_
            rotate_left
            ·show Act.put _ (some 29) _ = _
             simp only [Act.put, sx_, s0_, s1_, i64_w, i32_w]
             rfl
            refine pure_ (i := 11) (N := some 4) (v := ?_) (a' := ?_) #[true, true, true, true, true, true, true, true, true, true, true, true] rfl rfl (any_of HT_.out kr_) (fun _ _ _ h => h) (Or.inl ⟨by rfl, ?_⟩) ?_ ?_
            rotate_left
            ·intro w'
             go_simp
             with_reducible rfl
            rotate_left
            ·simp only [Act.put, sx_, s0_, s1_, i64_w, i32_w]
             rfl
            refine done_ (done_of HT_.out kr_) ?_
            try go_wp2
            go_roundg k1
            case measure => have := HK1.out; omega
            case rel => exact ⟨(y329), (wrap64 (x15_1 + 1)), sd_, H', ⟨by have := HK1.out; omega⟩, ⟨by (with_reducible repeat (first | apply Kd.R_alloc | apply Kd.R_drewN | apply Kd.R_drew)); exact HO331.out⟩, ⟨bel_ HB.out⟩⟩
           ·rw [if_neg c16] at H
            exact absurd H (by simp)
          ·rw [if_neg c15] at H
           exact absurd H (by simp)
         ·rw [if_neg c13] at H
          exact absurd H (by simp)
        ·rw [if_neg c11] at H
         exact absurd H (by simp)
       ·rw [if_neg c10] at H
        exact absurd H (by simp)
      ·rw [if_neg c9] at H
       have c9b0 : decide (x15_1 < (l0.length : Int)) = false := decide_eq_false c9
       clear c9
       replace H := Option.bind_eq_some_iff.mp H
       obtain ⟨t332, A240, H⟩ := H
       replace H : (some (t332, 0)) = some (r1, r2) := H
       have A24 := Aside0.mk A240
       clear A240
       simp only [Option.some.injEq, Prod.mk.injEq] at H
       obtain ⟨rfl, rfl⟩ := H
       obtain ⟨Ao25, co25, eo25⟩ := Kd.R_slice HO_4.out
       subst eo25
       go_wp2_with (first | ((with_reducible refine gate_callee (f := 39) rfl ?_); refine goesL_ (some 32) rfl rfl Tryd.func39 kr_ rfl #[.slice Ao25 x4_1.length co25, .string (⟨#[38]⟩ : ByteArray)] rfl rl_ ?_; (with_reducible refine (strings_Join.calls _ _ x4_1 (⟨#[38]⟩ : ByteArray) t332 _ ?side1 ?side2 A24.out).mono ?_); (case side1 => exact C_ (Kd.R_reads' HO_4.out).2.2); (case side2 => exact (Kd.R_reads' HO_4.out).2.1); rintro e w26 ⟨rfl, hb⟩; refine ⟨_, rfl, ?_⟩; have n0_ := am_ (Kd.R_below (R_ HO_4.out) hb); have n1_ := am_ (below_step (bel_ HB.out) hb); clear HO_4 HB; have HO_4 := n0_; have HB := n1_; clear n0_ n1_; (try clear hb); (try clear hb2); (try clear hk); (try clear hi)))
       go_ret2
       exact ⟨fi_, bel_ HB.out⟩
   ·rw [if_neg c5] at H
    exact absurd H (by simp)
  ·rw [if_neg c4] at H
   exact absurd H (by simp)
 ·replace c3 := Bool.eq_false_iff.mpr c3
  subst c3
  have H1 : (some ((⟨#[]⟩ : ByteArray), 1)) = some (r1, r2) := by rw [if_neg (show ¬ (false = true) by decide)] at H; exact H
  clear H
  have H := H1
  clear H1
  simp only [Option.some.injEq, Prod.mk.injEq] at H
  obtain ⟨rfl, rfl⟩ := H
  go_enter Tryd.func22, Tryd.ntmps22
  go_wp2_with (first | ((with_reducible refine gate_callee (f := 37) rfl ?_); refine goesL_ (some 8) rfl rfl Tryd.func37 kr_ rfl #[.slice A0 l0.length c0] rfl rl_ ?_; (with_reducible refine (query_May.calls k _ _ l0 false _ ?side1 ?side2 A2.out).mono ?_); (case side1 => exact C_ HR0.out); (case side2 => exact HC0.out); rintro e w27 ⟨rfl, hb⟩; refine ⟨_, rfl, ?_⟩; have n0_ := am_ (below_step (bel_ HB.out) hb); clear HB; have HB := n0_; clear n0_; (try clear hb); (try clear hb2); (try clear hk); (try clear hi)))
  go_ret2
  exact ⟨fi_, bel_ HB.out⟩

/-! ### head_Lay: function 12 -/
-- as it is: this text keeps its own indents
def head_Lay.wt (l : List (S35)) : Nat := (l.map fun p => p.f0.size + p.f1.size + 4).sum
def head_Lay.row (k : Nat) (p : S35) : Option (Option (List UInt8)) := (pairs_Token.f k p.f0).bind fun a => if a = true then (pairs_Value.f k p.f1).bind fun b => if b = true then some (some (p.f0.data.toList ++ [58, 32] ++ p.f1.data.toList ++ [13, 10])) else some none else some none
def head_Lay.put (x y : Option (List UInt8)) : Option (List UInt8) := x.bind fun a => y.bind fun b => some (a ++ b)
def head_Lay.rows (k : Nat) : List (S35) → Option (Option (List UInt8))
  | [] => some (some [])
  | p :: r => (head_Lay.row k p).bind fun x => if x = none then some none else (head_Lay.rows k r).bind fun y => some (head_Lay.put x y)
def head_Lay.asks (x : ByteArray) : List UInt8 := if x.size = 0 then [] else 63 :: x.data.toList
def head_Lay.line (m p x : ByteArray) : List UInt8 := m.data.toList ++ [32] ++ p.data.toList ++ head_Lay.asks x ++ [32, 72, 84, 84, 80, 47, 49, 46, 49, 13, 10]
def head_Lay.end_ (a : List UInt8) : Option (List UInt8) → ByteArray × Int
  | none => (⟨#[]⟩, 1)
  | some z => if (a ++ z ++ [13, 10]).length > 1000 then (⟨#[]⟩, 5) else (⟨(a ++ z ++ [13, 10]).toArray⟩, 0)
def head_Lay.j0 (k : Nat) (m p : ByteArray) (l : List (S35)) (x : ByteArray) (b : Bool) : Option (ByteArray × Int) := if b = true then some ((⟨#[]⟩ : ByteArray), 1) else if m.size + p.size + x.size + head_Lay.wt l ≤ 100000000000000 then (head_Lay.rows k l).bind fun z => some (head_Lay.end_ (head_Lay.line m p x) z) else none
def head_Lay.f (k : Nat) (a0_0 : ByteArray) (a0_1 : ByteArray) (a0_2 : ByteArray) (l0_3 : List (S35)) (l0_4 : List (S35)) : Option (ByteArray × Int) := (query_Text.f k l0_3).bind fun bt336 => ((head_asked.f k l0_4).bind fun bt338 => (if bt336.2 = 0 then (if bt338.2 = true then (if bt338.1.toList = a0_1.toList then ((rule_Method.f a0_0).bind fun t340 => (if t340 = true then ((path_Is.f a0_2).bind fun t341 => (if t341 = true then (head_Lay.j0 k a0_0 a0_2 l0_4 bt336.1 (decide ((l0_4.length : Int) > 30))) else (head_Lay.j0 k a0_0 a0_2 l0_4 bt336.1 true))) else (head_Lay.j0 k a0_0 a0_2 l0_4 bt336.1 true))) else (head_Lay.j0 k a0_0 a0_2 l0_4 bt336.1 true)) else (head_Lay.j0 k a0_0 a0_2 l0_4 bt336.1 true)) else (head_Lay.j0 k a0_0 a0_2 l0_4 bt336.1 true)))
theorem head_Lay.row_mono : ∀ p k, LeO (head_Lay.row k p) (head_Lay.row (k + 1) p) := by
  intro p k
  unfold head_Lay.row
  exact LeO.bind (pairs_Token.mono _ _) (fun _ => LeO.ite (LeO.bind (pairs_Value.mono _ _) (fun _ => LeO.refl _)) (LeO.refl _))
theorem head_Lay.rows_mono : ∀ l k, LeO (head_Lay.rows k l) (head_Lay.rows (k + 1) l) := by
  intro l k
  induction l with
  | nil => exact LeO.refl _
  | cons p r ih =>
    unfold head_Lay.rows
    exact LeO.bind (head_Lay.row_mono p k) (fun _ => LeO.ite (LeO.refl _) (LeO.bind ih (fun _ => LeO.refl _)))
theorem head_Lay.j0_mono : ∀ m p l x b k, LeO (head_Lay.j0 k m p l x b) (head_Lay.j0 (k + 1) m p l x b) := by
  intro m p l x b k
  unfold head_Lay.j0
  exact LeO.ite (LeO.refl _) (LeO.ite (LeO.bind (head_Lay.rows_mono l k) (fun _ => LeO.refl _)) (LeO.none _))
theorem head_Lay.mono : ∀ a0 a1 a2 a3 a4 k, LeO (head_Lay.f k a0 a1 a2 a3 a4) (head_Lay.f (k + 1) a0 a1 a2 a3 a4) := by
 intro a0 a1 a2 a3 a4 k
 have ih0 := fun m p l x b => head_Lay.j0_mono m p l x b k
 unfold head_Lay.f
 repeat' first
   | (with_reducible exact ih0 _ _ _ _ _)
   | (with_reducible exact head_asked.mono _ _)
   | (with_reducible exact query_Text.mono _ _)
   | (with_reducible exact LeO.refl _)
   | (with_reducible exact LeO.none _)
   | (with_reducible refine LeO.ite ?_ ?_)
   | (with_reducible refine LeO.bind ?_ (fun _ => ?_))
   | exact head_asked.mono _ _
   | exact query_Text.mono _ _
set_option maxHeartbeats 8000000 in
set_option maxRecDepth 100000 in
theorem head_Lay.calls (k : Nat) (a0_0 : ByteArray) (a0_1 : ByteArray) (a0_2 : ByteArray) (A0_3 : Option Addr) (c0_3 : Nat) (l0_3 : List (S35)) (A0_4 : Option Addr) (c0_4 : Nat) (l0_4 : List (S35)) (r1 : ByteArray) (r2 : Int) (w : World) (hr0_3 : Kd.C k35 w A0_3 l0_3.length l0_3) (hc0_3 : l0_3.length ≤ c0_3) (hr0_4 : Kd.C k35 w A0_4 l0_4.length l0_4) (hc0_4 : l0_4.length ≤ c0_4) (h : head_Lay.f k a0_0 a0_1 a0_2 l0_3 l0_4 = some (r1, r2)) :
  Calls Tryd.prog 12 #[.agg #[.string a0_0, .string a0_1, .string a0_2, .slice A0_3 l0_3.length c0_3, .slice A0_4 l0_4.length c0_4]] w fun e w' => e = .returned (.tuple #[.string r1, .int .i64 r2]) ∧ Below w.heap.size w w' := by
 have hu26 := Tryd.underlying26
 have hu35 := Tryd.underlying35
 have HR0_3 := Aside0.mk hr0_3
 have HC0_3 := Aside0.mk hc0_3
 clear hr0_3 hc0_3
 have HR0_4 := Aside0.mk hr0_4
 have HC0_4 := Aside0.mk hc0_4
 clear hr0_4 hc0_4
 have HB := am_ (Below.refl w.heap.size w)
 have H : ((query_Text.f k l0_3).bind fun bt336 => ((head_asked.f k l0_4).bind fun bt338 => (if bt336.2 = 0 then (if bt338.2 = true then (if bt338.1.toList = a0_1.toList then ((rule_Method.f a0_0).bind fun t340 => (if t340 = true then ((path_Is.f a0_2).bind fun t341 => (if t341 = true then (head_Lay.j0 k a0_0 a0_2 l0_4 bt336.1 (decide ((l0_4.length : Int) > 30))) else (head_Lay.j0 k a0_0 a0_2 l0_4 bt336.1 true))) else (head_Lay.j0 k a0_0 a0_2 l0_4 bt336.1 true))) else (head_Lay.j0 k a0_0 a0_2 l0_4 bt336.1 true)) else (head_Lay.j0 k a0_0 a0_2 l0_4 bt336.1 true)) else (head_Lay.j0 k a0_0 a0_2 l0_4 bt336.1 true)))) = some (r1, r2) := h
 clear h
 replace H := Option.bind_eq_some_iff.mp H
 obtain ⟨⟨t336, t337⟩, A20, H⟩ := H
 replace H : ((head_asked.f k l0_4).bind fun bt338 => (if t337 = 0 then (if bt338.2 = true then (if bt338.1.toList = a0_1.toList then ((rule_Method.f a0_0).bind fun t340 => (if t340 = true then ((path_Is.f a0_2).bind fun t341 => (if t341 = true then (head_Lay.j0 k a0_0 a0_2 l0_4 t336 (decide ((l0_4.length : Int) > 30))) else (head_Lay.j0 k a0_0 a0_2 l0_4 t336 true))) else (head_Lay.j0 k a0_0 a0_2 l0_4 t336 true))) else (head_Lay.j0 k a0_0 a0_2 l0_4 t336 true)) else (head_Lay.j0 k a0_0 a0_2 l0_4 t336 true)) else (head_Lay.j0 k a0_0 a0_2 l0_4 t336 true))) = some (r1, r2) := H
 have A2 := Aside0.mk A20
 clear A20
 replace H := Option.bind_eq_some_iff.mp H
 obtain ⟨⟨t338, t339⟩, A30, H⟩ := H
 replace H : (if t337 = 0 then (if t339 = true then (if t338.toList = a0_1.toList then ((rule_Method.f a0_0).bind fun t340 => (if t340 = true then ((path_Is.f a0_2).bind fun t341 => (if t341 = true then (head_Lay.j0 k a0_0 a0_2 l0_4 t336 (decide ((l0_4.length : Int) > 30))) else (head_Lay.j0 k a0_0 a0_2 l0_4 t336 true))) else (head_Lay.j0 k a0_0 a0_2 l0_4 t336 true))) else (head_Lay.j0 k a0_0 a0_2 l0_4 t336 true)) else (head_Lay.j0 k a0_0 a0_2 l0_4 t336 true)) else (head_Lay.j0 k a0_0 a0_2 l0_4 t336 true)) = some (r1, r2) := H
 have A3 := Aside0.mk A30
 clear A30
 have HC4 := Aside0.mk H
 clear H
 go_enter Tryd.func12, Tryd.ntmps12
 go_upto_region 3 with (first | ((with_reducible refine gate_dst (N := 1) rfl ?_); (try (refine gate_guard (by rfl) ?_; dsimp only)); refine box_event ?hg (N := 1) ?hd (cs := #[.string a0_0, .string a0_1, .string a0_2, .slice A0_3 l0_3.length c0_3, .slice A0_4 l0_4.length c0_4]) (t := 26) ?hr ?_; (case hd => rfl); (case hg => rfl); (case hr => first | (go_simp; done) | (go_simp; rfl)); intro gb335 hg w5 hbox hb; have n0_ := am_ (below_step (bel_ HB.out) hb); have n1_ := am_ (hbox); have n2_ := am_ ((by rw [hg]; exact (below_size (bel_ HB.out)) : w.heap.size ≤ gb335)); have n3_ := am_ ((by rw [hg]; exact (below_size (bel_ HB.out)) : w.heap.size ≤ gb335)); clear HB; have HB := n0_; have BK335 := n1_; have GW335 := n2_; have GE335 := n3_; clear n0_ n1_ n2_ n3_ hb hbox hg; have hcz6_0 : w5.cell? ⟨gb335, 0, none⟩ = some (.string a0_0) := (blk_cell BK335.out 0).trans rfl; have hcz6_1 : w5.cell? ⟨gb335, 1, none⟩ = some (.string a0_1) := (blk_cell BK335.out 1).trans rfl; have hcz6_2 : w5.cell? ⟨gb335, 2, none⟩ = some (.string a0_2) := (blk_cell BK335.out 2).trans rfl; have hcz6_3 : w5.cell? ⟨gb335, 3, none⟩ = some (.slice A0_3 l0_3.length c0_3) := (blk_cell BK335.out 3).trans rfl; have hcz6_4 : w5.cell? ⟨gb335, 4, none⟩ = some (.slice A0_4 l0_4.length c0_4) := (blk_cell BK335.out 4).trans rfl; have hfz6_0 := blk_frozen BK335.out 0; have hfz6_1 := blk_frozen BK335.out 1; have hfz6_2 := blk_frozen BK335.out 2; have hfz6_3 := blk_frozen BK335.out 3; have hfz6_4 := blk_frozen BK335.out 4) | ((with_reducible refine gate_callee (f := 22) rfl ?_); refine goesL_ (some 14) rfl rfl Tryd.func22 kr_ rfl #[.slice A0_3 l0_3.length c0_3] rfl rl_ ?_; (with_reducible refine (query_Text.calls k _ _ l0_3 t336 t337 _ ?side1 ?side2 A2.out).mono ?_); (case side1 => exact C_ (Kd.C_below HR0_3.out HB.out)); (case side2 => exact HC0_3.out); rintro e w7 ⟨rfl, hb⟩; refine ⟨_, rfl, ?_⟩; have n0_ := am_ (blk_below (g := gb335) (o := .cells #[.string a0_0, .string a0_1, .string a0_2, .slice A0_3 l0_3.length c0_3, .slice A0_4 l0_4.length c0_4] 26 (0, 0)) (blk_ BK335.out) hb); have n1_ := am_ (below_step (bel_ HB.out) hb); clear BK335 HB; have BK335 := n0_; have HB := n1_; clear n0_ n1_; (try clear hb); (try clear hb2); (try clear hk); (try clear hi); have hcz8_0 : w7.cell? ⟨gb335, 0, none⟩ = some (.string a0_0) := (blk_cell BK335.out 0).trans rfl; have hcz8_1 : w7.cell? ⟨gb335, 1, none⟩ = some (.string a0_1) := (blk_cell BK335.out 1).trans rfl; have hcz8_2 : w7.cell? ⟨gb335, 2, none⟩ = some (.string a0_2) := (blk_cell BK335.out 2).trans rfl; have hcz8_3 : w7.cell? ⟨gb335, 3, none⟩ = some (.slice A0_3 l0_3.length c0_3) := (blk_cell BK335.out 3).trans rfl; have hcz8_4 : w7.cell? ⟨gb335, 4, none⟩ = some (.slice A0_4 l0_4.length c0_4) := (blk_cell BK335.out 4).trans rfl; have hfz8_0 := blk_frozen BK335.out 0; have hfz8_1 := blk_frozen BK335.out 1; have hfz8_2 := blk_frozen BK335.out 2; have hfz8_3 := blk_frozen BK335.out 3; have hfz8_4 := blk_frozen BK335.out 4) | ((with_reducible refine gate_callee (f := 23) rfl ?_); refine goesL_ (some 20) rfl rfl Tryd.func23 kr_ rfl #[.slice A0_4 l0_4.length c0_4] rfl rl_ ?_; (with_reducible refine (head_asked.calls k _ _ l0_4 t338 t339 _ ?side1 ?side2 A3.out).mono ?_); (case side1 => exact C_ (Kd.C_below HR0_4.out HB.out)); (case side2 => exact HC0_4.out); rintro e w9 ⟨rfl, hb⟩; refine ⟨_, rfl, ?_⟩; have n0_ := am_ (blk_below (g := gb335) (o := .cells #[.string a0_0, .string a0_1, .string a0_2, .slice A0_3 l0_3.length c0_3, .slice A0_4 l0_4.length c0_4] 26 (0, 0)) (blk_ BK335.out) hb); have n1_ := am_ (below_step (bel_ HB.out) hb); clear BK335 HB; have BK335 := n0_; have HB := n1_; clear n0_ n1_; (try clear hb); (try clear hb2); (try clear hk); (try clear hi)))
 (try simp only [Act.put, List.setIfInBounds_toArray, List.set_cons_zero, List.set_cons_succ])
 go_cut [52] (fun v52 wc => ∃ (kq : Nat) (x52_3 : Bool), v52 = .bool x52_3 ∧ Aside0 (head_Lay.j0 kq a0_0 a0_2 l0_4 t336 x52_3 = some (r1, r2)) ∧ Aside0 (kq ≤ k) ∧ Aside0 (wc.heap[gb335]? = some (.cells #[.string a0_0, .string a0_1, .string a0_2, (.slice A0_3 l0_3.length c0_3), (.slice A0_4 l0_4.length c0_4)] 26 (0, 0))) ∧ Aside0 (Below w.heap.size w wc))
 case first =>
  have H := HC4.out
  clear HC4
  by_cases c10 : t337 = 0
  ·rw [if_pos c10] at H
   have c10b0 : (t337 == 0) = true := beq_iff_eq.mpr c10
   have c10b1 : (t337 != 0) = false := bne_eq_false_iff_eq.mpr c10
   clear c10
   (first | rw [c10b0] | rw [c10b1] | rw [c10b2] | (simp only [i64_w, i32_w]; rw [c10b0]) | skip)
   by_cases c11 : t339 = true
   ·subst c11
    have H1 : (if t338.toList = a0_1.toList then ((rule_Method.f a0_0).bind fun t340 => (if t340 = true then ((path_Is.f a0_2).bind fun t341 => (if t341 = true then (head_Lay.j0 k a0_0 a0_2 l0_4 t336 (decide ((l0_4.length : Int) > 30))) else (head_Lay.j0 k a0_0 a0_2 l0_4 t336 true))) else (head_Lay.j0 k a0_0 a0_2 l0_4 t336 true))) else (head_Lay.j0 k a0_0 a0_2 l0_4 t336 true)) = some (r1, r2) := by rw [if_pos rfl] at H; exact H
    clear H
    have H := H1
    clear H1
    by_cases c12 : t338.toList = a0_1.toList
    ·rw [if_pos c12] at H
     have c12b0 : (t338.toList == a0_1.toList) = true := beq_iff_eq.mpr c12
     have c12b1 : (t338.toList != a0_1.toList) = false := bne_eq_false_iff_eq.mpr c12
     clear c12
     replace H := Option.bind_eq_some_iff.mp H
     obtain ⟨t340, A130, H⟩ := H
     replace H : (if t340 = true then ((path_Is.f a0_2).bind fun t341 => (if t341 = true then (head_Lay.j0 k a0_0 a0_2 l0_4 t336 (decide ((l0_4.length : Int) > 30))) else (head_Lay.j0 k a0_0 a0_2 l0_4 t336 true))) else (head_Lay.j0 k a0_0 a0_2 l0_4 t336 true)) = some (r1, r2) := H
     have A13 := Aside0.mk A130
     clear A130
     by_cases c14 : t340 = true
     ·subst c14
      have H1 : ((path_Is.f a0_2).bind fun t341 => (if t341 = true then (head_Lay.j0 k a0_0 a0_2 l0_4 t336 (decide ((l0_4.length : Int) > 30))) else (head_Lay.j0 k a0_0 a0_2 l0_4 t336 true))) = some (r1, r2) := by rw [if_pos rfl] at H; exact H
      clear H
      have H := H1
      clear H1
      replace H := Option.bind_eq_some_iff.mp H
      obtain ⟨t341, A150, H⟩ := H
      replace H : (if t341 = true then (head_Lay.j0 k a0_0 a0_2 l0_4 t336 (decide ((l0_4.length : Int) > 30))) else (head_Lay.j0 k a0_0 a0_2 l0_4 t336 true)) = some (r1, r2) := H
      have A15 := Aside0.mk A150
      clear A150
      by_cases c16 : t341 = true
      ·subst c16
       have H1 : (head_Lay.j0 k a0_0 a0_2 l0_4 t336 (decide ((l0_4.length : Int) > 30))) = some (r1, r2) := by rw [if_pos rfl] at H; exact H
       clear H
       have H := H1
       clear H1
       have H' := Aside0.mk H
       clear H
       have hcz17_0 : w9.cell? ⟨gb335, 0, none⟩ = some (.string a0_0) := (blk_cell BK335.out 0).trans rfl
       have hcz17_1 : w9.cell? ⟨gb335, 1, none⟩ = some (.string a0_1) := (blk_cell BK335.out 1).trans rfl
       have hcz17_2 : w9.cell? ⟨gb335, 2, none⟩ = some (.string a0_2) := (blk_cell BK335.out 2).trans rfl
       have hcz17_3 : w9.cell? ⟨gb335, 3, none⟩ = some (.slice A0_3 l0_3.length c0_3) := (blk_cell BK335.out 3).trans rfl
       have hcz17_4 : w9.cell? ⟨gb335, 4, none⟩ = some (.slice A0_4 l0_4.length c0_4) := (blk_cell BK335.out 4).trans rfl
       have hfz17_0 := blk_frozen BK335.out 0
       have hfz17_1 := blk_frozen BK335.out 1
       have hfz17_2 := blk_frozen BK335.out 2
       have hfz17_3 := blk_frozen BK335.out 3
       have hfz17_4 := blk_frozen BK335.out 4
       go_wp2_with (first | (go_at_call 24; (with_reducible refine (rule_Method.calls a0_0 true _ A13.out).mono ?_); rintro e w18 ⟨rfl, hb⟩; have n0_ := am_ (blk_below (g := gb335) (o := .cells #[.string a0_0, .string a0_1, .string a0_2, .slice A0_3 l0_3.length c0_3, .slice A0_4 l0_4.length c0_4] 26 (0, 0)) (blk_ BK335.out) hb); have n1_ := am_ (below_step (bel_ HB.out) hb); clear BK335 HB; have BK335 := n0_; have HB := n1_; clear n0_ n1_; (try clear hb); (try clear hb2); (try clear hk); (try clear hi); have hcz19_0 : w18.cell? ⟨gb335, 0, none⟩ = some (.string a0_0) := (blk_cell BK335.out 0).trans rfl; have hcz19_1 : w18.cell? ⟨gb335, 1, none⟩ = some (.string a0_1) := (blk_cell BK335.out 1).trans rfl; have hcz19_2 : w18.cell? ⟨gb335, 2, none⟩ = some (.string a0_2) := (blk_cell BK335.out 2).trans rfl; have hcz19_3 : w18.cell? ⟨gb335, 3, none⟩ = some (.slice A0_3 l0_3.length c0_3) := (blk_cell BK335.out 3).trans rfl; have hcz19_4 : w18.cell? ⟨gb335, 4, none⟩ = some (.slice A0_4 l0_4.length c0_4) := (blk_cell BK335.out 4).trans rfl; have hfz19_0 := blk_frozen BK335.out 0; have hfz19_1 := blk_frozen BK335.out 1; have hfz19_2 := blk_frozen BK335.out 2; have hfz19_3 := blk_frozen BK335.out 3; have hfz19_4 := blk_frozen BK335.out 4) | (go_at_call 25; (with_reducible refine (path_Is.calls a0_2 true _ A15.out).mono ?_); rintro e w20 ⟨rfl, hb⟩; have n0_ := am_ (blk_below (g := gb335) (o := .cells #[.string a0_0, .string a0_1, .string a0_2, .slice A0_3 l0_3.length c0_3, .slice A0_4 l0_4.length c0_4] 26 (0, 0)) (blk_ BK335.out) hb); have n1_ := am_ (below_step (bel_ HB.out) hb); clear BK335 HB; have BK335 := n0_; have HB := n1_; clear n0_ n1_; (try clear hb); (try clear hb2); (try clear hk); (try clear hi); have hcz21_0 : w20.cell? ⟨gb335, 0, none⟩ = some (.string a0_0) := (blk_cell BK335.out 0).trans rfl; have hcz21_1 : w20.cell? ⟨gb335, 1, none⟩ = some (.string a0_1) := (blk_cell BK335.out 1).trans rfl; have hcz21_2 : w20.cell? ⟨gb335, 2, none⟩ = some (.string a0_2) := (blk_cell BK335.out 2).trans rfl; have hcz21_3 : w20.cell? ⟨gb335, 3, none⟩ = some (.slice A0_3 l0_3.length c0_3) := (blk_cell BK335.out 3).trans rfl; have hcz21_4 : w20.cell? ⟨gb335, 4, none⟩ = some (.slice A0_4 l0_4.length c0_4) := (blk_cell BK335.out 4).trans rfl; have hfz21_0 := blk_frozen BK335.out 0; have hfz21_1 := blk_frozen BK335.out 1; have hfz21_2 := blk_frozen BK335.out 2; have hfz21_3 := blk_frozen BK335.out 3; have hfz21_4 := blk_frozen BK335.out 4))
       go_meet
       case rel => exact ⟨_, (decide ((l0_4.length : Int) > 30)), sd_, H', ⟨by first | omega | exact Nat.le_refl _⟩, ⟨by (with_reducible repeat (first | refine blk_drewN ?_ _ | refine blk_drew ?_ | refine blk_alloc ?_ _)); exact BK335.out⟩, ⟨bel_ HB.out⟩⟩
      ·replace c16 := Bool.eq_false_iff.mpr c16
       subst c16
       have H1 : (head_Lay.j0 k a0_0 a0_2 l0_4 t336 true) = some (r1, r2) := by rw [if_neg (show ¬ (false = true) by decide)] at H; exact H
       clear H
       have H := H1
       clear H1
       have H' := Aside0.mk H
       clear H
       have hcz22_0 : w9.cell? ⟨gb335, 0, none⟩ = some (.string a0_0) := (blk_cell BK335.out 0).trans rfl
       have hcz22_1 : w9.cell? ⟨gb335, 1, none⟩ = some (.string a0_1) := (blk_cell BK335.out 1).trans rfl
       have hcz22_2 : w9.cell? ⟨gb335, 2, none⟩ = some (.string a0_2) := (blk_cell BK335.out 2).trans rfl
       have hcz22_3 : w9.cell? ⟨gb335, 3, none⟩ = some (.slice A0_3 l0_3.length c0_3) := (blk_cell BK335.out 3).trans rfl
       have hcz22_4 : w9.cell? ⟨gb335, 4, none⟩ = some (.slice A0_4 l0_4.length c0_4) := (blk_cell BK335.out 4).trans rfl
       have hfz22_0 := blk_frozen BK335.out 0
       have hfz22_1 := blk_frozen BK335.out 1
       have hfz22_2 := blk_frozen BK335.out 2
       have hfz22_3 := blk_frozen BK335.out 3
       have hfz22_4 := blk_frozen BK335.out 4
       go_wp2_with (first | (go_at_call 24; (with_reducible refine (rule_Method.calls a0_0 true _ A13.out).mono ?_); rintro e w23 ⟨rfl, hb⟩; have n0_ := am_ (blk_below (g := gb335) (o := .cells #[.string a0_0, .string a0_1, .string a0_2, .slice A0_3 l0_3.length c0_3, .slice A0_4 l0_4.length c0_4] 26 (0, 0)) (blk_ BK335.out) hb); have n1_ := am_ (below_step (bel_ HB.out) hb); clear BK335 HB; have BK335 := n0_; have HB := n1_; clear n0_ n1_; (try clear hb); (try clear hb2); (try clear hk); (try clear hi); have hcz24_0 : w23.cell? ⟨gb335, 0, none⟩ = some (.string a0_0) := (blk_cell BK335.out 0).trans rfl; have hcz24_1 : w23.cell? ⟨gb335, 1, none⟩ = some (.string a0_1) := (blk_cell BK335.out 1).trans rfl; have hcz24_2 : w23.cell? ⟨gb335, 2, none⟩ = some (.string a0_2) := (blk_cell BK335.out 2).trans rfl; have hcz24_3 : w23.cell? ⟨gb335, 3, none⟩ = some (.slice A0_3 l0_3.length c0_3) := (blk_cell BK335.out 3).trans rfl; have hcz24_4 : w23.cell? ⟨gb335, 4, none⟩ = some (.slice A0_4 l0_4.length c0_4) := (blk_cell BK335.out 4).trans rfl; have hfz24_0 := blk_frozen BK335.out 0; have hfz24_1 := blk_frozen BK335.out 1; have hfz24_2 := blk_frozen BK335.out 2; have hfz24_3 := blk_frozen BK335.out 3; have hfz24_4 := blk_frozen BK335.out 4) | (go_at_call 25; (with_reducible refine (path_Is.calls a0_2 false _ A15.out).mono ?_); rintro e w25 ⟨rfl, hb⟩; have n0_ := am_ (blk_below (g := gb335) (o := .cells #[.string a0_0, .string a0_1, .string a0_2, .slice A0_3 l0_3.length c0_3, .slice A0_4 l0_4.length c0_4] 26 (0, 0)) (blk_ BK335.out) hb); have n1_ := am_ (below_step (bel_ HB.out) hb); clear BK335 HB; have BK335 := n0_; have HB := n1_; clear n0_ n1_; (try clear hb); (try clear hb2); (try clear hk); (try clear hi)))
       go_meet
       case rel => exact ⟨_, (true), sd_, H', ⟨by first | omega | exact Nat.le_refl _⟩, ⟨by (with_reducible repeat (first | refine blk_drewN ?_ _ | refine blk_drew ?_ | refine blk_alloc ?_ _)); exact BK335.out⟩, ⟨bel_ HB.out⟩⟩
     ·replace c14 := Bool.eq_false_iff.mpr c14
      subst c14
      have H1 : (head_Lay.j0 k a0_0 a0_2 l0_4 t336 true) = some (r1, r2) := by rw [if_neg (show ¬ (false = true) by decide)] at H; exact H
      clear H
      have H := H1
      clear H1
      have H' := Aside0.mk H
      clear H
      have hcz26_0 : w9.cell? ⟨gb335, 0, none⟩ = some (.string a0_0) := (blk_cell BK335.out 0).trans rfl
      have hcz26_1 : w9.cell? ⟨gb335, 1, none⟩ = some (.string a0_1) := (blk_cell BK335.out 1).trans rfl
      have hcz26_2 : w9.cell? ⟨gb335, 2, none⟩ = some (.string a0_2) := (blk_cell BK335.out 2).trans rfl
      have hcz26_3 : w9.cell? ⟨gb335, 3, none⟩ = some (.slice A0_3 l0_3.length c0_3) := (blk_cell BK335.out 3).trans rfl
      have hcz26_4 : w9.cell? ⟨gb335, 4, none⟩ = some (.slice A0_4 l0_4.length c0_4) := (blk_cell BK335.out 4).trans rfl
      have hfz26_0 := blk_frozen BK335.out 0
      have hfz26_1 := blk_frozen BK335.out 1
      have hfz26_2 := blk_frozen BK335.out 2
      have hfz26_3 := blk_frozen BK335.out 3
      have hfz26_4 := blk_frozen BK335.out 4
      go_wp2_with (first | (go_at_call 24; (with_reducible refine (rule_Method.calls a0_0 false _ A13.out).mono ?_); rintro e w27 ⟨rfl, hb⟩; have n0_ := am_ (blk_below (g := gb335) (o := .cells #[.string a0_0, .string a0_1, .string a0_2, .slice A0_3 l0_3.length c0_3, .slice A0_4 l0_4.length c0_4] 26 (0, 0)) (blk_ BK335.out) hb); have n1_ := am_ (below_step (bel_ HB.out) hb); clear BK335 HB; have BK335 := n0_; have HB := n1_; clear n0_ n1_; (try clear hb); (try clear hb2); (try clear hk); (try clear hi)))
      go_meet
      case rel => exact ⟨_, (true), sd_, H', ⟨by first | omega | exact Nat.le_refl _⟩, ⟨by (with_reducible repeat (first | refine blk_drewN ?_ _ | refine blk_drew ?_ | refine blk_alloc ?_ _)); exact BK335.out⟩, ⟨bel_ HB.out⟩⟩
    ·rw [if_neg c12] at H
     have c12b0 : (t338.toList == a0_1.toList) = false := beq_eq_false_iff_ne.mpr c12
     have c12b1 : (t338.toList != a0_1.toList) = true := bne_iff_ne.mpr c12
     have H' := Aside0.mk H
     clear H
     have hcz28_0 : w9.cell? ⟨gb335, 0, none⟩ = some (.string a0_0) := (blk_cell BK335.out 0).trans rfl
     have hcz28_1 : w9.cell? ⟨gb335, 1, none⟩ = some (.string a0_1) := (blk_cell BK335.out 1).trans rfl
     have hcz28_2 : w9.cell? ⟨gb335, 2, none⟩ = some (.string a0_2) := (blk_cell BK335.out 2).trans rfl
     have hcz28_3 : w9.cell? ⟨gb335, 3, none⟩ = some (.slice A0_3 l0_3.length c0_3) := (blk_cell BK335.out 3).trans rfl
     have hcz28_4 : w9.cell? ⟨gb335, 4, none⟩ = some (.slice A0_4 l0_4.length c0_4) := (blk_cell BK335.out 4).trans rfl
     have hfz28_0 := blk_frozen BK335.out 0
     have hfz28_1 := blk_frozen BK335.out 1
     have hfz28_2 := blk_frozen BK335.out 2
     have hfz28_3 := blk_frozen BK335.out 3
     have hfz28_4 := blk_frozen BK335.out 4
     go_wp2
     go_meet
     case rel => exact ⟨_, (true), sd_, H', ⟨by first | omega | exact Nat.le_refl _⟩, ⟨by (with_reducible repeat (first | refine blk_drewN ?_ _ | refine blk_drew ?_ | refine blk_alloc ?_ _)); exact BK335.out⟩, ⟨bel_ HB.out⟩⟩
   ·replace c11 := Bool.eq_false_iff.mpr c11
    subst c11
    have H1 : (head_Lay.j0 k a0_0 a0_2 l0_4 t336 true) = some (r1, r2) := by rw [if_neg (show ¬ (false = true) by decide)] at H; exact H
    clear H
    have H := H1
    clear H1
    have H' := Aside0.mk H
    clear H
    go_wp2
    go_meet
    case rel => exact ⟨_, (true), sd_, H', ⟨by first | omega | exact Nat.le_refl _⟩, ⟨by (with_reducible repeat (first | refine blk_drewN ?_ _ | refine blk_drew ?_ | refine blk_alloc ?_ _)); exact BK335.out⟩, ⟨bel_ HB.out⟩⟩
  ·rw [if_neg c10] at H
   have c10b0 : (t337 == 0) = false := beq_eq_false_iff_ne.mpr c10
   have c10b1 : (t337 != 0) = true := bne_iff_ne.mpr c10
   (first | rw [c10b0] | rw [c10b1] | rw [c10b2] | (simp only [i64_w, i32_w]; rw [c10b0]) | skip)
   have H' := Aside0.mk H
   clear H
   go_wp2
   go_meet
   case rel => exact ⟨_, (true), sd_, H', ⟨by first | omega | exact Nat.le_refl _⟩, ⟨by (with_reducible repeat (first | refine blk_drewN ?_ _ | refine blk_drew ?_ | refine blk_alloc ?_ _)); exact BK335.out⟩, ⟨bel_ HB.out⟩⟩
 case rest =>
  clear HC4
  try clear c1
  try clear c2
  try clear p2
  try clear c10
  try clear c10b0
  try clear c10b1
  try clear c10b2
  try clear c11
  try clear c12
  try clear c12b0
  try clear c12b1
  try clear c14
  try clear c16
  try clear c22
  try clear c23
  try clear hcz17_0
  try clear hcz17_1
  try clear hcz17_2
  try clear hcz17_3
  try clear hcz17_4
  try clear hcz19_0
  try clear hcz19_1
  try clear hcz19_2
  try clear hcz19_3
  try clear hcz19_4
  try clear hcz21_0
  try clear hcz21_1
  try clear hcz21_2
  try clear hcz21_3
  try clear hcz21_4
  try clear hcz22_0
  try clear hcz22_1
  try clear hcz22_2
  try clear hcz22_3
  try clear hcz22_4
  try clear hcz24_0
  try clear hcz24_1
  try clear hcz24_2
  try clear hcz24_3
  try clear hcz24_4
  try clear hcz26_0
  try clear hcz26_1
  try clear hcz26_2
  try clear hcz26_3
  try clear hcz26_4
  try clear hcz28_0
  try clear hcz28_1
  try clear hcz28_2
  try clear hcz28_3
  try clear hcz28_4
  try clear hcz6_0
  try clear hcz6_1
  try clear hcz6_2
  try clear hcz6_3
  try clear hcz6_4
  try clear hcz8_0
  try clear hcz8_1
  try clear hcz8_2
  try clear hcz8_3
  try clear hcz8_4
  try clear hfz17_0
  try clear hfz17_1
  try clear hfz17_2
  try clear hfz17_3
  try clear hfz17_4
  try clear hfz19_0
  try clear hfz19_1
  try clear hfz19_2
  try clear hfz19_3
  try clear hfz19_4
  try clear hfz21_0
  try clear hfz21_1
  try clear hfz21_2
  try clear hfz21_3
  try clear hfz21_4
  try clear hfz22_0
  try clear hfz22_1
  try clear hfz22_2
  try clear hfz22_3
  try clear hfz22_4
  try clear hfz24_0
  try clear hfz24_1
  try clear hfz24_2
  try clear hfz24_3
  try clear hfz24_4
  try clear hfz26_0
  try clear hfz26_1
  try clear hfz26_2
  try clear hfz26_3
  try clear hfz26_4
  try clear hfz28_0
  try clear hfz28_1
  try clear hfz28_2
  try clear hfz28_3
  try clear hfz28_4
  try clear hfz6_0
  try clear hfz6_1
  try clear hfz6_2
  try clear hfz6_3
  try clear hfz6_4
  try clear hfz8_0
  try clear hfz8_1
  try clear hfz8_2
  try clear hfz8_3
  try clear hfz8_4
  obtain ⟨kq, x52_3, rfl, HA, HJ3, BK335, HB⟩ := hcut
  cases x52_3 with
  | true =>
   have H := HA.out
   clear HA
   rw [head_Lay.j0, if_pos rfl] at H
   simp only [Option.some.injEq, Prod.mk.injEq] at H
   obtain ⟨rfl, rfl⟩ := H
   go_wp2
   go_ret2
   exact ⟨fi_, bel_ HB.out⟩
  | false =>
   have H := HA.out
   clear HA
   rw [head_Lay.j0, if_neg (by decide)] at H
   split at H
   rotate_left
   · cases H
   rename_i hwt
   obtain ⟨Z, hZ, H⟩ := Option.bind_eq_some_iff.1 H
   have HZ := Aside0.mk hZ
   have HE := Aside0.mk (Option.some.inj H)
   clear hZ H
   go_upto_if 54 with (fail)
   go_cut [4] (fun v4 wc => ∃ y : ByteArray, v4 = .string y ∧ Aside0 (y.data.toList = head_Lay.asks t336) ∧ Aside0 (wc.heap[gb335]? = some (.cells #[.string a0_0, .string a0_1, .string a0_2, (.slice A0_3 l0_3.length c0_3), (.slice A0_4 l0_4.length c0_4)] 26 (0, 0))) ∧ Aside0 (Below w.heap.size w wc))
   case first =>
    by_cases c31 : t336.toList = ([] : List UInt8)
    · have c31' : t336.data.toList = [] := (ByteArray.toList_eq t336).symm.trans c31
      have c31e : t336.toList.isEmpty = true := by rw [c31]; rfl
      have c31n : (!t336.toList.isEmpty) = false := by rw [c31e]; rfl
      have c31b1 : (t336.toList != ([] : List UInt8)) = false := bne_eq_false_iff_eq.mpr c31
      (first | rw [c31b0] | rw [c31b1] | skip)
      simp only [c31e, Bool.not_true, Bool.not_false]
      go_wp2
      go_meet
      case rel => exact ⟨t336, rfl, ⟨by rw [head_Lay.asks, if_pos (by have h_ := data_length t336; rw [c31'] at h_; exact h_.symm)]; exact c31'⟩, BK335, HB⟩
    · have c31e : t336.toList.isEmpty = false := by cases h_ : t336.toList with | nil => exact absurd h_ c31 | cons a b => rfl
      have c31n : (!t336.toList.isEmpty) = true := by rw [c31e]; rfl
      have c31b1 : (t336.toList != ([] : List UInt8)) = true := bne_iff_ne.mpr c31
      (first | rw [c31b0] | rw [c31b1] | skip)
      have hz_ : t336.size ≠ 0 := fun h_ => c31 ((ByteArray.toList_eq t336).trans (List.length_eq_zero_iff.1 ((data_length t336).trans h_)))
      simp only [c31e, Bool.not_true, Bool.not_false]
      go_wp2
      go_meet
      case rel => exact ⟨_, rfl, ⟨by rw [head_Lay.asks, if_neg hz_]; rfl⟩, BK335, HB⟩
   case rest =>
    obtain ⟨y, rfl, HY, BK335, HB⟩ := hcut
    have BKn := blk_alloc BK335.out (.cells #[.pointer none, .slice none 0 0] 51)
    have hcz_0 : (wc.alloc (.cells #[.pointer none, .slice none 0 0] 51)).cell? ⟨gb335, 0, none⟩ = some (.string a0_0) := (blk_cell BKn 0).trans rfl
    have hcz_2 : (wc.alloc (.cells #[.pointer none, .slice none 0 0] 51)).cell? ⟨gb335, 2, none⟩ = some (.string a0_2) := (blk_cell BKn 2).trans rfl
    have hcz_4 : (wc.alloc (.cells #[.pointer none, .slice none 0 0] 51)).cell? ⟨gb335, 4, none⟩ = some (.slice A0_4 l0_4.length c0_4) := (blk_cell BKn 4).trans rfl
    have hys : y.size ≤ t336.size + 1 := by
      rw [← data_length y, HY.out]
      unfold head_Lay.asks
      split
      · exact Nat.zero_le _
      · rw [List.length_cons, data_length]; exact Nat.le_refl _
    have z1 : (9223372036854775807 < a0_0.size + 1 + a0_2.size + y.size) = False := eq_false (by omega)
    have z2 : (9223372036854775807 < a0_0.size + 1 + a0_2.size + y.size + 1) = False := eq_false (by omega)
    have z3 : (9223372036854775807 < a0_0.size + 1 + a0_2.size + y.size + 1 + 8) = False := eq_false (by omega)
    have z4 : (9223372036854775807 < a0_0.size + 1 + a0_2.size + y.size + 1 + 8 + 2) = False := eq_false (by omega)
    have z5 : (9223372036854775807 < a0_0.size + 1 + a0_2.size) = False := eq_false (by omega)
    have HBn := Aside0.mk (bld_new wc)
    have HWn := Aside0.mk ((Below.refl wc.heap.size wc).alloc (Nat.le_refl _) (.cells #[.pointer none, .slice none 0 0] 51))
    go_wp2_with fail
    clear z1 z2 z3 z4 z5
    generalize hS1 : (a0_0 ++ ({ data := #[32] } : ByteArray) ++ a0_2 ++ y ++ ({ data := #[32] } : ByteArray) ++ ({ data := #[72, 84, 84, 80, 47, 49, 46, 49] } : ByteArray) ++ ({ data := #[13, 10] } : ByteArray)) = S1
    have hS1d : S1.data.toList = head_Lay.line a0_0 a0_2 t336 := by
      rw [← hS1]
      simp only [ByteArray.data_append, Array.toList_append, HY.out, head_Lay.line, List.append_assoc]
      rfl
    have hS1z : S1.size = a0_0.size + a0_2.size + y.size + 12 := by
      rw [← hS1]
      simp only [ByteArray.size_append]
      show a0_0.size + 1 + a0_2.size + y.size + 1 + 8 + 2 = _
      omega
    refine (bld_text wc.heap.size [] S1 _ HBn.out (by rw [List.length_nil]; omega) HWn.out.size).mono ?_
    rintro e w2 ⟨rfl, h1, h2⟩
    rw [List.nil_append, hS1d] at h1
    have hlz : (head_Lay.line a0_0 a0_2 t336).length = a0_0.size + a0_2.size + y.size + 12 := by rw [← hS1d, data_length, hS1z]
    have HB1 := Aside0.mk h1
    have HW1 := Aside0.mk (HWn.out.trans h2)
    clear h1 h2 hS1 hS1d hS1z
    have BK2 := Aside0.mk (blk_below BK335.out HW1.out)
    have hcz_4 : w2.cell? ⟨gb335, 4, none⟩ = some (.slice A0_4 l0_4.length c0_4) := (blk_cell BK2.out 4).trans rfl
    generalize hLN : head_Lay.line a0_0 a0_2 t336 = LN at *
    go_wp2_with fail
    go_loopw [72] (fun i wr => ∃ (j : Nat) (acc : List UInt8) (Y : Option (List UInt8)), j ≤ l0_4.length ∧ i = .int .i64 j ∧ Aside0 (head_Lay.rows kq (l0_4.drop j) = some Y) ∧ Aside0 (Z = head_Lay.put (some acc) Y) ∧ Aside0 (acc.length + head_Lay.wt (l0_4.drop j) ≤ head_Lay.wt l0_4) ∧ Aside0 (Bld wc.heap.size (LN ++ acc) wr) ∧ Aside0 (Below wc.heap.size wc wr)) (fun i _ => l0_4.length - (intOf i).toNat)
    case atStart => exact ⟨0, [], Z, Nat.zero_le _, rfl, ⟨by rw [List.drop_zero]; exact HZ.out⟩, ⟨by cases Z <;> rfl⟩, ⟨by rw [List.drop_zero, List.length_nil]; omega⟩, ⟨by rw [List.append_nil]; exact HB1.out⟩, HW1⟩
    case round =>
      obtain ⟨j, acc, Y, hj, rfl, HR, HP, HN, HBl, HW⟩ := hrel
      by_cases hlt : j < l0_4.length
      · obtain ⟨ad, e, hx0, hx1⟩ := at_T35 HR0_4.out (j : Int) (by omega) (by omega)
        have HWr := below_step HB.out HW.out
        have hpj : l0_4[j]? = some (rd_T35 l0_4 (j : Int)) := by rw [rd_T35, Int.toNat_natCast, List.getD_eq_getElem?_getD, List.getElem?_eq_getElem hlt]; rfl
        have hx0' := (HWr.cell (World.block_lt_of_cell? w _ hx0)).trans hx0
        have hx1' := (HWr.cell (World.block_lt_of_cell? w _ hx1)).trans hx1
        have p1 : (0 ≤ (j : Int)) = True := eq_true (by omega)
        have q1 : ((j : Int) < (l0_4.length : Int)) = True := eq_true (by omega)
        generalize rd_T35 l0_4 (j : Int) = p at *
        clear hx0 hx1
        cases e
        rw [Int.toNat_natCast] at hx0' hx1'
        go_wp2_with (first | ((with_reducible refine gate_dst (N := 10) rfl ?_); (try (refine gate_guard (by rfl) ?_; dsimp only)); refine box_event ?hg (N := 10) ?hd (cs := #[.string (⟨#[]⟩ : ByteArray), .string (⟨#[]⟩ : ByteArray)]) (t := 35) ?hr ?_; (case hd => rfl); (case hg => rfl); (case hr => first | (go_simp; done) | (go_simp; rfl)); intro gb7 hg7 w7 hbox7 hb7; have hgl7 : wr.heap.size ≤ gb7 := (by rw [hg7]; exact Nat.le_refl _); clear hg7; have hcz7_0 : w7.cell? ⟨gb7, 0, none⟩ = some (.string (⟨#[]⟩ : ByteArray)) := (blk_cell hbox7 0).trans rfl; have hcz7_1 : w7.cell? ⟨gb7, 1, none⟩ = some (.string (⟨#[]⟩ : ByteArray)) := (blk_cell hbox7 1).trans rfl; have hfz7_0 := blk_frozen hbox7 0; have hfz7_1 := blk_frozen hbox7 1; have hx0' := (hb7.cell (World.block_lt_of_cell? _ _ hx0')).trans hx0'; have hx1' := (hb7.cell (World.block_lt_of_cell? _ _ hx1')).trans hx1'))
        have hdj : l0_4.drop j = p :: l0_4.drop (j + 1) := by
          rw [List.drop_eq_getElem_cons hlt]
          rw [List.getElem?_eq_getElem hlt] at hpj
          rw [Option.some.inj hpj]
        have hR := HR.out
        rw [hdj, head_Lay.rows] at hR
        obtain ⟨X, hX, hR⟩ := Option.bind_eq_some_iff.1 hR
        have HX := Aside0.mk hX
        have hRR := Aside0.mk hR
        clear hX hR
        have hwtj : head_Lay.wt (l0_4.drop j) = p.f0.size + p.f1.size + 4 + head_Lay.wt (l0_4.drop (j + 1)) := by rw [hdj]; rfl
        have hN := HN.out
        have hgw : wc.heap.size ≤ gb7 := Nat.le_trans HW.out.size hgl7
        have hWs := Aside0.mk ((((below_step HW.out hb7).setCell (p := ⟨gb7, 0, none⟩) hgw (Value.string p.f0)).setCell (p := ⟨gb7, 1, none⟩) hgw (Value.string p.f1)))
        have hWr2 := Aside0.mk ((hb7.setCell (p := ⟨gb7, 0, none⟩) hgl7 (Value.string p.f0)).setCell (p := ⟨gb7, 1, none⟩) hgl7 (Value.string p.f1))
        have hB2 := Aside0.mk (bld_below HBl.out hWr2.out)
        have hc0 : ((w7.setCell ⟨gb7, 0, none⟩ (Value.string p.f0)).setCell ⟨gb7, 1, none⟩ (Value.string p.f1)).cell? ⟨gb7, 0, none⟩ = some (.string p.f0) := by go_simp
        have hc1 : ((w7.setCell ⟨gb7, 0, none⟩ (Value.string p.f0)).setCell ⟨gb7, 1, none⟩ (Value.string p.f1)).cell? ⟨gb7, 1, none⟩ = some (.string p.f1) := by go_simp
        have HX2 := HX.out
        rw [head_Lay.row] at HX2
        obtain ⟨a, ha, hXa⟩ := Option.bind_eq_some_iff.1 HX2
        clear HX2 hcz7_0 hcz7_1 hfz7_0 hfz7_1 hx0' hx1' hbox7
        generalize ((w7.setCell ⟨gb7, 0, none⟩ (Value.string p.f0)).setCell ⟨gb7, 1, none⟩ (Value.string p.f1)) = W8 at hWs hWr2 hB2 hc0 hc1 ⊢
        refine (pairs_Token.calls kq p.f0 a W8 ha).mono ?_
        rintro e w9 ⟨rfl, nd, rfl⟩
        replace hWs := Aside0.mk (show Below wc.heap.size wc (W8.drewN nd) from hWs.out.trans ⟨rfl, rfl, rfl, Nat.le_refl _, fun _ _ => rfl⟩)
        replace hB2 := Aside0.mk (show Bld wc.heap.size (LN ++ acc) (W8.drewN nd) from hB2.out)
        replace hc0 : (W8.drewN nd).cell? ⟨gb7, 0, none⟩ = some (.string p.f0) := hc0
        replace hc1 : (W8.drewN nd).cell? ⟨gb7, 1, none⟩ = some (.string p.f1) := hc1
        clear hWr2
        generalize W8.drewN nd = W9 at hWs hB2 hc0 hc1 ⊢
        cases a with
        | false =>
          rw [if_neg (by decide)] at hXa
          obtain rfl := Option.some.inj hXa
          have hRe := hRR.out
          rw [if_pos rfl] at hRe
          obtain rfl := Option.some.inj hRe
          have hE := HE.out
          rw [HP.out, head_Lay.put, Option.bind_some, Option.bind_none, head_Lay.end_] at hE
          simp only [Prod.mk.injEq] at hE
          obtain ⟨rfl, rfl⟩ := hE
          go_wp2
          go_ret2
          exact ⟨fi_, below_step HB.out hWs.out⟩
        | true =>
          rw [if_pos rfl] at hXa
          obtain ⟨b, hb, hXb⟩ := Option.bind_eq_some_iff.1 hXa
          go_wp2_with fail
          refine (pairs_Value.calls kq p.f1 b W9 hb).mono ?_
          rintro e w10 ⟨rfl, hb10⟩
          replace hc0 := (hb10.cell (World.block_lt_of_cell? _ _ hc0)).trans hc0
          replace hc1 := (hb10.cell (World.block_lt_of_cell? _ _ hc1)).trans hc1
          have hB3 := Aside0.mk (bld_below hB2.out hb10)
          replace hWs := Aside0.mk (below_step hWs.out hb10)
          cases b with
          | false =>
            rw [if_neg (by decide)] at hXb
            obtain rfl := Option.some.inj hXb
            have hRe := hRR.out
            rw [if_pos rfl] at hRe
            obtain rfl := Option.some.inj hRe
            have hE := HE.out
            rw [HP.out, head_Lay.put, Option.bind_some, Option.bind_none, head_Lay.end_] at hE
            simp only [Prod.mk.injEq] at hE
            obtain ⟨rfl, rfl⟩ := hE
            go_wp2
            go_ret2
            exact ⟨fi_, below_step HB.out hWs.out⟩
          | true =>
            rw [if_pos rfl] at hXb
            obtain rfl := Option.some.inj hXb
            have hRe := hRR.out
            rw [if_neg (by simp)] at hRe
            obtain ⟨Y', hY', hRe⟩ := Option.bind_eq_some_iff.1 hRe
            obtain rfl := Option.some.inj hRe
            have z1 : (9223372036854775807 < p.f0.size + 2 + p.f1.size) = False := eq_false (by omega)
            have z2 : (9223372036854775807 < p.f0.size + 2 + p.f1.size + 2) = False := eq_false (by omega)
            have z3 : (9223372036854775807 < p.f0.size + 2) = False := eq_false (by omega)
            go_wp2_with fail
            clear z1 z2 z3
            generalize hS2 : (p.f0 ++ ({ data := #[58, 32] } : ByteArray) ++ p.f1 ++ ({ data := #[13, 10] } : ByteArray)) = S2
            have hS2d : S2.data.toList = p.f0.data.toList ++ [58, 32] ++ p.f1.data.toList ++ [13, 10] := by
              rw [← hS2]
              simp only [ByteArray.data_append, Array.toList_append]
            have hS2z : S2.size = p.f0.size + p.f1.size + 4 := by
              rw [← hS2]
              simp only [ByteArray.size_append]
              show p.f0.size + 2 + p.f1.size + 2 = _
              omega
            have hla : (LN ++ acc).length = LN.length + acc.length := List.length_append
            refine (bld_text wc.heap.size (LN ++ acc) S2 w10 hB3.out (by omega) hWs.out.size).mono ?_
            rintro e w11 ⟨rfl, h1, h2⟩
            rw [← hS2d] at HX
            have H1 := Aside0.mk (show Bld wc.heap.size (LN ++ (acc ++ S2.data.toList)) w11 from (by rw [← List.append_assoc]; exact h1))
            have H2 := Aside0.mk (hWs.out.trans h2)
            have H3 := Aside0.mk hY'
            have H4 : Aside0 (Z = head_Lay.put (some (acc ++ S2.data.toList)) Y') := ⟨by rw [HP.out, ← hS2d]; cases Y' <;> simp [head_Lay.put, List.append_assoc]⟩
            have H5 : Aside0 ((acc ++ S2.data.toList).length + head_Lay.wt (l0_4.drop (j + 1)) ≤ head_Lay.wt l0_4) := ⟨by rw [List.length_append, data_length]; omega⟩
            clear h1 h2
            have hlm : l0_4.length ≤ 9223372036854775807 := HR0_4.out.2.1
            go_wp2
            exact ⟨⟨j + 1, acc ++ S2.data.toList, Y', by omega, by go_num, H3, H4, H5, H1, H2⟩, by simp [intOf]; omega⟩
      · have hje : j = l0_4.length := by omega
        subst hje
        have hY : Y = some [] := by
          have h_ := HR.out
          rw [List.drop_length, head_Lay.rows] at h_
          exact (Option.some.inj h_).symm
        have hZa : Z = some acc := by rw [HP.out, hY]; simp [head_Lay.put]
        have hN := HN.out
        have hws := HW.out.size
        have hall : (LN ++ acc).length ≤ 100000000000100 := by rw [List.length_append]; omega
        go_wp2_with fail
        refine (bld_text wc.heap.size (LN ++ acc) ⟨#[13, 10]⟩ wr HBl.out (Nat.le_trans (Nat.add_le_add_right hall _) (by decide)) hws).mono ?_
        rintro e w5 ⟨rfl, h1, h2⟩
        have HB5 := Aside0.mk (show Bld wc.heap.size (LN ++ acc ++ [13, 10]) w5 from h1)
        have HW5 := Aside0.mk (HW.out.trans h2)
        clear h1 h2
        have hws5 := HW5.out.size
        go_wp2_with fail
        refine (bld_len wc.heap.size (LN ++ acc ++ [13, 10]) w5 HB5.out).mono ?_
        rintro e w6 ⟨rfl, rfl⟩
        have hE := HE.out
        rw [hZa, head_Lay.end_] at hE
        by_cases hbig : (LN ++ acc ++ [13, 10]).length > 1000
        · have hb1 : (1000 < (LN ++ acc ++ [13, 10]).length) = True := eq_true hbig
          have hb2 : ((1000 : Int) < ((LN ++ acc ++ [13, 10]).length : Int)) = True := eq_true (by omega)
          rw [if_pos hbig] at hE
          simp only [Prod.mk.injEq] at hE
          obtain ⟨rfl, rfl⟩ := hE
          generalize (LN ++ acc ++ [13, 10]).length = n at hb1 hb2 ⊢
          go_wp2
          go_ret2
          exact ⟨fi_, below_step HB.out HW5.out⟩
        · have hb1 : (1000 < (LN ++ acc ++ [13, 10]).length) = False := eq_false hbig
          have hb2 : ((1000 : Int) < ((LN ++ acc ++ [13, 10]).length : Int)) = False := eq_false (by omega)
          rw [if_neg hbig] at hE
          simp only [Prod.mk.injEq] at hE
          obtain ⟨rfl, rfl⟩ := hE
          generalize (LN ++ acc ++ [13, 10]).length = n at hb1 hb2 ⊢
          go_wp2_with fail
          refine (bld_done wc.heap.size (LN ++ acc ++ [13, 10]) _ HB5.out hws5).mono ?_
          rintro e w8 ⟨rfl, h2⟩
          have H2 := Aside0.mk (HW5.out.trans h2)
          clear h2
          go_wp2
          go_ret2
          exact ⟨fi_, below_step HB.out H2.out⟩

end Go.Proofs.YtpmllmfamjpinaaDoor.P
