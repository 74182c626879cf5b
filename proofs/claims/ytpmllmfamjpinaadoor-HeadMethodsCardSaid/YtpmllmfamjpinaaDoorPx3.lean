-- written by wip/tool/hprint.py of this repo: the kit's print, with contracts by hand joined; Lean checks it.
import Derived.Test.YtpmllmfamjpinaaDoorPx0
import Derived.Test.YtpmllmfamjpinaaDoorPx2
namespace Go.Proofs.YtpmllmfamjpinaaDoor.P
open Go.RowKit Go.Proofs.YtpmllmfamjpinaaDoorW.PrintWords Go.Proofs.YtpmllmfamjpinaaDoorW.PrintLast Go.Proofs.YtpmllmfamjpinaaDoorW.PrintMore
attribute [local go_sem] max2_int min2_int max_two min_two max_three min_three max_four min_four   -- for this text's walks alone
set_option linter.unusedVariables false
set_option linter.unusedSimpArgs false

/-! ### host_Of: function 41 -/
mutual
def host_Of.j0 : Nat → ByteArray → Int → Bool → Option (ByteArray × Int)
 | 0, _, _, _ => none
 | k + 1, x0, x4, x17 => if x17 = true then (if 0 ≤ x4 then (if x4 ≤ (x0.size : Int) then (host_Of.j1 k (x0.extract 0 (x4 : Int).toNat)) else (none)) else (none)) else (host_Of.j1 k x0)
def host_Of.j1 : Nat → ByteArray → Option (ByteArray × Int)
 | 0, _ => none
 | k + 1, x0 => (strings_TrimSuffix.f x0 (⟨#[46]⟩ : ByteArray)).bind fun t120 => ((dns_Name.f t120).bind fun t121 => (if t121 = true then (some (t120, 0)) else (some ((⟨#[]⟩ : ByteArray), 2))))
end
def host_Of.f (k : Nat) (a0 : ByteArray) : Option (ByteArray × Int) := (dns_Fold.f a0).bind fun t117 => ((strings_LastIndexByte.f k t117 58).bind fun t118 => (if t118 ≥ 0 then (if 0 ≤ (wrap64 (t118 + 1)) then (if (wrap64 (t118 + 1)) ≤ (t117.size : Int) then ((host_port.f (t117.extract ((wrap64 (t118 + 1)) : Int).toNat t117.size)).bind fun t119 => (host_Of.j0 k t117 t118 t119)) else (none)) else (none)) else (host_Of.j0 k t117 t118 false)))
theorem host_Of.mono_l : ∀ k, (∀ y0 y1 y2, LeO (host_Of.j0 k y0 y1 y2) (host_Of.j0 (k + 1) y0 y1 y2)) ∧ (∀ y0, LeO (host_Of.j1 k y0) (host_Of.j1 (k + 1) y0))
 | 0 => ⟨fun _ _ _ r h => by simp [host_Of.j0] at h, fun _ r h => by simp [host_Of.j1] at h⟩
 | k + 1 => by
  obtain ⟨ih0, ih1⟩ := host_Of.mono_l k
  refine ⟨?_, ?_⟩
  ·intro y0 y1 y2
   unfold host_Of.j0
   repeat' first
   | (with_reducible exact ih0 _ _ _)
   | (with_reducible exact ih1 _)
   | (with_reducible exact strings_LastIndexByte.mono _ _ _)
   | (with_reducible exact LeO.refl _)
   | (with_reducible exact LeO.none _)
   | (with_reducible refine LeO.ite ?_ ?_)
   | (with_reducible refine LeO.bind ?_ (fun _ => ?_))
   | exact ih0 _ _ _
   | exact ih1 _
   | exact strings_LastIndexByte.mono _ _ _
   | exact LeO.none _
   | refine LeO.ite ?_ ?_
   | refine LeO.bind ?_ (fun _ => ?_)
  ·intro y0
   unfold host_Of.j1
   repeat' first
   | (with_reducible exact ih0 _ _ _)
   | (with_reducible exact ih1 _)
   | (with_reducible exact strings_LastIndexByte.mono _ _ _)
   | (with_reducible exact LeO.refl _)
   | (with_reducible exact LeO.none _)
   | (with_reducible refine LeO.ite ?_ ?_)
   | (with_reducible refine LeO.bind ?_ (fun _ => ?_))
   | exact ih0 _ _ _
   | exact ih1 _
   | exact strings_LastIndexByte.mono _ _ _
   | exact LeO.none _
   | refine LeO.ite ?_ ?_
   | refine LeO.bind ?_ (fun _ => ?_)
theorem host_Of.mono : ∀ a0 k, LeO (host_Of.f k a0) (host_Of.f (k + 1) a0) := by
 intro a0 k
 obtain ⟨ih0, ih1⟩ := host_Of.mono_l k
 unfold host_Of.f
 repeat' first
   | (with_reducible exact ih0 _ _ _)
   | (with_reducible exact ih1 _)
   | (with_reducible exact strings_LastIndexByte.mono _ _ _)
   | (with_reducible exact LeO.refl _)
   | (with_reducible exact LeO.none _)
   | (with_reducible refine LeO.ite ?_ ?_)
   | (with_reducible refine LeO.bind ?_ (fun _ => ?_))
   | exact ih0 _ _ _
   | exact ih1 _
   | exact strings_LastIndexByte.mono _ _ _
   | exact LeO.none _
   | refine LeO.ite ?_ ?_
   | refine LeO.bind ?_ (fun _ => ?_)
set_option maxHeartbeats 8000000 in
set_option maxRecDepth 100000 in
theorem host_Of.calls (k : Nat) (a0 : ByteArray) (r1 : ByteArray) (r2 : Int) (w : World) (h : host_Of.f k a0 = some (r1, r2)) :
  Calls Tryd.prog 41 #[.string a0] w fun e w' => e = .returned (.tuple #[.string r1, .int .i64 r2]) ∧ Below w.heap.size w w' := by
 have HB := am_ (Below.refl w.heap.size w)
 have H : ((dns_Fold.f a0).bind fun t117 => ((strings_LastIndexByte.f k t117 58).bind fun t118 => (if t118 ≥ 0 then (if 0 ≤ (wrap64 (t118 + 1)) then (if (wrap64 (t118 + 1)) ≤ (t117.size : Int) then ((host_port.f (t117.extract ((wrap64 (t118 + 1)) : Int).toNat t117.size)).bind fun t119 => (host_Of.j0 k t117 t118 t119)) else (none)) else (none)) else (host_Of.j0 k t117 t118 false)))) = some (r1, r2) := h
 clear h
 replace H := Option.bind_eq_some_iff.mp H
 obtain ⟨t117, A20, H⟩ := H
 replace H : ((strings_LastIndexByte.f k t117 58).bind fun t118 => (if t118 ≥ 0 then (if 0 ≤ (wrap64 (t118 + 1)) then (if (wrap64 (t118 + 1)) ≤ (t117.size : Int) then ((host_port.f (t117.extract ((wrap64 (t118 + 1)) : Int).toNat t117.size)).bind fun t119 => (host_Of.j0 k t117 t118 t119)) else (none)) else (none)) else (host_Of.j0 k t117 t118 false))) = some (r1, r2) := H
 have A2 := Aside0.mk A20
 clear A20
 replace H := Option.bind_eq_some_iff.mp H
 obtain ⟨t118, A30, H⟩ := H
 replace H : (if t118 ≥ 0 then (if 0 ≤ (wrap64 (t118 + 1)) then (if (wrap64 (t118 + 1)) ≤ (t117.size : Int) then ((host_port.f (t117.extract ((wrap64 (t118 + 1)) : Int).toNat t117.size)).bind fun t119 => (host_Of.j0 k t117 t118 t119)) else (none)) else (none)) else (host_Of.j0 k t117 t118 false)) = some (r1, r2) := H
 have A3 := Aside0.mk A30
 clear A30
 have HC4 := Aside0.mk H
 clear H
 go_enter Tryd.func41, Tryd.ntmps41
 go_upto_region 3 with (first | ((with_reducible refine gate_callee (f := 59) rfl ?_); refine goesL_ (some 6) rfl rfl Tryd.func59 kr_ rfl #[.string a0] rfl rl_ ?_; (with_reducible refine (dns_Fold.calls a0 t117 _ A2.out).mono ?_); rintro e w5 ⟨rfl, hb⟩; refine ⟨_, rfl, ?_⟩; have n0_ := am_ (below_step (bel_ HB.out) hb); clear HB; have HB := n0_; clear n0_; (try clear hb); (try clear hb2); (try clear hk); (try clear hi)) | ((with_reducible refine gate_callee (f := 60) rfl ?_); refine goesL_ (some 8) rfl rfl Tryd.func60 kr_ rfl #[.string t117, .int .u8 58] rfl rl_ ?_; (with_reducible refine (strings_LastIndexByte.calls k t117 58 t118 _ A3.out).mono ?_); rintro e w' ⟨rfl, ⟨nd, rfl⟩⟩; refine ⟨_, rfl, ?_⟩))
 (try simp only [Act.put, List.setIfInBounds_toArray, List.set_cons_zero, List.set_cons_succ])
 go_cut [17] (fun v17 wc => ∃ (kq : Nat) (x17_3 : Bool), v17 = .bool x17_3 ∧ Aside0 (host_Of.j0 kq t117 t118 x17_3 = some (r1, r2)) ∧ Aside0 (kq ≤ k) ∧ Aside0 (Below w.heap.size w wc))
 case first =>
  have H := HC4.out
  clear HC4
  by_cases c6 : t118 ≥ 0
  ·rw [if_pos c6] at H
   have c6b0 : decide (0 ≤ t118) = true := decide_eq_true c6
   clear c6
   (first | rw [c6b0] | rw [c6b1] | rw [c6b2] | (simp only [i64_w, i32_w]; rw [c6b0]) | skip)
   obtain ⟨ji7, hji7⟩ : ∃ j_ : Int, (wrap64 (t118 + 1)) = j_ := ⟨_, rfl⟩
   replace H : (if 0 ≤ (ji7) then (if (ji7) ≤ (t117.size : Int) then ((host_port.f (t117.extract ((ji7) : Int).toNat t117.size)).bind fun t119 => (host_Of.j0 k t117 t118 t119)) else (none)) else (none)) = some (r1, r2) := by first | (rw [hji7] at H; exact H) | (simp only [hji7] at H ⊢; exact H)
   have hji7w : (IntKind.i64.wrap (t118 + 1)) = ji7 := (i64_w _).trans hji7
   by_cases c8 : 0 ≤ (ji7)
   ·rw [if_pos c8] at H
    have c8b0 := eq_true c8
    have c8b1 : decide (0 ≤ (ji7)) = true := decide_eq_true c8
    clear c8
    by_cases c9 : (ji7) ≤ (t117.size : Int)
    ·rw [if_pos c9] at H
     have c9b0 := eq_true c9
     have c9b1 : decide ((ji7) ≤ (t117.size : Int)) = true := decide_eq_true c9
     clear c9
     replace H := Option.bind_eq_some_iff.mp H
     obtain ⟨t119, A100, H⟩ := H
     replace H : (host_Of.j0 k t117 t118 t119) = some (r1, r2) := H
     have A10 := Aside0.mk A100
     clear A100
     have H' := Aside0.mk H
     clear H
     go_wp2_with (first | (go_at_call 61; (with_reducible refine (host_port.calls (t117.extract ((ji7) : Int).toNat t117.size) t119 _ A10.out).mono ?_); rintro e w11 ⟨rfl, hb⟩; have n0_ := am_ (below_step (bel_ HB.out) hb); clear HB; have HB := n0_; clear n0_; (try clear hb); (try clear hb2); (try clear hk); (try clear hi)))
     go_meet
     case rel => exact ⟨_, (t119), sd_, H', ⟨by first | omega | exact Nat.le_refl _⟩, ⟨bel_ HB.out⟩⟩
    ·rw [if_neg c9] at H
     exact absurd H (by simp)
   ·rw [if_neg c8] at H
    exact absurd H (by simp)
  ·rw [if_neg c6] at H
   have c6b0 : decide (0 ≤ t118) = false := decide_eq_false c6
   clear c6
   (first | rw [c6b0] | rw [c6b1] | rw [c6b2] | (simp only [i64_w, i32_w]; rw [c6b0]) | skip)
   have H' := Aside0.mk H
   clear H
   go_wp2
   go_meet
   case rel => exact ⟨_, (false), sd_, H', ⟨by first | omega | exact Nat.le_refl _⟩, ⟨bel_ HB.out⟩⟩
 case rest =>
  clear HC4
  try clear p2
  try clear c4
  try clear c5
  try clear c6
  try clear c6b0
  try clear c6b1
  try clear c6b2
  try clear p6
  try clear c8
  try clear c8b0
  try clear c8b1
  try clear c9
  try clear c9b0
  try clear c9b1
  obtain ⟨kq, x17_3, rfl, HA, HJ3, HB⟩ := hcut
  cases kq with
  | zero => exact absurd HA.out (by simp [host_Of.j0])
  | succ kj3 =>
   have H := HA.out
   clear HA
   simp only [host_Of.j0] at H
   have HC12 := Aside0.mk H
   clear H
   go_upto_if 17 with (fail)
   go_cut [0] (fun v0 wc => ∃ (kq : Nat) (x0_11 : ByteArray), v0 = .string x0_11 ∧ Aside0 (host_Of.j1 kq x0_11 = some (r1, r2)) ∧ Aside0 (kq ≤ kj3) ∧ Aside0 (Below w.heap.size w wc))
   case first =>
    have H := HC12.out
    clear HC12
    by_cases c13 : x17_3 = true
    ·subst c13
     have H1 : (if 0 ≤ t118 then (if t118 ≤ (t117.size : Int) then (host_Of.j1 kj3 (t117.extract 0 (t118 : Int).toNat)) else (none)) else (none)) = some (r1, r2) := by rw [if_pos rfl] at H; exact H
     clear H
     have H := H1
     clear H1
     by_cases c14 : 0 ≤ t118
     ·rw [if_pos c14] at H
      have c14b0 := eq_true c14
      have c14b1 : decide (0 ≤ t118) = true := decide_eq_true c14
      clear c14
      by_cases c15 : t118 ≤ (t117.size : Int)
      ·rw [if_pos c15] at H
       have c15b0 := eq_true c15
       have c15b1 : decide (t118 ≤ (t117.size : Int)) = true := decide_eq_true c15
       clear c15
       have H' := Aside0.mk H
       clear H
       go_wp2
       go_meet
       case rel => exact ⟨_, (t117.extract 0 (t118 : Int).toNat), sd_, H', ⟨by have := HJ3.out; first | omega | exact Nat.le_refl _⟩, ⟨bel_ HB.out⟩⟩
      ·rw [if_neg c15] at H
       exact absurd H (by simp)
     ·rw [if_neg c14] at H
      exact absurd H (by simp)
    ·replace c13 := Bool.eq_false_iff.mpr c13
     subst c13
     have H1 : (host_Of.j1 kj3 t117) = some (r1, r2) := by rw [if_neg (show ¬ (false = true) by decide)] at H; exact H
     clear H
     have H := H1
     clear H1
     have H' := Aside0.mk H
     clear H
     go_wp2
     go_meet
     case rel => exact ⟨_, (t117), sd_, H', ⟨by have := HJ3.out; first | omega | exact Nat.le_refl _⟩, ⟨bel_ HB.out⟩⟩
   case rest =>
    clear HC12
    try clear c1
    try clear p2
    try clear c4
    try clear c5
    try clear c6
    try clear c6b0
    try clear c6b1
    try clear c6b2
    try clear p6
    try clear c8
    try clear c8b0
    try clear c8b1
    try clear c9
    try clear c9b0
    try clear c9b1
    try clear c13
    try clear c14
    try clear c14b0
    try clear c14b1
    try clear c15
    try clear c15b0
    try clear c15b1
    try clear p2
    try clear p6
    obtain ⟨kq, x0_11, rfl, HA, HJ11, HB⟩ := hcut
    cases kq with
    | zero => exact absurd HA.out (by simp [host_Of.j1])
    | succ kj11 =>
     have H := HA.out
     clear HA
     simp only [host_Of.j1] at H
     replace H := Option.bind_eq_some_iff.mp H
     obtain ⟨t120, A160, H⟩ := H
     replace H : ((dns_Name.f t120).bind fun t121 => (if t121 = true then (some (t120, 0)) else (some ((⟨#[]⟩ : ByteArray), 2)))) = some (r1, r2) := H
     have A16 := Aside0.mk A160
     clear A160
     replace H := Option.bind_eq_some_iff.mp H
     obtain ⟨t121, A170, H⟩ := H
     replace H : (if t121 = true then (some (t120, 0)) else (some ((⟨#[]⟩ : ByteArray), 2))) = some (r1, r2) := H
     have A17 := Aside0.mk A170
     clear A170
     by_cases c18 : t121 = true
     ·subst c18
      have H1 : (some (t120, 0)) = some (r1, r2) := by rw [if_pos rfl] at H; exact H
      clear H
      have H := H1
      clear H1
      simp only [Option.some.injEq, Prod.mk.injEq] at H
      obtain ⟨rfl, rfl⟩ := H
      go_wp2_with (first | ((with_reducible refine gate_callee (f := 62) rfl ?_); refine goesL_ (some 22) rfl rfl Tryd.func62 kr_ rfl #[.string x0_11, .string (⟨#[46]⟩ : ByteArray)] rfl rl_ ?_; (with_reducible refine (strings_TrimSuffix.calls x0_11 (⟨#[46]⟩ : ByteArray) t120 _ A16.out).mono ?_); rintro e w' ⟨rfl, ⟨nd, rfl⟩⟩; refine ⟨_, rfl, ?_⟩) | ((with_reducible refine gate_callee (f := 63) rfl ?_); refine goesL_ (some 24) rfl rfl Tryd.func63 kr_ rfl #[.string t120] rfl rl_ ?_; (with_reducible refine (dns_Name.calls t120 true _ A17.out).mono ?_); rintro e w19 ⟨rfl, hb⟩; refine ⟨_, rfl, ?_⟩; have n0_ := am_ (below_step (bel_ HB.out) hb); clear HB; have HB := n0_; clear n0_; (try clear hb); (try clear hb2); (try clear hk); (try clear hi)))
      go_ret2
      exact ⟨fi_, bel_ HB.out⟩
     ·replace c18 := Bool.eq_false_iff.mpr c18
      subst c18
      have H1 : (some ((⟨#[]⟩ : ByteArray), 2)) = some (r1, r2) := by rw [if_neg (show ¬ (false = true) by decide)] at H; exact H
      clear H
      have H := H1
      clear H1
      simp only [Option.some.injEq, Prod.mk.injEq] at H
      obtain ⟨rfl, rfl⟩ := H
      go_wp2_with (first | ((with_reducible refine gate_callee (f := 62) rfl ?_); refine goesL_ (some 22) rfl rfl Tryd.func62 kr_ rfl #[.string x0_11, .string (⟨#[46]⟩ : ByteArray)] rfl rl_ ?_; (with_reducible refine (strings_TrimSuffix.calls x0_11 (⟨#[46]⟩ : ByteArray) t120 _ A16.out).mono ?_); rintro e w' ⟨rfl, ⟨nd, rfl⟩⟩; refine ⟨_, rfl, ?_⟩) | ((with_reducible refine gate_callee (f := 63) rfl ?_); refine goesL_ (some 24) rfl rfl Tryd.func63 kr_ rfl #[.string t120] rfl rl_ ?_; (with_reducible refine (dns_Name.calls t120 false _ A17.out).mono ?_); rintro e w20 ⟨rfl, hb⟩; refine ⟨_, rfl, ?_⟩; have n0_ := am_ (below_step (bel_ HB.out) hb); clear HB; have HB := n0_; clear n0_; (try clear hb); (try clear hb2); (try clear hk); (try clear hi)))
      go_ret2
      exact ⟨fi_, bel_ HB.out⟩

/-! ### head_asked: function 23 -/
def head_asked.f (k : Nat) (l0 : List (S35)) : Option (ByteArray × Bool) := (pairs_All.f k l0 (⟨#[104, 111, 115, 116]⟩ : ByteArray)).bind fun t122 => (if (t122.length : Int) = 1 then (if 0 < (t122.length : Int) then ((host_Of.f k (rdOf ByteArray.empty t122 0)).bind fun bt126 => (some (bt126.1, (bt126.2 == 0)))) else (none)) else (some ((⟨#[]⟩ : ByteArray), false)))
theorem head_asked.mono : ∀ a0 k, LeO (head_asked.f k a0) (head_asked.f (k + 1) a0) := by
 intro a0 k
 unfold head_asked.f
 repeat' first
   | (with_reducible exact host_Of.mono _ _)
   | (with_reducible exact pairs_All.mono _ _ _)
   | (with_reducible exact LeO.refl _)
   | (with_reducible exact LeO.none _)
   | (with_reducible refine LeO.ite ?_ ?_)
   | (with_reducible refine LeO.bind ?_ (fun _ => ?_))
   | exact host_Of.mono _ _
   | exact pairs_All.mono _ _ _
   | exact LeO.none _
   | refine LeO.ite ?_ ?_
   | refine LeO.bind ?_ (fun _ => ?_)
set_option maxHeartbeats 8000000 in
set_option maxRecDepth 100000 in
theorem head_asked.calls (k : Nat) (A0 : Option Addr) (c0 : Nat) (l0 : List (S35)) (r1 : ByteArray) (r2 : Bool) (w : World) (hr0 : Kd.C k35 w A0 l0.length l0) (hc0 : l0.length ≤ c0) (h : head_asked.f k l0 = some (r1, r2)) :
  Calls Tryd.prog 23 #[.slice A0 l0.length c0] w fun e w' => e = .returned (.tuple #[.string r1, .bool r2]) ∧ Below w.heap.size w w' := by
 have HR0 := Aside0.mk hr0
 have HC0 := Aside0.mk hc0
 clear hr0 hc0
 have HB := am_ (Below.refl w.heap.size w)
 have H : ((pairs_All.f k l0 (⟨#[104, 111, 115, 116]⟩ : ByteArray)).bind fun t122 => (if (t122.length : Int) = 1 then (if 0 < (t122.length : Int) then ((host_Of.f k (rdOf ByteArray.empty t122 0)).bind fun bt126 => (some (bt126.1, (bt126.2 == 0)))) else (none)) else (some ((⟨#[]⟩ : ByteArray), false)))) = some (r1, r2) := h
 clear h
 replace H := Option.bind_eq_some_iff.mp H
 obtain ⟨t122, A20, H⟩ := H
 replace H : (if (t122.length : Int) = 1 then (if 0 < (t122.length : Int) then ((host_Of.f k (rdOf ByteArray.empty t122 0)).bind fun bt126 => (some (bt126.1, (bt126.2 == 0)))) else (none)) else (some ((⟨#[]⟩ : ByteArray), false))) = some (r1, r2) := H
 have A2 := Aside0.mk A20
 clear A20
 by_cases c3 : (t122.length : Int) = 1
 ·rw [if_pos c3] at H
  have c3b0 : ((t122.length : Int) == 1) = true := beq_iff_eq.mpr c3
  have c3b1 : ((t122.length : Int) != 1) = false := bne_eq_false_iff_eq.mpr c3
  clear c3
  by_cases c4 : 0 < (t122.length : Int)
  ·rw [if_pos c4] at H
   have c4b0 : decide (0 < (t122.length : Int)) = true := decide_eq_true c4
   have c4b1 : decide (0 < t122.length) = true := decide_eq_true (by omega)
   clear c4
   replace H := Option.bind_eq_some_iff.mp H
   obtain ⟨⟨t126, t127⟩, A50, H⟩ := H
   replace H : (some (t126, (t127 == 0))) = some (r1, r2) := H
   have A5 := Aside0.mk A50
   clear A50
   simp only [Option.some.injEq, Prod.mk.injEq] at H
   obtain ⟨rfl, rfl⟩ := H
   go_enter Tryd.func23, Tryd.ntmps23
   go_wp2_with (first | ((with_reducible refine gate_callee (f := 40) rfl ?_); refine goesL_ (some 8) rfl rfl Tryd.func40 kr_ rfl #[.slice A0 l0.length c0, .string (⟨#[104, 111, 115, 116]⟩ : ByteArray)] rfl rl_ ?_; (with_reducible refine (pairs_All.calls k _ _ l0 (⟨#[104, 111, 115, 116]⟩ : ByteArray) t122 _ ?side1 ?side2 A2.out).mono ?_); (case side1 => exact C_ HR0.out); (case side2 => exact HC0.out); rintro e w6 ⟨v123, rfl, ho0, hb⟩; refine ⟨_, rfl, ?_⟩; have n0_ := am_ (Kd.R_lower ho0 (below_size (bel_ HB.out))); have n1_ := am_ (below_step (bel_ HB.out) hb); clear HB; have HO124 := n0_; have HB := n1_; clear n0_ n1_; (try clear hb); (try clear hb2); (try clear hk); (try clear hi); (try clear ho0); obtain ⟨Ao7, co7, eo7⟩ := Kd.R_slice HO124.out; subst eo7; have p125 : 0 ≤ (0 : Int) := (by omega); have q125 : 0 < (t122.length : Int) := of_decide_eq_true as_; obtain ⟨ad125, e125, hx125_0⟩ := Kd.at_string (Kd.R_reads' HO124.out).2.2 0 p125 q125; cases e125; have qi125 : (0 < t122.length) = True := eq_true (by omega); (try rw [show ((0 : Int)).toNat = 0 from rfl] at hx125_0); (try rw [Addr.add_zero'] at hx125_0); replace p125 := eq_true p125; replace q125 := eq_true q125) | ((with_reducible refine gate_callee (f := 41) rfl ?_); refine goesL_ (some 16) rfl rfl Tryd.func41 kr_ rfl #[.string (rdOf ByteArray.empty t122 0)] rfl rl_ ?_; (with_reducible refine (host_Of.calls k (rdOf ByteArray.empty t122 0) t126 t127 _ A5.out).mono ?_); rintro e w8 ⟨rfl, hb⟩; refine ⟨_, rfl, ?_⟩; have n0_ := am_ (Kd.R_below (R_ HO124.out) hb); have n1_ := am_ (below_step (bel_ HB.out) hb); clear HO124 HB; have HO124 := n0_; have HB := n1_; clear n0_ n1_; (try clear hb); (try clear hb2); (try clear hk); (try clear hi)))
   go_ret2
   exact ⟨fi_, bel_ HB.out⟩
  ·rw [if_neg c4] at H
   exact absurd H (by simp)
 ·rw [if_neg c3] at H
  have c3b0 : ((t122.length : Int) == 1) = false := beq_eq_false_iff_ne.mpr c3
  have c3b1 : ((t122.length : Int) != 1) = true := bne_iff_ne.mpr c3
  simp only [Option.some.injEq, Prod.mk.injEq] at H
  obtain ⟨rfl, rfl⟩ := H
  go_enter Tryd.func23, Tryd.ntmps23
  go_wp2_with (first | ((with_reducible refine gate_callee (f := 40) rfl ?_); refine goesL_ (some 8) rfl rfl Tryd.func40 kr_ rfl #[.slice A0 l0.length c0, .string (⟨#[104, 111, 115, 116]⟩ : ByteArray)] rfl rl_ ?_; (with_reducible refine (pairs_All.calls k _ _ l0 (⟨#[104, 111, 115, 116]⟩ : ByteArray) t122 _ ?side1 ?side2 A2.out).mono ?_); (case side1 => exact C_ HR0.out); (case side2 => exact HC0.out); rintro e w9 ⟨v123, rfl, ho0, hb⟩; refine ⟨_, rfl, ?_⟩; have n0_ := am_ (Kd.R_lower ho0 (below_size (bel_ HB.out))); have n1_ := am_ (below_step (bel_ HB.out) hb); clear HB; have HO124 := n0_; have HB := n1_; clear n0_ n1_; (try clear hb); (try clear hb2); (try clear hk); (try clear hi); (try clear ho0); obtain ⟨Ao10, co10, eo10⟩ := Kd.R_slice HO124.out; subst eo10))
  go_ret2
  exact ⟨fi_, bel_ HB.out⟩

/-! ### strings_IndexFunc_with_rule_Method_1: function 43 with 42 -/
def strings_IndexFunc_with_rule_Method_1.p (r : Nat) : Bool := decide (r < 65) || decide (90 < r)
set_option maxHeartbeats 4000000 in
theorem strings_IndexFunc_with_rule_Method_1.at_ : RuneAt Tryd.prog 42 strings_IndexFunc_with_rule_Method_1.p := by
 intro W r
 unfold strings_IndexFunc_with_rule_Method_1.p
 by_cases h1 : r < 65 <;> by_cases h2 : 90 < r
 all_goals
  have z1 : (r : Int) < 65 ↔ r < 65 := by omega
  have z2 : 90 < (r : Int) ↔ 90 < r := by omega
  go_enter Tryd.func42, Tryd.ntmps42
  go_wp2
  all_goals first | (exfalso; omega) | (go_ret; exact ⟨by simp [h1, h2], Below.refl _ _⟩)
def strings_IndexFunc_with_rule_Method_1.f (a0 : ByteArray) : Option (Int) := some (idxRune strings_IndexFunc_with_rule_Method_1.p a0)
theorem strings_IndexFunc_with_rule_Method_1.calls (a0 : ByteArray) (r : Int) (w : World) (h : strings_IndexFunc_with_rule_Method_1.f a0 = some r) :
  Calls Tryd.prog 43 #[.string a0, .func (.func 42) #[] #[]] w fun e w' => e = .returned (.int .i64 r) ∧ Below w.heap.size w w' := by
 obtain rfl := Option.some.inj h
 exact strings_IndexFunc_at 42 (enters_of Tryd.func42 kr_ rfl) _ a0 w strings_IndexFunc_with_rule_Method_1.at_

/-! ### rule_Method: function 24 -/
def rule_Method.f (a0 : ByteArray) : Option (Bool) := if a0.toList = ([] : List UInt8) then (some false) else (if (a0.size : Int) ≤ 10 then ((strings_IndexFunc_with_rule_Method_1.f a0).bind fun t128 => (some (decide (t128 < 0)))) else (some false))
set_option maxHeartbeats 8000000 in
set_option maxRecDepth 100000 in
theorem rule_Method.calls (a0 : ByteArray) (r : Bool) (w : World) (h : rule_Method.f a0 = some r) :
  Calls Tryd.prog 24 #[.string a0] w fun e w' => e = .returned (.bool r) ∧ Below w.heap.size w w' := by
 have HB := am_ (Below.refl w.heap.size w)
 have H : (if a0.toList = ([] : List UInt8) then (some false) else (if (a0.size : Int) ≤ 10 then ((strings_IndexFunc_with_rule_Method_1.f a0).bind fun t128 => (some (decide (t128 < 0)))) else (some false))) = some r := h
 clear h
 by_cases c2 : a0.toList = ([] : List UInt8)
 ·rw [if_pos c2] at H
  have c2b0 : (a0.toList == ([] : List UInt8)) = true := beq_iff_eq.mpr c2
  have c2b1 : (a0.toList != ([] : List UInt8)) = false := bne_eq_false_iff_eq.mpr c2
  clear c2
  obtain rfl := Option.some.inj H
  go_enter Tryd.func24, Tryd.ntmps24
  go_wp2
  go_ret
  exact ⟨fi_, bel_ HB.out⟩
 ·rw [if_neg c2] at H
  have c2b0 : (a0.toList == ([] : List UInt8)) = false := beq_eq_false_iff_ne.mpr c2
  have c2b1 : (a0.toList != ([] : List UInt8)) = true := bne_iff_ne.mpr c2
  by_cases c3 : (a0.size : Int) ≤ 10
  ·rw [if_pos c3] at H
   have c3b0 : decide ((a0.size : Int) ≤ 10) = true := decide_eq_true c3
   have c3b1 : decide (a0.size ≤ 10) = true := decide_eq_true (by omega)
   clear c3
   replace H := Option.bind_eq_some_iff.mp H
   obtain ⟨t128, A40, H⟩ := H
   replace H : (some (decide (t128 < 0))) = some r := H
   have A4 := Aside0.mk A40
   clear A40
   obtain rfl := Option.some.inj H
   go_enter Tryd.func24, Tryd.ntmps24
   go_wp2_with (first | (go_at_call 43; (with_reducible refine (strings_IndexFunc_with_rule_Method_1.calls a0 t128 _ A4.out).mono ?_); rintro e w5 ⟨rfl, hb⟩; have n0_ := am_ (below_step (bel_ HB.out) hb); clear HB; have HB := n0_; clear n0_; (try clear hb); (try clear hb2); (try clear hk); (try clear hi)))
   go_ret
   exact ⟨fi_, bel_ HB.out⟩
  ·rw [if_neg c3] at H
   have c3b0 : decide ((a0.size : Int) ≤ 10) = false := decide_eq_false c3
   have c3b1 : decide (a0.size ≤ 10) = false := decide_eq_false (by omega)
   clear c3
   obtain rfl := Option.some.inj H
   go_enter Tryd.func24, Tryd.ntmps24
   go_wp2
   go_ret
   exact ⟨fi_, bel_ HB.out⟩

/-! ### stringslite_HasPrefix: function 65 -/
def stringslite_HasPrefix.f (a0 : ByteArray) (a1 : ByteArray) : Option (Bool) := if (a0.size : Int) ≥ (a1.size : Int) then (if 0 ≤ (a1.size : Int) then (if (a1.size : Int) ≤ (a0.size : Int) then (some ((a0.extract 0 a1.size).toList == a1.toList)) else (none)) else (none)) else (some false)
set_option maxHeartbeats 8000000 in
set_option maxRecDepth 100000 in
theorem stringslite_HasPrefix.calls (a0 : ByteArray) (a1 : ByteArray) (r : Bool) (w : World) (h : stringslite_HasPrefix.f a0 a1 = some r) :
  Calls Tryd.prog 65 #[.string a0, .string a1] w fun e w' => e = .returned (.bool r) ∧ Drawn0 w w' := by
 have H : (if (a0.size : Int) ≥ (a1.size : Int) then (if 0 ≤ (a1.size : Int) then (if (a1.size : Int) ≤ (a0.size : Int) then (some ((a0.extract 0 a1.size).toList == a1.toList)) else (none)) else (none)) else (some false)) = some r := h
 clear h
 by_cases c3 : (a0.size : Int) ≥ (a1.size : Int)
 ·rw [if_pos c3] at H
  have c3b0 : decide ((a1.size : Int) ≤ (a0.size : Int)) = true := decide_eq_true c3
  have c3b1 : decide (a1.size ≤ a0.size) = true := decide_eq_true (Int.ofNat_le.mp c3)
  clear c3
  by_cases c4 : 0 ≤ (a1.size : Int)
  ·rw [if_pos c4] at H
   have c4b0 := eq_true c4
   have c4b1 : decide (0 ≤ (a1.size : Int)) = true := decide_eq_true c4
   clear c4
   by_cases c5 : (a1.size : Int) ≤ (a0.size : Int)
   ·rw [if_pos c5] at H
    have c5b0 := eq_true c5
    have c5b1 : decide ((a1.size : Int) ≤ (a0.size : Int)) = true := decide_eq_true c5
    clear c5
    obtain rfl := Option.some.inj H
    go_enter Tryd.func65, Tryd.ntmps65
    go_wp2
    go_ret
    exact ⟨by first | rfl | (simp; done) | (simp [*]; done) | (simp [bne_nil_isEmpty, beq_nil_isEmpty]; done) | (simp [*, bne_nil_isEmpty, beq_nil_isEmpty]; done), by repeat (first | exact Drawn0.refl _ | apply Drawn0.step)⟩
   ·rw [if_neg c5] at H
    exact absurd H (by simp)
  ·rw [if_neg c4] at H
   exact absurd H (by simp)
 ·rw [if_neg c3] at H
  have c3b0 : decide ((a1.size : Int) ≤ (a0.size : Int)) = false := decide_eq_false c3
  have c3b1 : decide (a1.size ≤ a0.size) = false := decide_eq_false (fun h => c3 (Int.ofNat_le.mpr h))
  clear c3
  obtain rfl := Option.some.inj H
  go_enter Tryd.func65, Tryd.ntmps65
  go_wp2
  go_ret
  exact ⟨by first | rfl | (simp; done) | (simp [*]; done) | (simp [bne_nil_isEmpty, beq_nil_isEmpty]; done) | (simp [*, bne_nil_isEmpty, beq_nil_isEmpty]; done), by repeat (first | exact Drawn0.refl _ | apply Drawn0.step)⟩

/-! ### strings_HasPrefix: function 44 -/
def strings_HasPrefix.f (a0 : ByteArray) (a1 : ByteArray) : Option (Bool) := (stringslite_HasPrefix.f a0 a1).bind fun t129 => (some t129)
set_option maxHeartbeats 8000000 in
set_option maxRecDepth 100000 in
theorem strings_HasPrefix.calls (a0 : ByteArray) (a1 : ByteArray) (r : Bool) (w : World) (h : strings_HasPrefix.f a0 a1 = some r) :
  Calls Tryd.prog 44 #[.string a0, .string a1] w fun e w' => e = .returned (.bool r) ∧ Drawn0 w w' := by
 have H : ((stringslite_HasPrefix.f a0 a1).bind fun t129 => (some t129)) = some r := h
 clear h
 replace H := Option.bind_eq_some_iff.mp H
 obtain ⟨t129, A30, H⟩ := H
 replace H : (some t129) = some r := H
 have A3 := Aside0.mk A30
 clear A30
 obtain rfl := Option.some.inj H
 go_enter Tryd.func44, Tryd.ntmps44
 go_wp2_with (first | ((with_reducible refine gate_callee (f := 65) rfl ?_); refine goesL_ (some 7) rfl rfl Tryd.func65 kr_ rfl #[.string a0, .string a1] rfl rl_ ?_; (with_reducible refine (stringslite_HasPrefix.calls a0 a1 t129 _ A3.out).mono ?_); rintro e w' ⟨rfl, ⟨nd, rfl⟩⟩; refine ⟨_, rfl, ?_⟩))
 go_ret
 exact ⟨by first | rfl | (simp; done) | (simp [*]; done) | (simp [bne_nil_isEmpty, beq_nil_isEmpty]; done) | (simp [*, bne_nil_isEmpty, beq_nil_isEmpty]; done), by repeat (first | exact Drawn0.refl _ | apply Drawn0.step)⟩

/-! ### path_Is: function 25 -/
def path_Is.ok (c : UInt8) : Bool := decide (33 ≤ c.toNat) && (decide (c.toNat ≤ 126) && (c.toNat != 63 && c.toNat != 35))
def path_Is.f (a0 : ByteArray) : Option (Bool) := if a0.data.toList.all path_Is.ok = true then ((strings_HasPrefix.f a0 (⟨#[47]⟩ : ByteArray)).bind fun t => (if t = true then (some (decide ((a0.size : Int) ≤ 60))) else (some false))) else (some false)
theorem path_Is.take_succ (s : ByteArray) (pos : Nat) (h : pos < s.size) (ha : (s.data.toList.take pos).all path_Is.ok = true) (hc : path_Is.ok (s[pos]'h) = true) : (s.data.toList.take (pos + 1)).all path_Is.ok = true := by
 rw [List.take_succ_eq_append_getElem (by simpa using h), List.all_append, ha]
 simp only [List.all_cons, List.all_nil, Bool.and_true, Bool.true_and]
 exact hc
theorem path_Is.not_all (s : ByteArray) (pos : Nat) (h : pos < s.size) (hc : ¬ path_Is.ok (s[pos]'h) = true) : ¬ s.data.toList.all path_Is.ok = true := by
 intro ha
 exact hc (List.all_eq_true.1 ha _ (List.getElem_mem (l := s.data.toList) (n := pos) (by simpa using h)))
theorem path_Is.bad_rune (s : ByteArray) (pos : Nat) (h : pos < s.size) (hc : ¬ path_Is.ok (s[pos]'h) = true) :
  (Utf8.decode s pos).1 < 33 ∨ (33 ≤ (Utf8.decode s pos).1 ∧ 126 < (Utf8.decode s pos).1) ∨ (Utf8.decode s pos).1 = 63 ∨ (Utf8.decode s pos).1 = 35 := by
 by_cases ha : (s[pos]'h).toNat < 128
 ·rw [decode_ascii s pos h ha]
  simp only [path_Is.ok, Bool.and_eq_true, decide_eq_true_eq, bne_iff_ne, not_and] at hc
  omega
 ·have := (decode_high s pos h (by omega)).1
  omega
set_option maxHeartbeats 8000000 in
set_option maxRecDepth 100000 in
theorem path_Is.calls (a0 : ByteArray) (r : Bool) (w : World) (h : path_Is.f a0 = some r) :
  Calls Tryd.prog 25 #[.string a0] w fun e w' => e = .returned (.bool r) ∧ Below w.heap.size w w' := by
 have H := Aside0.mk h
 clear h
 go_enter Tryd.func25, Tryd.ntmps25
 go_wp2
 go_loopw [] (fun wr => ∃ pos : Nat, wr = w.iter a0 pos ∧ pos ≤ a0.size ∧ (a0.data.toList.take pos).all path_Is.ok = true) (fun wr => a0.size - wr.iterPos w.heap.size)
 case atStart => exact ⟨0, rfl, by omega, by simp⟩
 case round =>
  obtain ⟨pos, rfl, hle, hall0⟩ := hrel
  have hall := Aside0.mk hall0
  clear hall0
  by_cases hp : pos < a0.size
  ·by_cases hc : path_Is.ok (a0[pos]'hp) = true
   ·have hc' := hc
    simp only [path_Is.ok, Bool.and_eq_true, decide_eq_true_eq, bne_iff_ne] at hc'
    obtain ⟨h1, h2, h3, h4⟩ := hc'
    have hnx := fun ty => run_next_ascii (P := Tryd.prog) w a0 pos ty hp (by omega)
    have hs := am_ (path_Is.take_succ a0 pos hp hall.out hc)
    clear hc hall
    have b1 : decide (((a0[pos]'hp).toNat : Int) < 33) = false := decide_eq_false (by omega)
    have b2 : decide (126 < ((a0[pos]'hp).toNat : Int)) = false := decide_eq_false (by omega)
    have b3 : (((a0[pos]'hp).toNat : Int) == 63) = false := beq_eq_false_iff_ne.2 (by omega)
    have b4 : (((a0[pos]'hp).toNat : Int) == 35) = false := beq_eq_false_iff_ne.2 (by omega)
    clear h1 h2 h3 h4
    go_wp2
    go_roundw
    case rel => exact ⟨pos + 1, rfl, by omega, hs.out⟩
    case measure => simp [World.iterPos_iter]; omega
   ·have hbad := path_Is.bad_rune a0 pos hp hc
    have hr : r = false := by
     have := H.out
     rw [path_Is.f, if_neg (path_Is.not_all a0 pos hp hc)] at this
     exact (Option.some.inj this).symm
    subst hr
    clear H hall hc
    have hnx := fun ty => run_next_any (P := Tryd.prog) w a0 pos ty hp
    generalize (Utf8.decode a0 pos).1 = c at hnx hbad
    generalize (Utf8.decode a0 pos).2 = n at hnx
    by_cases h1 : c < 33
    ·have b1 : decide ((c : Int) < 33) = true := decide_eq_true (by omega)
     clear hbad h1
     go_wp2
     go_ret
     exact ⟨rfl, (Below.refl _ w).alloc (Nat.le_refl _) _⟩
    ·have b1 : decide ((c : Int) < 33) = false := decide_eq_false (by omega)
     by_cases h2 : 126 < c
     ·have b2 : decide (126 < (c : Int)) = true := decide_eq_true (by omega)
      clear hbad h1 h2
      go_wp2
      go_ret
      exact ⟨rfl, (Below.refl _ w).alloc (Nat.le_refl _) _⟩
     ·have b2 : decide (126 < (c : Int)) = false := decide_eq_false (by omega)
      by_cases h3 : c = 63
      ·subst h3
       clear hbad h1 h2 b1 b2
       go_wp2
       go_ret
       exact ⟨rfl, (Below.refl _ w).alloc (Nat.le_refl _) _⟩
      ·obtain rfl : c = 35 := by omega
       clear hbad h1 h2 b1 b2 h3
       go_wp2
       go_ret
       exact ⟨rfl, (Below.refl _ w).alloc (Nat.le_refl _) _⟩
  ·have hnx := fun ty => run_next_end (P := Tryd.prog) w a0 pos ty hp
   have ha : a0.data.toList.all path_Is.ok = true := by
    have := hall.out
    rwa [List.take_of_length_le (by simp; omega)] at this
   have H2 := H.out
   clear H hall
   rw [path_Is.f, if_pos ha] at H2
   clear ha
   obtain ⟨t, ht, H2⟩ := Option.bind_eq_some_iff.1 H2
   have HT := Aside0.mk ht
   clear ht
   cases t
   ·rw [if_neg (by simp)] at H2
    obtain rfl := Option.some.inj H2
    clear H2
    go_wp2_with ((with_reducible refine (strings_HasPrefix.calls a0 _ false _ HT.out).mono ?_); rintro e w' ⟨rfl, ⟨nd, rfl⟩⟩)
    go_ret
    exact ⟨rfl, by repeat (first | (with_reducible first | exact Below.refl _ _ | apply below_alloc | apply pw_below_drewN | apply below_drew1 | apply World.iter) | exact (Below.refl _ w).alloc (Nat.le_refl _) _)⟩
   ·rw [if_pos rfl] at H2
    obtain rfl := Option.some.inj H2
    clear H2
    go_wp2_with ((with_reducible refine (strings_HasPrefix.calls a0 _ true _ HT.out).mono ?_); rintro e w' ⟨rfl, ⟨nd, rfl⟩⟩)
    go_ret
    exact ⟨by simp, by repeat (first | (with_reducible first | exact Below.refl _ _ | apply below_alloc | apply pw_below_drewN | apply below_drew1 | apply World.iter) | exact (Below.refl _ w).alloc (Nat.le_refl _) _)⟩

/-! ### stringslite_Cut: function 78 -/
def stringslite_Cut.f (k : Nat) (a0 : ByteArray) (a1 : ByteArray) : Option (ByteArray × ByteArray × Bool) := (stringslite_Index.f k a0 a1).bind fun t130 => (if t130 ≥ 0 then (if 0 ≤ t130 then (if t130 ≤ (a0.size : Int) then (if 0 ≤ (wrap64 (t130 + (a1.size : Int))) then (if (wrap64 (t130 + (a1.size : Int))) ≤ (a0.size : Int) then (some (a0.extract 0 (t130 : Int).toNat, a0.extract ((wrap64 (t130 + (a1.size : Int))) : Int).toNat a0.size, true)) else (none)) else (none)) else (none)) else (none)) else (some (a0, (⟨#[]⟩ : ByteArray), false)))
theorem stringslite_Cut.mono : ∀ a0 a1 k, LeO (stringslite_Cut.f k a0 a1) (stringslite_Cut.f (k + 1) a0 a1) := by
 intro a0 a1 k
 unfold stringslite_Cut.f
 repeat' first
   | (with_reducible exact stringslite_Index.mono _ _ _)
   | (with_reducible exact LeO.refl _)
   | (with_reducible exact LeO.none _)
   | (with_reducible refine LeO.ite ?_ ?_)
   | (with_reducible refine LeO.bind ?_ (fun _ => ?_))
   | exact stringslite_Index.mono _ _ _
   | exact LeO.none _
   | refine LeO.ite ?_ ?_
   | refine LeO.bind ?_ (fun _ => ?_)
set_option maxHeartbeats 8000000 in
set_option maxRecDepth 100000 in
theorem stringslite_Cut.calls (k : Nat) (a0 : ByteArray) (a1 : ByteArray) (r1 : ByteArray) (r2 : ByteArray) (r3 : Bool) (w : World) (h : stringslite_Cut.f k a0 a1 = some (r1, r2, r3)) :
  Calls Tryd.prog 78 #[.string a0, .string a1] w fun e w' => e = .returned (.tuple #[.string r1, .string r2, .bool r3]) ∧ Drawn0 w w' := by
 have H : ((stringslite_Index.f k a0 a1).bind fun t130 => (if t130 ≥ 0 then (if 0 ≤ t130 then (if t130 ≤ (a0.size : Int) then (if 0 ≤ (wrap64 (t130 + (a1.size : Int))) then (if (wrap64 (t130 + (a1.size : Int))) ≤ (a0.size : Int) then (some (a0.extract 0 (t130 : Int).toNat, a0.extract ((wrap64 (t130 + (a1.size : Int))) : Int).toNat a0.size, true)) else (none)) else (none)) else (none)) else (none)) else (some (a0, (⟨#[]⟩ : ByteArray), false)))) = some (r1, r2, r3) := h
 clear h
 replace H := Option.bind_eq_some_iff.mp H
 obtain ⟨t130, A30, H⟩ := H
 replace H : (if t130 ≥ 0 then (if 0 ≤ t130 then (if t130 ≤ (a0.size : Int) then (if 0 ≤ (wrap64 (t130 + (a1.size : Int))) then (if (wrap64 (t130 + (a1.size : Int))) ≤ (a0.size : Int) then (some (a0.extract 0 (t130 : Int).toNat, a0.extract ((wrap64 (t130 + (a1.size : Int))) : Int).toNat a0.size, true)) else (none)) else (none)) else (none)) else (none)) else (some (a0, (⟨#[]⟩ : ByteArray), false))) = some (r1, r2, r3) := H
 have A3 := Aside0.mk A30
 clear A30
 by_cases c4 : t130 ≥ 0
 ·rw [if_pos c4] at H
  have c4b0 : decide (0 ≤ t130) = true := decide_eq_true c4
  clear c4
  by_cases c5 : 0 ≤ t130
  ·rw [if_pos c5] at H
   have c5b0 := eq_true c5
   have c5b1 : decide (0 ≤ t130) = true := decide_eq_true c5
   clear c5
   by_cases c6 : t130 ≤ (a0.size : Int)
   ·rw [if_pos c6] at H
    have c6b0 := eq_true c6
    have c6b1 : decide (t130 ≤ (a0.size : Int)) = true := decide_eq_true c6
    clear c6
    obtain ⟨ji7, hji7⟩ : ∃ j_ : Int, (wrap64 (t130 + (a1.size : Int))) = j_ := ⟨_, rfl⟩
    replace H : (if 0 ≤ (ji7) then (if (ji7) ≤ (a0.size : Int) then (some (a0.extract 0 (t130 : Int).toNat, a0.extract ((ji7) : Int).toNat a0.size, true)) else (none)) else (none)) = some (r1, r2, r3) := by first | (rw [hji7] at H; exact H) | (simp only [hji7] at H ⊢; exact H)
    (try rw [hji7] at A3)
    have hji7w : (IntKind.i64.wrap (t130 + (a1.size : Int))) = ji7 := (i64_w _).trans hji7
    by_cases c8 : 0 ≤ (ji7)
    ·rw [if_pos c8] at H
     have c8b0 := eq_true c8
     have c8b1 : decide (0 ≤ (ji7)) = true := decide_eq_true c8
     clear c8
     by_cases c9 : (ji7) ≤ (a0.size : Int)
     ·rw [if_pos c9] at H
      have c9b0 := eq_true c9
      have c9b1 : decide ((ji7) ≤ (a0.size : Int)) = true := decide_eq_true c9
      clear c9
      simp only [Option.some.injEq, Prod.mk.injEq] at H
      obtain ⟨rfl, rfl, rfl⟩ := H
      go_enter Tryd.func78, Tryd.ntmps78
      go_wp2_with (first | (go_at_call 33; (with_reducible refine (stringslite_Index.calls k a0 a1 t130 _ A3.out).mono ?_); rintro e w' ⟨rfl, ⟨nd, rfl⟩⟩; (try first | exact ⟨rfl, _, World.drewN_drewN _ _ _⟩ | exact ⟨rfl, _, Eq.trans (World.drewN_drewN _ _ _) (congrArg (World.drewN _) (Nat.add_assoc _ _ _))⟩)))
      repeat (go_quiet (first | (go_at_call 33; (with_reducible refine (stringslite_Index.calls k a0 a1 t130 _ A3.out).mono ?_); rintro e w' ⟨rfl, ⟨nd, rfl⟩⟩; (try first | exact ⟨rfl, _, World.drewN_drewN _ _ _⟩ | exact ⟨rfl, _, Eq.trans (World.drewN_drewN _ _ _) (congrArg (World.drewN _) (Nat.add_assoc _ _ _))⟩))); try go_wp2_with (first | (go_at_call 33; (with_reducible refine (stringslite_Index.calls k a0 a1 t130 _ A3.out).mono ?_); rintro e w' ⟨rfl, ⟨nd, rfl⟩⟩; (try first | exact ⟨rfl, _, World.drewN_drewN _ _ _⟩ | exact ⟨rfl, _, Eq.trans (World.drewN_drewN _ _ _) (congrArg (World.drewN _) (Nat.add_assoc _ _ _))⟩))))
      go_ret3
      exact ⟨by first | rfl | (simp; done) | (simp only [← hji7] <;> (first | rfl | simp)) | (simp [*]; done), by repeat (first | exact Drawn0.refl _ | apply Drawn0.step)⟩
     ·rw [if_neg c9] at H
      exact absurd H (by simp)
    ·rw [if_neg c8] at H
     exact absurd H (by simp)
   ·rw [if_neg c6] at H
    exact absurd H (by simp)
  ·rw [if_neg c5] at H
   exact absurd H (by simp)
 ·rw [if_neg c4] at H
  have c4b0 : decide (0 ≤ t130) = false := decide_eq_false c4
  clear c4
  simp only [Option.some.injEq, Prod.mk.injEq] at H
  obtain ⟨rfl, rfl, rfl⟩ := H
  go_enter Tryd.func78, Tryd.ntmps78
  go_wp2_with (first | (go_at_call 33; (with_reducible refine (stringslite_Index.calls k a0 a1 t130 _ A3.out).mono ?_); rintro e w' ⟨rfl, ⟨nd, rfl⟩⟩; (try first | exact ⟨rfl, _, World.drewN_drewN _ _ _⟩ | exact ⟨rfl, _, Eq.trans (World.drewN_drewN _ _ _) (congrArg (World.drewN _) (Nat.add_assoc _ _ _))⟩)))
  repeat (go_quiet (first | (go_at_call 33; (with_reducible refine (stringslite_Index.calls k a0 a1 t130 _ A3.out).mono ?_); rintro e w' ⟨rfl, ⟨nd, rfl⟩⟩; (try first | exact ⟨rfl, _, World.drewN_drewN _ _ _⟩ | exact ⟨rfl, _, Eq.trans (World.drewN_drewN _ _ _) (congrArg (World.drewN _) (Nat.add_assoc _ _ _))⟩))); try go_wp2_with (first | (go_at_call 33; (with_reducible refine (stringslite_Index.calls k a0 a1 t130 _ A3.out).mono ?_); rintro e w' ⟨rfl, ⟨nd, rfl⟩⟩; (try first | exact ⟨rfl, _, World.drewN_drewN _ _ _⟩ | exact ⟨rfl, _, Eq.trans (World.drewN_drewN _ _ _) (congrArg (World.drewN _) (Nat.add_assoc _ _ _))⟩))))
  go_ret3
  exact ⟨by first | rfl | (simp; done) | (simp [*]; done) | (simp [bne_nil_isEmpty, beq_nil_isEmpty]; done) | (simp [*, bne_nil_isEmpty, beq_nil_isEmpty]; done), by repeat (first | exact Drawn0.refl _ | apply Drawn0.step)⟩

/-! ### strings_Cut: function 53 -/
def strings_Cut.f (k : Nat) (a0 : ByteArray) (a1 : ByteArray) : Option (ByteArray × ByteArray × Bool) := (stringslite_Cut.f k a0 a1).bind fun bt131 => (some (bt131.1, bt131.2.1, bt131.2.2))
theorem strings_Cut.mono : ∀ a0 a1 k, LeO (strings_Cut.f k a0 a1) (strings_Cut.f (k + 1) a0 a1) := by
 intro a0 a1 k
 unfold strings_Cut.f
 repeat' first
   | (with_reducible exact stringslite_Cut.mono _ _ _)
   | (with_reducible exact LeO.refl _)
   | (with_reducible exact LeO.none _)
   | (with_reducible refine LeO.ite ?_ ?_)
   | (with_reducible refine LeO.bind ?_ (fun _ => ?_))
   | exact stringslite_Cut.mono _ _ _
   | exact LeO.none _
   | refine LeO.ite ?_ ?_
   | refine LeO.bind ?_ (fun _ => ?_)
set_option maxHeartbeats 8000000 in
set_option maxRecDepth 100000 in
theorem strings_Cut.calls (k : Nat) (a0 : ByteArray) (a1 : ByteArray) (r1 : ByteArray) (r2 : ByteArray) (r3 : Bool) (w : World) (h : strings_Cut.f k a0 a1 = some (r1, r2, r3)) :
  Calls Tryd.prog 53 #[.string a0, .string a1] w fun e w' => e = .returned (.tuple #[.string r1, .string r2, .bool r3]) ∧ Drawn0 w w' := by
 have H : ((stringslite_Cut.f k a0 a1).bind fun bt131 => (some (bt131.1, bt131.2.1, bt131.2.2))) = some (r1, r2, r3) := h
 clear h
 replace H := Option.bind_eq_some_iff.mp H
 obtain ⟨⟨t131, t132, t133⟩, A30, H⟩ := H
 replace H : (some (t131, t132, t133)) = some (r1, r2, r3) := H
 have A3 := Aside0.mk A30
 clear A30
 simp only [Option.some.injEq, Prod.mk.injEq] at H
 obtain ⟨rfl, rfl, rfl⟩ := H
 go_enter Tryd.func53, Tryd.ntmps53
 go_wp2_with (first | ((with_reducible refine gate_callee (f := 78) rfl ?_); refine goesL_ (some 9) rfl rfl Tryd.func78 kr_ rfl #[.string a0, .string a1] rfl rl_ ?_; (with_reducible refine (stringslite_Cut.calls k a0 a1 t131 t132 t133 _ A3.out).mono ?_); rintro e w' ⟨rfl, ⟨nd, rfl⟩⟩; refine ⟨_, rfl, ?_⟩))
 go_ret3
 exact ⟨by first | rfl | (simp; done) | (simp [*]; done) | (simp [bne_nil_isEmpty, beq_nil_isEmpty]; done) | (simp [*, bne_nil_isEmpty, beq_nil_isEmpty]; done), by repeat (first | exact Drawn0.refl _ | apply Drawn0.step)⟩

/-! ### query_May: function 37 -/
def query_May.l0 : Nat → List (S35) → List (S35) → Int → Int → Option (Bool)
 | 0, _, _, _, _ => none
 | k + 1, x0, x5, x6, x7 => if x7 < x6 then (if 0 ≤ x7 then (if x7 < (x5.length : Int) then (if ((rd_T35 x5 x7).f0).toList = ([] : List UInt8) then (some false) else (if (((rd_T35 x5 x7).f0).size : Int) > 40 then (some false) else (if (((rd_T35 x5 x7).f1).size : Int) > 40 then (some false) else (query_May.l0 k x0 x5 x6 (wrap64 (x7 + 1)))))) else (none)) else (none)) else (some (decide ((x0.length : Int) ≤ 20)))
def query_May.f (k : Nat) (l0 : List (S35)) : Option (Bool) := query_May.l0 k l0 l0 (l0.length : Int) 0
theorem query_May.mono_l : ∀ k, (∀ y0 y1 y2 y3, LeO (query_May.l0 k y0 y1 y2 y3) (query_May.l0 (k + 1) y0 y1 y2 y3))
 | 0 => fun _ _ _ _ r h => by simp [query_May.l0] at h
 | k + 1 => by
  have ih0 := query_May.mono_l k
  ·intro y0 y1 y2 y3
   unfold query_May.l0
   repeat' first
   | (with_reducible exact ih0 _ _ _ _)
   | (with_reducible exact LeO.refl _)
   | (with_reducible exact LeO.none _)
   | (with_reducible refine LeO.ite ?_ ?_)
   | (with_reducible refine LeO.bind ?_ (fun _ => ?_))
   | exact ih0 _ _ _ _
   | exact LeO.none _
   | refine LeO.ite ?_ ?_
   | refine LeO.bind ?_ (fun _ => ?_)
theorem query_May.mono : ∀ a0 k, LeO (query_May.f k a0) (query_May.f (k + 1) a0) := by
 intro a0 k
 have ih0 := query_May.mono_l k
 unfold query_May.f
 repeat' first
   | (with_reducible exact ih0 _ _ _ _)
   | (with_reducible exact LeO.refl _)
   | (with_reducible exact LeO.none _)
   | (with_reducible refine LeO.ite ?_ ?_)
   | (with_reducible refine LeO.bind ?_ (fun _ => ?_))
   | exact ih0 _ _ _ _
   | exact LeO.none _
   | refine LeO.ite ?_ ?_
   | refine LeO.bind ?_ (fun _ => ?_)
set_option maxHeartbeats 8000000 in
set_option maxRecDepth 100000 in
theorem query_May.calls (k : Nat) (A0 : Option Addr) (c0 : Nat) (l0 : List (S35)) (r : Bool) (w : World) (hr0 : Kd.C k35 w A0 l0.length l0) (hc0 : l0.length ≤ c0) (h : query_May.f k l0 = some r) :
  Calls Tryd.prog 37 #[.slice A0 l0.length c0] w fun e w' => e = .returned (.bool r) ∧ Below w.heap.size w w' := by
 have hu35 := Tryd.underlying35
 have HR0 := Aside0.mk hr0
 have HC0 := Aside0.mk hc0
 clear hr0 hc0
 have HB := am_ (Below.refl w.heap.size w)
 have H : (query_May.l0 k l0 l0 (l0.length : Int) 0) = some r := h
 clear h
 have H' := Aside0.mk H
 clear H
 go_enter Tryd.func37, Tryd.ntmps37
 go_wp2
 go_loopg [7] k (fun kq v7 w' => ∃ (x7_1 : Int), v7 = .int .i64 x7_1 ∧ Aside0 (query_May.l0 kq l0 l0 (l0.length : Int) x7_1 = some r) ∧ Aside0 (kq ≤ k) ∧ Aside0 (Below w.heap.size w w'))
 case atStart => exact ⟨(0), sd_, H', ⟨Nat.le_refl _⟩, ⟨bel_ HB.out⟩⟩
 case round =>
  clear H'
  obtain ⟨x7_1, rfl, HA, HK1, HB⟩ := hrel
  cases gk with
  | zero => exact absurd HA.out (by simp [query_May.l0])
  | succ k1 =>
   have H := HA.out
   clear HA
   simp only [query_May.l0] at H
   by_cases c2 : x7_1 < (l0.length : Int)
   ·rw [if_pos c2] at H
    have c2b0 : decide (x7_1 < (l0.length : Int)) = true := decide_eq_true c2
    clear c2
    by_cases c3 : 0 ≤ x7_1
    ·rw [if_pos c3] at H
     have c3b0 : decide (0 ≤ x7_1) = true := decide_eq_true c3
     clear c3
     by_cases c4 : x7_1 < (l0.length : Int)
     ·rw [if_pos c4] at H
      have c4b0 : decide (x7_1 < (l0.length : Int)) = true := decide_eq_true c4
      clear c4
      by_cases c5 : ((rd_T35 l0 x7_1).f0).toList = ([] : List UInt8)
      ·rw [if_pos c5] at H
       have c5b0 : (((rd_T35 l0 x7_1).f0).toList == ([] : List UInt8)) = true := beq_iff_eq.mpr c5
       have c5b1 : (((rd_T35 l0 x7_1).f0).toList != ([] : List UInt8)) = false := bne_eq_false_iff_eq.mpr c5
       clear c5
       obtain rfl := Option.some.inj H
       have p134 : 0 ≤ (x7_1 : Int) := of_decide_eq_true as_
       have q134 : x7_1 < (l0.length : Int) := of_decide_eq_true as_
       obtain ⟨ad134, e134, hx134_0, hx134_1⟩ := at_T35 HR0.out x7_1 p134 q134
       cases e134
       replace hx134_0 := (HB.out.cell (World.block_lt_of_cell? w _ hx134_0)).trans hx134_0
       replace hx134_1 := (HB.out.cell (World.block_lt_of_cell? w _ hx134_1)).trans hx134_1
       replace p134 := eq_true p134
       replace q134 := eq_true q134
       go_wp2_with (first | ((with_reducible refine gate_dst (N := 4) rfl ?_); (try (refine gate_guard (by rfl) ?_; dsimp only)); refine box_event ?hg (N := 4) ?hd (cs := #[.string (⟨#[]⟩ : ByteArray), .string (⟨#[]⟩ : ByteArray)]) (t := 35) ?hr ?_; (case hd => rfl); (case hg => rfl); (case hr => first | (go_simp; done) | (go_simp; rfl)); intro gb135 hg w6 hbox hb; have n0_ := am_ (below_step (bel_ HB.out) hb); have n1_ := am_ (hbox); have n2_ := am_ ((by rw [hg]; exact (below_size (bel_ HB.out)) : w.heap.size ≤ gb135)); have n3_ := am_ ((by rw [hg]; exact (below_size (bel_ HB.out)) : w.heap.size ≤ gb135)); clear HB; have HB := n0_; have BK135 := n1_; have GW135 := n2_; have GE135 := n3_; clear n0_ n1_ n2_ n3_ hb hbox hg; have hcz7_0 : w6.cell? ⟨gb135, 0, none⟩ = some (.string (⟨#[]⟩ : ByteArray)) := (blk_cell BK135.out 0).trans rfl; have hcz7_1 : w6.cell? ⟨gb135, 1, none⟩ = some (.string (⟨#[]⟩ : ByteArray)) := (blk_cell BK135.out 1).trans rfl; have hfz7_0 := blk_frozen BK135.out 0; have hfz7_1 := blk_frozen BK135.out 1))
       go_ret
       exact ⟨fi_, bel_ HB.out⟩
      ·rw [if_neg c5] at H
       have c5b0 : (((rd_T35 l0 x7_1).f0).toList == ([] : List UInt8)) = false := beq_eq_false_iff_ne.mpr c5
       have c5b1 : (((rd_T35 l0 x7_1).f0).toList != ([] : List UInt8)) = true := bne_iff_ne.mpr c5
       by_cases c8 : (((rd_T35 l0 x7_1).f0).size : Int) > 40
       ·rw [if_pos c8] at H
        have c8b0 : decide (40 < (((rd_T35 l0 x7_1).f0).size : Int)) = true := decide_eq_true c8
        have c8b1 : decide (40 < ((rd_T35 l0 x7_1).f0).size) = true := decide_eq_true (by omega)
        clear c8
        obtain rfl := Option.some.inj H
        have p134 : 0 ≤ (x7_1 : Int) := of_decide_eq_true as_
        have q134 : x7_1 < (l0.length : Int) := of_decide_eq_true as_
        obtain ⟨ad134, e134, hx134_0, hx134_1⟩ := at_T35 HR0.out x7_1 p134 q134
        cases e134
        replace hx134_0 := (HB.out.cell (World.block_lt_of_cell? w _ hx134_0)).trans hx134_0
        replace hx134_1 := (HB.out.cell (World.block_lt_of_cell? w _ hx134_1)).trans hx134_1
        replace p134 := eq_true p134
        replace q134 := eq_true q134
        go_wp2_with (first | ((with_reducible refine gate_dst (N := 4) rfl ?_); (try (refine gate_guard (by rfl) ?_; dsimp only)); refine box_event ?hg (N := 4) ?hd (cs := #[.string (⟨#[]⟩ : ByteArray), .string (⟨#[]⟩ : ByteArray)]) (t := 35) ?hr ?_; (case hd => rfl); (case hg => rfl); (case hr => first | (go_simp; done) | (go_simp; rfl)); intro gb135 hg w9 hbox hb; have n0_ := am_ (below_step (bel_ HB.out) hb); have n1_ := am_ (hbox); have n2_ := am_ ((by rw [hg]; exact (below_size (bel_ HB.out)) : w.heap.size ≤ gb135)); have n3_ := am_ ((by rw [hg]; exact (below_size (bel_ HB.out)) : w.heap.size ≤ gb135)); clear HB; have HB := n0_; have BK135 := n1_; have GW135 := n2_; have GE135 := n3_; clear n0_ n1_ n2_ n3_ hb hbox hg; have hcz10_0 : w9.cell? ⟨gb135, 0, none⟩ = some (.string (⟨#[]⟩ : ByteArray)) := (blk_cell BK135.out 0).trans rfl; have hcz10_1 : w9.cell? ⟨gb135, 1, none⟩ = some (.string (⟨#[]⟩ : ByteArray)) := (blk_cell BK135.out 1).trans rfl; have hfz10_0 := blk_frozen BK135.out 0; have hfz10_1 := blk_frozen BK135.out 1))
        go_ret
        exact ⟨fi_, bel_ HB.out⟩
       ·rw [if_neg c8] at H
        have c8b0 : decide (40 < (((rd_T35 l0 x7_1).f0).size : Int)) = false := decide_eq_false c8
        have c8b1 : decide (40 < ((rd_T35 l0 x7_1).f0).size) = false := decide_eq_false (by omega)
        clear c8
        by_cases c11 : (((rd_T35 l0 x7_1).f1).size : Int) > 40
        ·rw [if_pos c11] at H
         have c11b0 : decide (40 < (((rd_T35 l0 x7_1).f1).size : Int)) = true := decide_eq_true c11
         have c11b1 : decide (40 < ((rd_T35 l0 x7_1).f1).size) = true := decide_eq_true (by omega)
         clear c11
         obtain rfl := Option.some.inj H
         have p134 : 0 ≤ (x7_1 : Int) := of_decide_eq_true as_
         have q134 : x7_1 < (l0.length : Int) := of_decide_eq_true as_
         obtain ⟨ad134, e134, hx134_0, hx134_1⟩ := at_T35 HR0.out x7_1 p134 q134
         cases e134
         replace hx134_0 := (HB.out.cell (World.block_lt_of_cell? w _ hx134_0)).trans hx134_0
         replace hx134_1 := (HB.out.cell (World.block_lt_of_cell? w _ hx134_1)).trans hx134_1
         replace p134 := eq_true p134
         replace q134 := eq_true q134
         go_wp2_with (first | ((with_reducible refine gate_dst (N := 4) rfl ?_); (try (refine gate_guard (by rfl) ?_; dsimp only)); refine box_event ?hg (N := 4) ?hd (cs := #[.string (⟨#[]⟩ : ByteArray), .string (⟨#[]⟩ : ByteArray)]) (t := 35) ?hr ?_; (case hd => rfl); (case hg => rfl); (case hr => first | (go_simp; done) | (go_simp; rfl)); intro gb135 hg w12 hbox hb; have n0_ := am_ (below_step (bel_ HB.out) hb); have n1_ := am_ (hbox); have n2_ := am_ ((by rw [hg]; exact (below_size (bel_ HB.out)) : w.heap.size ≤ gb135)); have n3_ := am_ ((by rw [hg]; exact (below_size (bel_ HB.out)) : w.heap.size ≤ gb135)); clear HB; have HB := n0_; have BK135 := n1_; have GW135 := n2_; have GE135 := n3_; clear n0_ n1_ n2_ n3_ hb hbox hg; have hcz13_0 : w12.cell? ⟨gb135, 0, none⟩ = some (.string (⟨#[]⟩ : ByteArray)) := (blk_cell BK135.out 0).trans rfl; have hcz13_1 : w12.cell? ⟨gb135, 1, none⟩ = some (.string (⟨#[]⟩ : ByteArray)) := (blk_cell BK135.out 1).trans rfl; have hfz13_0 := blk_frozen BK135.out 0; have hfz13_1 := blk_frozen BK135.out 1))
         go_ret
         exact ⟨fi_, bel_ HB.out⟩
        ·rw [if_neg c11] at H
         have c11b0 : decide (40 < (((rd_T35 l0 x7_1).f1).size : Int)) = false := decide_eq_false c11
         have c11b1 : decide (40 < ((rd_T35 l0 x7_1).f1).size) = false := decide_eq_false (by omega)
         clear c11
         have H' := Aside0.mk H
         clear H
         have p134 : 0 ≤ (x7_1 : Int) := of_decide_eq_true as_
         have q134 : x7_1 < (l0.length : Int) := of_decide_eq_true as_
         obtain ⟨ad134, e134, hx134_0, hx134_1⟩ := at_T35 HR0.out x7_1 p134 q134
         cases e134
         replace hx134_0 := (HB.out.cell (World.block_lt_of_cell? w _ hx134_0)).trans hx134_0
         replace hx134_1 := (HB.out.cell (World.block_lt_of_cell? w _ hx134_1)).trans hx134_1
         replace p134 := eq_true p134
         replace q134 := eq_true q134
         go_wp2_with (first | ((with_reducible refine gate_dst (N := 4) rfl ?_); (try (refine gate_guard (by rfl) ?_; dsimp only)); refine box_event ?hg (N := 4) ?hd (cs := #[.string (⟨#[]⟩ : ByteArray), .string (⟨#[]⟩ : ByteArray)]) (t := 35) ?hr ?_; (case hd => rfl); (case hg => rfl); (case hr => first | (go_simp; done) | (go_simp; rfl)); intro gb135 hg w14 hbox hb; have n0_ := am_ (below_step (bel_ HB.out) hb); have n1_ := am_ (hbox); have n2_ := am_ ((by rw [hg]; exact (below_size (bel_ HB.out)) : w.heap.size ≤ gb135)); have n3_ := am_ ((by rw [hg]; exact (below_size (bel_ HB.out)) : w.heap.size ≤ gb135)); clear HB; have HB := n0_; have BK135 := n1_; have GW135 := n2_; have GE135 := n3_; clear n0_ n1_ n2_ n3_ hb hbox hg; have hcz15_0 : w14.cell? ⟨gb135, 0, none⟩ = some (.string (⟨#[]⟩ : ByteArray)) := (blk_cell BK135.out 0).trans rfl; have hcz15_1 : w14.cell? ⟨gb135, 1, none⟩ = some (.string (⟨#[]⟩ : ByteArray)) := (blk_cell BK135.out 1).trans rfl; have hfz15_0 := blk_frozen BK135.out 0; have hfz15_1 := blk_frozen BK135.out 1))
         go_roundg k1
         case measure => have := HK1.out; omega
         case rel => exact ⟨(wrap64 (x7_1 + 1)), sd_, H', ⟨by have := HK1.out; omega⟩, ⟨bel_ HB.out⟩⟩
     ·rw [if_neg c4] at H
      exact absurd H (by simp)
    ·rw [if_neg c3] at H
     exact absurd H (by simp)
   ·rw [if_neg c2] at H
    have c2b0 : decide (x7_1 < (l0.length : Int)) = false := decide_eq_false c2
    clear c2
    obtain rfl := Option.some.inj H
    go_wp2
    go_ret
    exact ⟨fi_, bel_ HB.out⟩

/-! ### query_digit: function 88 -/
def query_digit.f (a0 : Int) : Option (Int) := if a0 ≥ 97 then (if a0 ≤ 102 then ((strings_IndexByte.f (⟨#[48, 49, 50, 51, 52, 53, 54, 55, 56, 57, 65, 66, 67, 68, 69, 70]⟩ : ByteArray) ((a0 - 32) % 256)).bind fun t136 => (some t136)) else ((strings_IndexByte.f (⟨#[48, 49, 50, 51, 52, 53, 54, 55, 56, 57, 65, 66, 67, 68, 69, 70]⟩ : ByteArray) a0).bind fun t137 => (some t137))) else ((strings_IndexByte.f (⟨#[48, 49, 50, 51, 52, 53, 54, 55, 56, 57, 65, 66, 67, 68, 69, 70]⟩ : ByteArray) a0).bind fun t138 => (some t138))
set_option maxHeartbeats 8000000 in
set_option maxRecDepth 100000 in
theorem query_digit.calls (a0 : Int) (r : Int) (w : World) (h : query_digit.f a0 = some r) :
  Calls Tryd.prog 88 #[.int .u8 a0] w fun e w' => e = .returned (.int .i64 r) ∧ Drawn0 w w' := by
 have H : (if a0 ≥ 97 then (if a0 ≤ 102 then ((strings_IndexByte.f (⟨#[48, 49, 50, 51, 52, 53, 54, 55, 56, 57, 65, 66, 67, 68, 69, 70]⟩ : ByteArray) ((a0 - 32) % 256)).bind fun t136 => (some t136)) else ((strings_IndexByte.f (⟨#[48, 49, 50, 51, 52, 53, 54, 55, 56, 57, 65, 66, 67, 68, 69, 70]⟩ : ByteArray) a0).bind fun t137 => (some t137))) else ((strings_IndexByte.f (⟨#[48, 49, 50, 51, 52, 53, 54, 55, 56, 57, 65, 66, 67, 68, 69, 70]⟩ : ByteArray) a0).bind fun t138 => (some t138))) = some r := h
 clear h
 by_cases c2 : a0 ≥ 97
 ·rw [if_pos c2] at H
  have c2b0 : decide (97 ≤ a0) = true := decide_eq_true c2
  clear c2
  by_cases c3 : a0 ≤ 102
  ·rw [if_pos c3] at H
   have c3b0 : decide (a0 ≤ 102) = true := decide_eq_true c3
   clear c3
   replace H := Option.bind_eq_some_iff.mp H
   obtain ⟨t136, A40, H⟩ := H
   replace H : (some t136) = some r := H
   have A4 := Aside0.mk A40
   clear A40
   obtain rfl := Option.some.inj H
   go_enter Tryd.func88, Tryd.ntmps88
   go_wp2_with (first | ((with_reducible refine gate_callee (f := 46) rfl ?_); refine goesL_ (some 12) rfl rfl Tryd.func46 kr_ rfl #[.string (⟨#[48, 49, 50, 51, 52, 53, 54, 55, 56, 57, 65, 66, 67, 68, 69, 70]⟩ : ByteArray), .int .u8 ((a0 - 32) % 256)] rfl rl_ ?_; (with_reducible refine (strings_IndexByte.calls (⟨#[48, 49, 50, 51, 52, 53, 54, 55, 56, 57, 65, 66, 67, 68, 69, 70]⟩ : ByteArray) ((a0 - 32) % 256) t136 _ A4.out).mono ?_); rintro e w' ⟨rfl, ⟨nd, rfl⟩⟩; refine ⟨_, rfl, ?_⟩))
   go_ret
   exact ⟨by first | rfl | (simp; done) | (simp [*]; done) | (simp [bne_nil_isEmpty, beq_nil_isEmpty]; done) | (simp [*, bne_nil_isEmpty, beq_nil_isEmpty]; done), by repeat (first | exact Drawn0.refl _ | apply Drawn0.step)⟩
  ·rw [if_neg c3] at H
   have c3b0 : decide (a0 ≤ 102) = false := decide_eq_false c3
   clear c3
   replace H := Option.bind_eq_some_iff.mp H
   obtain ⟨t137, A50, H⟩ := H
   replace H : (some t137) = some r := H
   have A5 := Aside0.mk A50
   clear A50
   obtain rfl := Option.some.inj H
   go_enter Tryd.func88, Tryd.ntmps88
   go_wp2_with (first | ((with_reducible refine gate_callee (f := 46) rfl ?_); refine goesL_ (some 12) rfl rfl Tryd.func46 kr_ rfl #[.string (⟨#[48, 49, 50, 51, 52, 53, 54, 55, 56, 57, 65, 66, 67, 68, 69, 70]⟩ : ByteArray), .int .u8 a0] rfl rl_ ?_; (with_reducible refine (strings_IndexByte.calls (⟨#[48, 49, 50, 51, 52, 53, 54, 55, 56, 57, 65, 66, 67, 68, 69, 70]⟩ : ByteArray) a0 t137 _ A5.out).mono ?_); rintro e w' ⟨rfl, ⟨nd, rfl⟩⟩; refine ⟨_, rfl, ?_⟩))
   go_ret
   exact ⟨by first | rfl | (simp; done) | (simp [*]; done) | (simp [bne_nil_isEmpty, beq_nil_isEmpty]; done) | (simp [*, bne_nil_isEmpty, beq_nil_isEmpty]; done), by repeat (first | exact Drawn0.refl _ | apply Drawn0.step)⟩
 ·rw [if_neg c2] at H
  have c2b0 : decide (97 ≤ a0) = false := decide_eq_false c2
  clear c2
  replace H := Option.bind_eq_some_iff.mp H
  obtain ⟨t138, A60, H⟩ := H
  replace H : (some t138) = some r := H
  have A6 := Aside0.mk A60
  clear A60
  obtain rfl := Option.some.inj H
  go_enter Tryd.func88, Tryd.ntmps88
  go_wp2_with (first | ((with_reducible refine gate_callee (f := 46) rfl ?_); refine goesL_ (some 12) rfl rfl Tryd.func46 kr_ rfl #[.string (⟨#[48, 49, 50, 51, 52, 53, 54, 55, 56, 57, 65, 66, 67, 68, 69, 70]⟩ : ByteArray), .int .u8 a0] rfl rl_ ?_; (with_reducible refine (strings_IndexByte.calls (⟨#[48, 49, 50, 51, 52, 53, 54, 55, 56, 57, 65, 66, 67, 68, 69, 70]⟩ : ByteArray) a0 t138 _ A6.out).mono ?_); rintro e w' ⟨rfl, ⟨nd, rfl⟩⟩; refine ⟨_, rfl, ?_⟩))
  go_ret
  exact ⟨by first | rfl | (simp; done) | (simp [*]; done) | (simp [bne_nil_isEmpty, beq_nil_isEmpty]; done) | (simp [*, bne_nil_isEmpty, beq_nil_isEmpty]; done), by repeat (first | exact Drawn0.refl _ | apply Drawn0.step)⟩

/-! ### query_read: function 79 -/
mutual
def query_read.l0 : Nat → ByteArray → List Int → Int → Option (ByteArray × Bool)
 | 0, _, _, _ => none
 | k + 1, x0, x4, x5 => if x5 < (x0.size : Int) then (if 0 ≤ x5 then (if (bt x0 x5) = 43 then (if x4.length < 140737488355328 then (query_read.l0 k x0 (x4 ++ [32]) (wrap64 (x5 + 1))) else (none)) else (if (bt x0 x5) = 37 then (if (wrap64 (x5 + 2)) ≥ (x0.size : Int) then (query_read.j1 k x0 x4 x5 true) else (if 0 ≤ (wrap64 (x5 + 1)) then (if (wrap64 (x5 + 1)) < (x0.size : Int) then ((query_digit.f (bt x0 (wrap64 (x5 + 1)))).bind fun t145 => (if t145 < 0 then (query_read.j1 k x0 x4 x5 true) else (if 0 ≤ (wrap64 (x5 + 2)) then (if (wrap64 (x5 + 2)) < (x0.size : Int) then ((query_digit.f (bt x0 (wrap64 (x5 + 2)))).bind fun t146 => (query_read.j1 k x0 x4 x5 (decide (t146 < 0)))) else (none)) else (none)))) else (none)) else (none))) else (if x4.length < 140737488355328 then (query_read.l0 k x0 (x4 ++ [bt x0 x5]) (wrap64 (x5 + 1))) else (none)))) else (none)) else (some (strOfNums x4, true))
def query_read.j1 : Nat → ByteArray → List Int → Int → Bool → Option (ByteArray × Bool)
 | 0, _, _, _, _ => none
 | k + 1, x0, x4, x5, x51 => if x51 = true then (some ((⟨#[]⟩ : ByteArray), false)) else (if 0 ≤ (wrap64 (x5 + 1)) then (if (wrap64 (x5 + 1)) < (x0.size : Int) then ((query_digit.f (bt x0 (wrap64 (x5 + 1)))).bind fun t147 => (if 0 ≤ (wrap64 (x5 + 2)) then (if (wrap64 (x5 + 2)) < (x0.size : Int) then ((query_digit.f (bt x0 (wrap64 (x5 + 2)))).bind fun t148 => (if x4.length < 140737488355328 then (query_read.l0 k x0 (x4 ++ [(Go.bits .or .i64 (wrap64 (t147 * 16)) t148) % 256]) (wrap64 ((wrap64 (x5 + 2)) + 1))) else (none))) else (none)) else (none))) else (none)) else (none))
end
def query_read.f (k : Nat) (a0 : ByteArray) : Option (ByteArray × Bool) := if 0 ≤ (a0.size : Int) then (if ((a0.size : Int) : Int).toNat ≤ 281474976710656 then (query_read.l0 k a0 (([] : List Int)) 0) else (none)) else (none)
theorem query_read.mono_l : ∀ k, (∀ y0 y1 y2, LeO (query_read.l0 k y0 y1 y2) (query_read.l0 (k + 1) y0 y1 y2)) ∧ (∀ y0 y1 y2 y3, LeO (query_read.j1 k y0 y1 y2 y3) (query_read.j1 (k + 1) y0 y1 y2 y3))
 | 0 => ⟨fun _ _ _ r h => by simp [query_read.l0] at h, fun _ _ _ _ r h => by simp [query_read.j1] at h⟩
 | k + 1 => by
  obtain ⟨ih0, ih1⟩ := query_read.mono_l k
  refine ⟨?_, ?_⟩
  ·intro y0 y1 y2
   unfold query_read.l0
   repeat' first
   | (with_reducible exact ih0 _ _ _)
   | (with_reducible exact ih1 _ _ _ _)
   | (with_reducible exact LeO.refl _)
   | (with_reducible exact LeO.none _)
   | (with_reducible refine LeO.ite ?_ ?_)
   | (with_reducible refine LeO.bind ?_ (fun _ => ?_))
   | exact ih0 _ _ _
   | exact ih1 _ _ _ _
   | exact LeO.none _
   | refine LeO.ite ?_ ?_
   | refine LeO.bind ?_ (fun _ => ?_)
  ·intro y0 y1 y2 y3
   unfold query_read.j1
   repeat' first
   | (with_reducible exact ih0 _ _ _)
   | (with_reducible exact ih1 _ _ _ _)
   | (with_reducible exact LeO.refl _)
   | (with_reducible exact LeO.none _)
   | (with_reducible refine LeO.ite ?_ ?_)
   | (with_reducible refine LeO.bind ?_ (fun _ => ?_))
   | exact ih0 _ _ _
   | exact ih1 _ _ _ _
   | exact LeO.none _
   | refine LeO.ite ?_ ?_
   | refine LeO.bind ?_ (fun _ => ?_)
theorem query_read.mono : ∀ a0 k, LeO (query_read.f k a0) (query_read.f (k + 1) a0) := by
 intro a0 k
 obtain ⟨ih0, ih1⟩ := query_read.mono_l k
 unfold query_read.f
 repeat' first
   | (with_reducible exact ih0 _ _ _)
   | (with_reducible exact ih1 _ _ _ _)
   | (with_reducible exact LeO.refl _)
   | (with_reducible exact LeO.none _)
   | (with_reducible refine LeO.ite ?_ ?_)
   | (with_reducible refine LeO.bind ?_ (fun _ => ?_))
   | exact ih0 _ _ _
   | exact ih1 _ _ _ _
   | exact LeO.none _
   | refine LeO.ite ?_ ?_
   | refine LeO.bind ?_ (fun _ => ?_)
def query_read.T12 : Bool × List (List Nat × List Nat) := (true, [([], []), ([], []), ([], []), ([2], [2]), ([1, 3], [1, 3]), ([4], [4]), ([5], [5]), ([], []), ([], []), ([8], [8]), ([7, 9], [7, 9]), ([10, 5], [10]), ([6, 11], [6, 11]), ([12], [12]), ([13], [13]), ([0, 14, 11], [0, 14]), ([15, 15, 0, 1, 2, 3, 4, 5, 6, 7, 8, 9, 10, 11, 12, 13, 14, 15], [0, 15])])
def query_read.B12 : List Nat := [0, 0, 0, 4, 14, 30, 62, 0, 0, 256, 896, 1982, 4094, 8190, 16382, 32767, 65535]
theorem query_read.tab12 : rtab .any (opsOf Tryd.f79 12) = query_read.T12 := by kernel_rfl
theorem query_read.bits12 : waitsOk query_read.T12.2 query_read.B12 = true := by kernel_rfl
set_option maxHeartbeats 8000000 in
set_option maxRecDepth 100000 in
theorem query_read.calls (k : Nat) (a0 : ByteArray) (r1 : ByteArray) (r2 : Bool) (w : World) (h : query_read.f k a0 = some (r1, r2)) :
  Calls Tryd.prog 79 #[.string a0] w fun e w' => e = .returned (.tuple #[.string r1, .bool r2]) ∧ Below w.heap.size w w' := by
 have HB := am_ (Below.refl w.heap.size w)
 have H : (if 0 ≤ (a0.size : Int) then (if ((a0.size : Int) : Int).toNat ≤ 281474976710656 then (query_read.l0 k a0 (([] : List Int)) 0) else (none)) else (none)) = some (r1, r2) := h
 clear h
 by_cases c2 : 0 ≤ (a0.size : Int)
 ·rw [if_pos c2] at H
  have c2b0 := eq_true c2
  have c2b1 : decide (0 ≤ (a0.size : Int)) = true := decide_eq_true c2
  clear c2
  by_cases c3 : ((a0.size : Int) : Int).toNat ≤ 281474976710656
  ·rw [if_pos c3] at H
   have c3b0 := eq_true c3
   have c3b1 : decide (((a0.size : Int) : Int).toNat ≤ 281474976710656) = true := decide_eq_true c3
   clear c3
   obtain ⟨y139, hy139⟩ : ∃ y_ : List Int, y_ = (([] : List Int)) := ⟨_, rfl⟩
   replace H : (query_read.l0 k a0 y139 0) = some (r1, r2) := by first | (rw [hy139]; with_reducible exact H) | (have H2_ := (Option.bind_some _ _).symm.trans H; rw [hy139]; with_reducible exact H2_) | (have H2_ := (Option.bind_some _ _).symm.trans H; with_reducible exact H2_) | with_reducible exact H | (rw [hy139]; exact H) | exact H
   have Ny139 := Aside0.mk hy139
   clear hy139
   have H' := Aside0.mk H
   clear H
   go_enter Tryd.func79, Tryd.ntmps79
   go_wp2_with (first | ((with_reducible refine gate_dst (N := 8) rfl ?_); refine Kd.R_make0 (Kd.int .u8) _ 5 rfl (N := 8) rfl 33 _ _ rfl (a0.size : Int) rfl rfl Tryd.underlying33 (.int .u8 0) 1 info5 rfl (by decide) (by omega) 0 (ok := fun _ => True) (okp := fun _ => True) rfl (fun _ hk => hk) trivial (of_decide_eq_true as_) (Nat.le_trans (Nat.mul_le_mul_right _ (of_decide_eq_true as_ : (a0.size : Int).toNat ≤ 281474976710656)) (by omega)) (Below.refl _ _) (Nat.le_refl _) ?_; intro v140 w4 ho5 hb hg_ hnew_; clear hg_ hnew_; (first | rw [← Ny139.out] at ho5 | (simp only [Int.reduceToNat] at ho5; rw [← Ny139.out] at ho5)); have n0_ := am_ (Kd.R_lower ho5 (below_size (bel_ HB.out))); have n1_ := am_ (below_step (bel_ HB.out) hb); clear HB; have HO141 := n0_; have HB := n1_; clear n0_ n1_ hb ho5))
   go_loopg [4, 5] k (fun kq v4 v5 w' => ∃ (x4_1 : List Int) (x5_1 : Int), v5 = .int .i64 x5_1 ∧ Aside0 (query_read.l0 kq a0 x4_1 x5_1 = some (r1, r2)) ∧ Aside0 (kq ≤ k) ∧ Aside0 (Kd.R (Kd.int .u8) 5 w' w.heap.size (fun _ => True) v4 x4_1) ∧ Aside0 (Below w.heap.size w w'))
   case atStart => exact ⟨(y139), (0), sd_, H', ⟨Nat.le_refl _⟩, ⟨by (with_reducible repeat (first | apply Kd.R_alloc | apply Kd.R_drewN | apply Kd.R_drew)); exact HO141.out⟩, ⟨bel_ HB.out⟩⟩
   case round =>
    clear H'
    try clear c2
    try clear c2b0
    try clear c2b1
    try clear p2
    try clear c3
    try clear c3b0
    try clear c3b1
    obtain ⟨x4_1, x5_1, rfl, HA, HK1, HO_4, HB⟩ := hrel
    cases gk with
    | zero => exact absurd HA.out (by simp [query_read.l0])
    | succ k1 =>
     have H := HA.out
     clear HA
     simp only [query_read.l0] at H
     by_cases c6 : x5_1 < (a0.size : Int)
     ·rw [if_pos c6] at H
      have c6b0 : decide (x5_1 < (a0.size : Int)) = true := decide_eq_true c6
      clear c6
      by_cases c7 : 0 ≤ x5_1
      ·rw [if_pos c7] at H
       have c7b0 : decide (0 ≤ x5_1) = true := decide_eq_true c7
       clear c7
       by_cases c9 : (bt a0 x5_1) = 43
       ·rw [if_pos c9] at H
        have c9b0 : ((bt a0 x5_1) == 43) = true := beq_iff_eq.mpr c9
        have c9b1 : ((bt a0 x5_1) != 43) = false := bne_eq_false_iff_eq.mpr c9
        clear c9
        by_cases c10 : x4_1.length < 140737488355328
        ·rw [if_pos c10] at H
         have LMc10 := Aside0.mk c10
         clear c10
         obtain ⟨y142, hy142⟩ : ∃ y_ : List Int, y_ = (x4_1 ++ [32]) := ⟨_, rfl⟩
         replace H : (query_read.l0 k1 a0 y142 (wrap64 (x5_1 + 1))) = some (r1, r2) := by first | (rw [hy142]; with_reducible exact H) | (have H2_ := (Option.bind_some _ _).symm.trans H; rw [hy142]; with_reducible exact H2_) | (have H2_ := (Option.bind_some _ _).symm.trans H; with_reducible exact H2_) | with_reducible exact H | (rw [hy142]; exact H) | exact H
         have Ny142 := Aside0.mk hy142
         clear hy142
         have H' := Aside0.mk H
         clear H
         have p8 : 0 ≤ (x5_1 : Int) := of_decide_eq_true as_
         have q8 : x5_1 < (a0.size : Int) := of_decide_eq_true as_
         have hx8 := bt_at a0 x5_1
         replace p8 := eq_true p8
         replace q8 := eq_true q8
         go_wp2_with (first | ((with_reducible refine gate_builtin (b := .append) (xs := #[.tmp 26, .tmp 27]) rfl ?_); at_builtin; refine Kd.R_append (Kd.int .u8) (w0 := w) w.heap.size rfl (.tmp 26) (.tmp 27) 33 5 (.int .u8 0) 1 rfl Tryd.underlying33 info5 rfl (by decide) (by omega) u4 x4_1 32 [.int .u8 32] (fun _ => True) (fun _ => False) rfl rfl ?aP (fun _ hk => hk.elim) ?aF ?aO ?aB ?aS ?aL ?_; (case aP => exact rfl); (case aB => exact (bel_ HB.out)); (case aF => exact (fun _ _ => trivial)); (case aO => exact (R_ HO_4.out)); (case aS => exact (below_size (bel_ HB.out))); (case aL => have := LMc10.out; omega); intro v143 w11 ho hb hg hat; rw [← Ny142.out] at ho; have n0_ := am_ (hb); have n1_ := am_ (ho); clear HB HO_4; have HB := n0_; have HO144 := n1_; clear n0_ n1_ ho hb hg hat))
         go_roundg k1
         case measure => have := HK1.out; omega
         case rel => exact ⟨(y142), (wrap64 (x5_1 + 1)), sd_, H', ⟨by have := HK1.out; omega⟩, ⟨by (with_reducible repeat (first | apply Kd.R_alloc | apply Kd.R_drewN | apply Kd.R_drew)); exact HO144.out⟩, ⟨bel_ HB.out⟩⟩
        ·rw [if_neg c10] at H
         exact absurd H (by simp)
       ·rw [if_neg c9] at H
        have c9b0 : ((bt a0 x5_1) == 43) = false := beq_eq_false_iff_ne.mpr c9
        have c9b1 : ((bt a0 x5_1) != 43) = true := bne_iff_ne.mpr c9
        by_cases c12 : (bt a0 x5_1) = 37
        ·rw [if_pos c12] at H
         have c12b0 : ((bt a0 x5_1) == 37) = true := beq_iff_eq.mpr c12
         have c12b1 : ((bt a0 x5_1) != 37) = false := bne_eq_false_iff_eq.mpr c12
         clear c12
         have HC13 := Aside0.mk H
         clear H
         have p8 : 0 ≤ (x5_1 : Int) := of_decide_eq_true as_
         have q8 : x5_1 < (a0.size : Int) := of_decide_eq_true as_
         have hx8 := bt_at a0 x5_1
         replace p8 := eq_true p8
         replace q8 := eq_true q8
         go_upto_region 10 with (fail)
         go_cut [51] (fun v51 wc => ∃ (kq : Nat) (x51_12 : Bool), v51 = .bool x51_12 ∧ Aside0 (query_read.j1 kq a0 x4_1 x5_1 x51_12 = some (r1, r2)) ∧ Aside0 (kq ≤ k1) ∧ Aside0 (Kd.R (Kd.int .u8) 5 wc w.heap.size (fun _ => True) u4 x4_1) ∧ Aside0 (Below w.heap.size w wc))
         case first =>
          have H := HC13.out
          clear HC13
          by_cases c14 : (wrap64 (x5_1 + 2)) ≥ (a0.size : Int)
          ·rw [if_pos c14] at H
           have c14b0 : decide ((a0.size : Int) ≤ (wrap64 (x5_1 + 2))) = true := decide_eq_true c14
           clear c14
           (first | rw [c14b0] | rw [c14b1] | rw [c14b2] | (simp only [i64_w, i32_w]; rw [c14b0]) | skip)
           have H' := Aside0.mk H
           clear H
           go_wp2
           go_meet
           case rel => exact ⟨_, (true), sd_, H', ⟨by have := HK1.out; first | omega | exact Nat.le_refl _⟩, ⟨by (with_reducible repeat (first | apply Kd.R_alloc | apply Kd.R_drewN | apply Kd.R_drew)); exact HO_4.out⟩, ⟨bel_ HB.out⟩⟩
          ·rw [if_neg c14] at H
           have c14b0 : decide ((a0.size : Int) ≤ (wrap64 (x5_1 + 2))) = false := decide_eq_false c14
           clear c14
           (first | rw [c14b0] | rw [c14b1] | rw [c14b2] | (simp only [i64_w, i32_w]; rw [c14b0]) | skip)
           obtain ⟨ji15, hji15⟩ : ∃ j_ : Int, (wrap64 (x5_1 + 1)) = j_ := ⟨_, rfl⟩
           replace H : (if 0 ≤ (ji15) then (if (ji15) < (a0.size : Int) then ((query_digit.f (bt a0 (ji15))).bind fun t145 => (if t145 < 0 then (query_read.j1 k1 a0 x4_1 x5_1 true) else (if 0 ≤ (wrap64 (x5_1 + 2)) then (if (wrap64 (x5_1 + 2)) < (a0.size : Int) then ((query_digit.f (bt a0 (wrap64 (x5_1 + 2)))).bind fun t146 => (query_read.j1 k1 a0 x4_1 x5_1 (decide (t146 < 0)))) else (none)) else (none)))) else (none)) else (none)) = some (r1, r2) := by first | (rw [hji15] at H; exact H) | (simp only [hji15] at H ⊢; exact H)
           have hji15w : (IntKind.i64.wrap (x5_1 + 1)) = ji15 := (i64_w _).trans hji15
           by_cases c16 : 0 ≤ (ji15)
           ·rw [if_pos c16] at H
            have c16b0 : decide (0 ≤ (ji15)) = true := decide_eq_true c16
            clear c16
            by_cases c17 : (ji15) < (a0.size : Int)
            ·rw [if_pos c17] at H
             have c17b0 : decide ((ji15) < (a0.size : Int)) = true := decide_eq_true c17
             clear c17
             replace H := Option.bind_eq_some_iff.mp H
             obtain ⟨t145, A190, H⟩ := H
             replace H : (if t145 < 0 then (query_read.j1 k1 a0 x4_1 x5_1 true) else (if 0 ≤ (wrap64 (x5_1 + 2)) then (if (wrap64 (x5_1 + 2)) < (a0.size : Int) then ((query_digit.f (bt a0 (wrap64 (x5_1 + 2)))).bind fun t146 => (query_read.j1 k1 a0 x4_1 x5_1 (decide (t146 < 0)))) else (none)) else (none))) = some (r1, r2) := H
             have A19 := Aside0.mk A190
             clear A190
             by_cases c20 : t145 < 0
             ·rw [if_pos c20] at H
              have c20b0 : decide (t145 < 0) = true := decide_eq_true c20
              clear c20
              have H' := Aside0.mk H
              clear H
              have p18 : 0 ≤ ((ji15) : Int) := of_decide_eq_true as_
              have q18 : (ji15) < (a0.size : Int) := of_decide_eq_true as_
              have hx18 := bt_at a0 (ji15)
              replace p18 := eq_true p18
              replace q18 := eq_true q18
              go_wp2_with (first | (go_at_call 88; (with_reducible refine (query_digit.calls (bt a0 (ji15)) t145 _ A19.out).mono ?_); rintro e w' ⟨rfl, ⟨nd, rfl⟩⟩))
              go_meet
              case rel => exact ⟨_, (true), sd_, H', ⟨by have := HK1.out; first | omega | exact Nat.le_refl _⟩, ⟨by (with_reducible repeat (first | apply Kd.R_alloc | apply Kd.R_drewN | apply Kd.R_drew)); exact HO_4.out⟩, ⟨bel_ HB.out⟩⟩
             ·rw [if_neg c20] at H
              have c20b0 : decide (t145 < 0) = false := decide_eq_false c20
              clear c20
              obtain ⟨ji21, hji21⟩ : ∃ j_ : Int, (wrap64 (x5_1 + 2)) = j_ := ⟨_, rfl⟩
              replace H : (if 0 ≤ (ji21) then (if (ji21) < (a0.size : Int) then ((query_digit.f (bt a0 (ji21))).bind fun t146 => (query_read.j1 k1 a0 x4_1 x5_1 (decide (t146 < 0)))) else (none)) else (none)) = some (r1, r2) := by first | (rw [hji21] at H; exact H) | (simp only [hji21] at H ⊢; exact H)
              (try rw [hji21] at c14b0)
              (try rw [hji21] at A19)
              have hji21w : (IntKind.i64.wrap (x5_1 + 2)) = ji21 := (i64_w _).trans hji21
              by_cases c22 : 0 ≤ (ji21)
              ·rw [if_pos c22] at H
               have c22b0 : decide (0 ≤ (ji21)) = true := decide_eq_true c22
               clear c22
               by_cases c23 : (ji21) < (a0.size : Int)
               ·rw [if_pos c23] at H
                have c23b0 : decide ((ji21) < (a0.size : Int)) = true := decide_eq_true c23
                clear c23
                replace H := Option.bind_eq_some_iff.mp H
                obtain ⟨t146, A250, H⟩ := H
                replace H : (query_read.j1 k1 a0 x4_1 x5_1 (decide (t146 < 0))) = some (r1, r2) := H
                have A25 := Aside0.mk A250
                clear A250
                have H' := Aside0.mk H
                clear H
                have p18 : 0 ≤ ((ji15) : Int) := of_decide_eq_true as_
                have q18 : (ji15) < (a0.size : Int) := of_decide_eq_true as_
                have hx18 := bt_at a0 (ji15)
                replace p18 := eq_true p18
                replace q18 := eq_true q18
                go_wp2_with (first | (go_at_call 88; (with_reducible refine (query_digit.calls (bt a0 (ji15)) t145 _ A19.out).mono ?_); rintro e w' ⟨rfl, ⟨nd, rfl⟩⟩; have p24 : 0 ≤ ((ji21) : Int) := of_decide_eq_true as_; have q24 : (ji21) < (a0.size : Int) := of_decide_eq_true as_; have hx24 := bt_at a0 (ji21); replace p24 := eq_true p24; replace q24 := eq_true q24) | (go_at_call 88; (with_reducible refine (query_digit.calls (bt a0 (ji21)) t146 _ A25.out).mono ?_); rintro e w' ⟨rfl, ⟨nd, rfl⟩⟩))
                go_meet
                case rel => exact ⟨_, (decide (t146 < 0)), sd_, H', ⟨by have := HK1.out; first | omega | exact Nat.le_refl _⟩, ⟨by (with_reducible repeat (first | apply Kd.R_alloc | apply Kd.R_drewN | apply Kd.R_drew)); exact HO_4.out⟩, ⟨bel_ HB.out⟩⟩
               ·rw [if_neg c23] at H
                exact absurd H (by simp)
              ·rw [if_neg c22] at H
               exact absurd H (by simp)
            ·rw [if_neg c17] at H
             exact absurd H (by simp)
           ·rw [if_neg c16] at H
            exact absurd H (by simp)
         case rest =>
          clear HC13
          try clear c1
          try clear p1
          try clear q1
          try clear hx1
          try clear c2
          try clear c2b0
          try clear c2b1
          try clear p2
          try clear q2
          try clear hx2
          try clear c3
          try clear c3b0
          try clear c3b1
          try clear c6
          try clear c6b0
          try clear p6
          try clear c7
          try clear c7b0
          try clear p8
          try clear q8
          try clear hx8
          try clear c9
          try clear c9b0
          try clear c9b1
          try clear c10
          try clear c12
          try clear c12b0
          try clear c12b1
          try clear c14
          try clear c14b0
          try clear c14b1
          try clear c14b2
          try clear c16
          try clear c16b0
          try clear c17
          try clear c17b0
          try clear p18
          try clear q18
          try clear hx18
          try clear c20
          try clear c20b0
          try clear c22
          try clear c22b0
          try clear c23
          try clear c23b0
          try clear p24
          try clear q24
          try clear hx24
          try clear p18
          try clear p2
          try clear p24
          try clear p8
          try clear q18
          try clear q24
          try clear q8
          obtain ⟨kq, x51_12, rfl, HA, HJ12, HO_4, HB⟩ := hcut
          cases kq with
          | zero => exact absurd HA.out (by simp [query_read.j1])
          | succ kj12 =>
           have H := HA.out
           clear HA
           simp only [query_read.j1] at H
           by_cases c26 : x51_12 = true
           ·subst c26
            have H1 : (some ((⟨#[]⟩ : ByteArray), false)) = some (r1, r2) := by rw [if_pos rfl] at H; exact H
            clear H
            have H := H1
            clear H1
            simp only [Option.some.injEq, Prod.mk.injEq] at H
            obtain ⟨rfl, rfl⟩ := H
            go_wp2
            go_ret2
            exact ⟨fi_, bel_ HB.out⟩
           ·replace c26 := Bool.eq_false_iff.mpr c26
            subst c26
            have H1 : (if 0 ≤ (wrap64 (x5_1 + 1)) then (if (wrap64 (x5_1 + 1)) < (a0.size : Int) then ((query_digit.f (bt a0 (wrap64 (x5_1 + 1)))).bind fun t147 => (if 0 ≤ (wrap64 (x5_1 + 2)) then (if (wrap64 (x5_1 + 2)) < (a0.size : Int) then ((query_digit.f (bt a0 (wrap64 (x5_1 + 2)))).bind fun t148 => (if x4_1.length < 140737488355328 then (query_read.l0 kj12 a0 (x4_1 ++ [(Go.bits .or .i64 (wrap64 (t147 * 16)) t148) % 256]) (wrap64 ((wrap64 (x5_1 + 2)) + 1))) else (none))) else (none)) else (none))) else (none)) else (none)) = some (r1, r2) := by rw [if_neg (show ¬ (false = true) by decide)] at H; exact H
            clear H
            have H := H1
            clear H1
            obtain ⟨ji27, hji27⟩ : ∃ j_ : Int, (wrap64 (x5_1 + 1)) = j_ := ⟨_, rfl⟩
            replace H : (if 0 ≤ (ji27) then (if (ji27) < (a0.size : Int) then ((query_digit.f (bt a0 (ji27))).bind fun t147 => (if 0 ≤ (wrap64 (x5_1 + 2)) then (if (wrap64 (x5_1 + 2)) < (a0.size : Int) then ((query_digit.f (bt a0 (wrap64 (x5_1 + 2)))).bind fun t148 => (if x4_1.length < 140737488355328 then (query_read.l0 kj12 a0 (x4_1 ++ [(Go.bits .or .i64 (wrap64 (t147 * 16)) t148) % 256]) (wrap64 ((wrap64 (x5_1 + 2)) + 1))) else (none))) else (none)) else (none))) else (none)) else (none)) = some (r1, r2) := by first | (rw [hji27] at H; exact H) | (simp only [hji27] at H ⊢; exact H)
            have hji27w : (IntKind.i64.wrap (x5_1 + 1)) = ji27 := (i64_w _).trans hji27
            by_cases c28 : 0 ≤ (ji27)
            ·rw [if_pos c28] at H
             have c28b0 : decide (0 ≤ (ji27)) = true := decide_eq_true c28
             clear c28
             by_cases c29 : (ji27) < (a0.size : Int)
             ·rw [if_pos c29] at H
              have c29b0 : decide ((ji27) < (a0.size : Int)) = true := decide_eq_true c29
              clear c29
              replace H := Option.bind_eq_some_iff.mp H
              obtain ⟨t147, A310, H⟩ := H
              replace H : (if 0 ≤ (wrap64 (x5_1 + 2)) then (if (wrap64 (x5_1 + 2)) < (a0.size : Int) then ((query_digit.f (bt a0 (wrap64 (x5_1 + 2)))).bind fun t148 => (if x4_1.length < 140737488355328 then (query_read.l0 kj12 a0 (x4_1 ++ [(Go.bits .or .i64 (wrap64 (t147 * 16)) t148) % 256]) (wrap64 ((wrap64 (x5_1 + 2)) + 1))) else (none))) else (none)) else (none)) = some (r1, r2) := H
              have A31 := Aside0.mk A310
              clear A310
              obtain ⟨ji32, hji32⟩ : ∃ j_ : Int, (wrap64 (x5_1 + 2)) = j_ := ⟨_, rfl⟩
              replace H : (if 0 ≤ (ji32) then (if (ji32) < (a0.size : Int) then ((query_digit.f (bt a0 (ji32))).bind fun t148 => (if x4_1.length < 140737488355328 then (query_read.l0 kj12 a0 (x4_1 ++ [(Go.bits .or .i64 (wrap64 (t147 * 16)) t148) % 256]) (wrap64 ((ji32) + 1))) else (none))) else (none)) else (none)) = some (r1, r2) := by first | (rw [hji32] at H; exact H) | (simp only [hji32] at H ⊢; exact H)
              (try rw [hji32] at A31)
              have hji32w : (IntKind.i64.wrap (x5_1 + 2)) = ji32 := (i64_w _).trans hji32
              by_cases c33 : 0 ≤ (ji32)
              ·rw [if_pos c33] at H
               have c33b0 : decide (0 ≤ (ji32)) = true := decide_eq_true c33
               clear c33
               by_cases c34 : (ji32) < (a0.size : Int)
               ·rw [if_pos c34] at H
                have c34b0 : decide ((ji32) < (a0.size : Int)) = true := decide_eq_true c34
                clear c34
                replace H := Option.bind_eq_some_iff.mp H
                obtain ⟨t148, A360, H⟩ := H
                replace H : (if x4_1.length < 140737488355328 then (query_read.l0 kj12 a0 (x4_1 ++ [(Go.bits .or .i64 (wrap64 (t147 * 16)) t148) % 256]) (wrap64 ((ji32) + 1))) else (none)) = some (r1, r2) := H
                have A36 := Aside0.mk A360
                clear A360
                by_cases c37 : x4_1.length < 140737488355328
                ·rw [if_pos c37] at H
                 have LMc37 := Aside0.mk c37
                 clear c37
                 obtain ⟨y149, hy149⟩ : ∃ y_ : List Int, y_ = (x4_1 ++ [(Go.bits .or .i64 (wrap64 (t147 * 16)) t148) % 256]) := ⟨_, rfl⟩
                 replace H : (query_read.l0 kj12 a0 y149 (wrap64 ((ji32) + 1))) = some (r1, r2) := by first | (rw [hy149]; with_reducible exact H) | (have H2_ := (Option.bind_some _ _).symm.trans H; rw [hy149]; with_reducible exact H2_) | (have H2_ := (Option.bind_some _ _).symm.trans H; with_reducible exact H2_) | with_reducible exact H | (rw [hy149]; exact H) | exact H
                 have Ny149 := Aside0.mk hy149
                 clear hy149
                 have H' := Aside0.mk H
                 clear H
                 try go_wp2
                 have n0_ := am_ (Kd.R_drew HO_4.out)
                 have n1_ := am_ (below_drew1 HB.out)
                 clear HO_4 HB
                 have HO_4 := n0_
                 have HB := n1_
                 clear n0_ n1_
                 have p30 : 0 ≤ ((ji27) : Int) := of_decide_eq_true as_
                 have q30 : (ji27) < (a0.size : Int) := of_decide_eq_true as_
                 have hx30 := bt_at a0 (ji27)
                 replace p30 := eq_true p30
                 replace q30 := eq_true q30
                 have p35 : 0 ≤ ((ji32) : Int) := of_decide_eq_true as_
                 have q35 : (ji32) < (a0.size : Int) := of_decide_eq_true as_
                 have hx35 := bt_at a0 (ji32)
                 replace p35 := eq_true p35
                 replace q35 := eq_true q35
                 refine start_ (n := 17) (S := fun w' => True) (ds := []) #[false, false, false, false, false, false, false, false, false, false, false, false, false, false, false, false, false] kr_ rfl rfl trivial (fun hHeld => ?_); refine with_tabW query_read.tab12 query_read.bits12 (fun HT_ HW_ => ?_)
                 generalize wc.drew = w38 at HO_4 HB hHeld ⊢
                 refine pure_ (i := 0) (N := some 52) (v := ?_) (a' := ?_) #[true, false, false, false, false, false, false, false, false, false, false, false, false, false, false, false, false] rfl rfl (any_of HT_.out kr_) (fun _ _ _ h => h) (Or.inl ⟨by rfl, ?_⟩) ?_ ?_
                 rotate_left
                 ·intro w'
                  go_simp
                  with_reducible rfl
                 rotate_left
                 ·simp only [Act.put, sx_, s0_, s1_, i64_w, i32_w]
                  rfl
                 refine pure_ (i := 1) (N := some 53) (v := ?_) (a' := ?_) #[true, true, false, false, false, false, false, false, false, false, false, false, false, false, false, false, false] rfl rfl (any_of HT_.out kr_) (fun _ _ _ h => h) (Or.inl ⟨by rfl, ?_⟩) ?_ ?_
                 rotate_left
                 ·intro w'
                  go_simp
                  with_reducible rfl
                 rotate_left
                 ·simp only [Act.put, sx_, s0_, s1_, i64_w, i32_w]
                  rfl
                 refine pure_ (i := 2) (N := some 54) (v := ?_) (a' := ?_) #[true, true, true, false, false, false, false, false, false, false, false, false, false, false, false, false, false] rfl rfl (any_of HT_.out kr_) (fun _ _ _ h => h) (Or.inl ⟨by rfl, ?_⟩) ?_ ?_
                 rotate_left
                 ·intro w'
                  go_simp
                  with_reducible rfl
                 rotate_left
                 ·simp only [Act.put, sx_, s0_, s1_, i64_w, i32_w]
                  rfl
                 refine pure_ (i := 3) (N := some 55) (v := ?_) (a' := ?_) #[true, true, true, true, false, false, false, false, false, false, false, false, false, false, false, false, false] rfl rfl (any_of HT_.out kr_) (fun _ _ _ h => h) (Or.inl ⟨by rfl, ?_⟩) ?_ ?_
                 rotate_left
                 ·intro w'
                  go_simp
                  with_reducible rfl
                 rotate_left
                 ·simp only [Act.put, sx_, s0_, s1_, i64_w, i32_w]
                  rfl
                 refine pure_ (i := 7) (N := some 59) (v := ?_) (a' := ?_) #[true, true, true, true, false, false, false, true, false, false, false, false, false, false, false, false, false] rfl rfl (any_of HT_.out kr_) (fun _ _ _ h => h) (Or.inl ⟨by rfl, ?_⟩) ?_ ?_
                 rotate_left
                 ·intro w'
                  go_simp
                  with_reducible rfl
                 rotate_left
                 ·simp only [Act.put, sx_, s0_, s1_, i64_w, i32_w]
                  rfl
                 refine pure_ (i := 8) (N := some 60) (v := ?_) (a' := ?_) #[true, true, true, true, false, false, false, true, true, false, false, false, false, false, false, false, false] rfl rfl (any_of HT_.out kr_) (fun _ _ _ h => h) (Or.inl ⟨by rfl, ?_⟩) ?_ ?_
                 rotate_left
                 ·intro w'
                  go_simp
                  with_reducible rfl
                 rotate_left
                 ·simp only [Act.put, sx_, s0_, s1_, i64_w, i32_w]
                  rfl
                 refine pure_ (i := 9) (N := some 61) (v := ?_) (a' := ?_) #[true, true, true, true, false, false, false, true, true, true, false, false, false, false, false, false, false] rfl rfl (any_of HT_.out kr_) (fun _ _ _ h => h) (Or.inl ⟨by rfl, ?_⟩) ?_ ?_
                 rotate_left
                 ·intro w'
                  go_simp
                  with_reducible rfl
                 rotate_left
                 ·simp only [Act.put, sx_, s0_, s1_, i64_w, i32_w]
                  rfl
                 refine take_ (i := 4) (N := some 56) (v := ?_) (a' := ?_) #[true, true, true, true, true, false, false, true, true, true, false, false, false, false, false, false, false] rfl rfl (take_ofW HT_.out HW_.out kr_) (fun _ _ _ h => h) (Or.inl ⟨by rfl, ?_⟩) hHeld ?_ ?_
                 rotate_left
                 ·intro w' _
                  go_simp
                  with_reducible rfl
                 rotate_left
                 ·simp only [Act.put, sx_, s0_, s1_, i64_w, i32_w]
                  rfl
                 refine take_ (i := 10) (N := some 62) (v := ?_) (a' := ?_) #[true, true, true, true, true, false, false, true, true, true, true, false, false, false, false, false, false] rfl rfl (take_ofW HT_.out HW_.out kr_) (fun _ _ _ h => h) (Or.inl ⟨by rfl, ?_⟩) hHeld ?_ ?_
                 rotate_left
                 ·intro w' _
                  go_simp
                  with_reducible rfl
                 rotate_left
                 ·simp only [Act.put, sx_, s0_, s1_, i64_w, i32_w]
                  rfl
                 refine one_ (i := 5) (N := some 57) #[true, true, true, true, true, true, false, true, true, true, true, false, false, false, false, false, false] rfl rfl (one_of HT_.out kr_) (by decide) (fun K hK => ?_)
                 refine goes_ Tryd.func88 kr_ rfl #[.int .u8 (bt a0 (ji27))] (by rfl) rfl rfl (by (try simp only [List.map_toArray, List.map_cons, List.map_nil]); first | done | (simp only [hji27]; rfl) | rfl | (simp only [List.length_drop, List.length_take]; rfl)) ?_
                 with_reducible refine (query_digit.calls (bt a0 (ji27)) t147 _ A31.out).mono ?_
                 rintro e w' ⟨rfl, ⟨nd, rfl⟩⟩
                 refine ⟨_, rfl, ?_⟩
                 refine hK.out _ _ trivial (fun hHeld => ?_)
                 clear hK K
                 refine norm_ (a' := ?_) ?_ ?_
                 rotate_left
                 ·show Act.put _ (some 57) _ = _
                  simp only [Act.put, sx_, s0_, s1_, i64_w, i32_w]
                  rfl
                 refine pure_ (i := 6) (N := some 58) (v := ?_) (a' := ?_) #[true, true, true, true, true, true, true, true, true, true, true, false, false, false, false, false, false] rfl rfl (any_of HT_.out kr_) (fun _ _ _ h => h) (Or.inl ⟨by rfl, ?_⟩) ?_ ?_
                 rotate_left
                 ·intro w'
                  go_simp
                  with_reducible rfl
                 rotate_left
                 ·simp only [Act.put, sx_, s0_, s1_, i64_w, i32_w]
                  rfl
                 refine one_ (i := 11) (N := some 63) #[true, true, true, true, true, true, true, true, true, true, true, true, false, false, false, false, false] rfl rfl (one_of HT_.out kr_) (by decide) (fun K hK => ?_)
                 refine goes_ Tryd.func88 kr_ rfl #[.int .u8 (bt a0 (ji32))] (by rfl) rfl rfl (by (try simp only [List.map_toArray, List.map_cons, List.map_nil]); first | done | (simp only [hji32]; rfl) | rfl | (simp only [List.length_drop, List.length_take]; rfl)) ?_
                 with_reducible refine (query_digit.calls (bt a0 (ji32)) t148 _ A36.out).mono ?_
                 rintro e w' ⟨rfl, ⟨nd, rfl⟩⟩
                 refine ⟨_, rfl, ?_⟩
                 refine hK.out _ _ trivial (fun hHeld => ?_)
                 clear hK K
                 refine norm_ (a' := ?_) ?_ ?_
                 rotate_left
                 ·show Act.put _ (some 63) _ = _
                  simp only [Act.put, sx_, s0_, s1_, i64_w, i32_w]
                  rfl
                 refine pure_ (i := 12) (N := some 64) (v := ?_) (a' := ?_) #[true, true, true, true, true, true, true, true, true, true, true, true, true, false, false, false, false] rfl rfl (any_of HT_.out kr_) (fun _ _ _ h => h) (Or.inl ⟨by rfl, ?_⟩) ?_ ?_
                 rotate_left
                 ·intro w'
                  go_simp
                  with_reducible rfl
                 rotate_left
                 ·simp only [Act.put, sx_, s0_, s1_, i64_w, i32_w]
                  rfl
                 refine pure_ (i := 13) (N := some 65) (v := ?_) (a' := ?_) #[true, true, true, true, true, true, true, true, true, true, true, true, true, true, false, false, false] rfl rfl (any_of HT_.out kr_) (fun _ _ _ h => h) (Or.inl ⟨by rfl, ?_⟩) ?_ ?_
                 rotate_left
                 ·intro w'
                  go_simp
                  with_reducible rfl
                 rotate_left
                 ·simp only [Act.put, sx_, s0_, s1_, i64_w, i32_w]
                  rfl
                 refine one_ (i := 14) (N := some 66) #[true, true, true, true, true, true, true, true, true, true, true, true, true, true, true, false, false] rfl rfl (one_of HT_.out kr_) (by decide) (fun K hK => ?_)
                 refine value_ (w1 := ?_) (v := ?_) (by rfl) rfl ?_ ?_
                 rotate_left 2
                 ·go_simp
                  constructor
                  ·rfl
                  ·rfl
                 refine hK.out _ _ trivial (fun hHeld => ?_)
                 clear hK K
                 refine norm_ (a' := ?_) ?_ ?_
                 rotate_left
                 ·show Act.put _ (some 66) _ = _
                  simp only [Act.put, sx_, s0_, s1_, i64_w, i32_w]
                  rfl
                 refine one_ (i := 15) (N := some 67) #[true, true, true, true, true, true, true, true, true, true, true, true, true, true, true, true, false] rfl rfl (one_of HT_.out kr_) (by decide) (fun K hK => ?_)
                 refine Kd.R_append_step (Kd.int .u8) (w0 := w) w.heap.size (by rfl) (.tmp 52) (.tmp 66) 33 5 (.int .u8 0) 1 rfl Tryd.underlying33 info5 rfl (by decide) (by omega) u4 x4_1 ((Go.bits .or .i64 (wrap64 (t147 * 16)) t148) % 256) [.int .u8 ((Go.bits .or .i64 (wrap64 (t147 * 16)) t148) % 256)] (fun _ => True) (fun _ => False) rfl rfl ?aP (fun _ hk => hk.elim) ?aF ?aO ?aB ?aS ?aL ?_
                 (case aP => exact rfl)
                 (case aB => exact (bel_ HB.out))
                 (case aF => exact (fun _ _ => trivial))
                 (case aO => exact (R_ HO_4.out))
                 (case aS => exact (below_size (bel_ HB.out)))
                 (case aL => have := LMc37.out; omega)
                 intro v150 w39 ho hb hg hat
                 rw [← Ny149.out] at ho
                 have n0_ := am_ (hb)
                 have n1_ := am_ (ho)
                 clear HB HO_4
                 have HB := n0_
                 have HO151 := n1_
                 clear n0_ n1_ ho hb hg hat
                 refine hK.out _ _ trivial (fun hHeld => ?_)
                 clear hK K
                 refine norm_ (a' := ?_) ?_ ?_
                 rotate_left
                 ·show Act.put _ (some 67) _ = _
                  simp only [Act.put, sx_, s0_, s1_, i64_w, i32_w]
                  rfl
                 refine pure_ (i := 16) (N := some 4) (v := ?_) (a' := ?_) #[true, true, true, true, true, true, true, true, true, true, true, true, true, true, true, true, true] rfl rfl (any_of HT_.out kr_) (fun _ _ _ h => h) (Or.inl ⟨by rfl, ?_⟩) ?_ ?_
                 rotate_left
                 ·intro w'
                  go_simp
                  with_reducible rfl
                 rotate_left
                 ·simp only [Act.put, sx_, s0_, s1_, i64_w, i32_w]
                  rfl
                 refine done_ (done_of HT_.out kr_) ?_
                 try go_wp2
                 go_roundg kj12
                 case measure => have := HK1.out; have := HJ12.out; omega
                 case rel => exact ⟨(y149), (wrap64 ((ji32) + 1)), (by first | rfl | (simp; done) | (simp only [← hji32] <;> (first | rfl | simp)) | (simp [*]; done)), (by first | exact H' | (simp only [hji32]; exact H')), ⟨by have := HK1.out; have := HJ12.out; omega⟩, ⟨by (with_reducible repeat (first | apply Kd.R_alloc | apply Kd.R_drewN | apply Kd.R_drew)); exact HO151.out⟩, ⟨bel_ HB.out⟩⟩
                ·rw [if_neg c37] at H
                 exact absurd H (by simp)
               ·rw [if_neg c34] at H
                exact absurd H (by simp)
              ·rw [if_neg c33] at H
               exact absurd H (by simp)
             ·rw [if_neg c29] at H
              exact absurd H (by simp)
            ·rw [if_neg c28] at H
             exact absurd H (by simp)
        ·rw [if_neg c12] at H
         have c12b0 : ((bt a0 x5_1) == 37) = false := beq_eq_false_iff_ne.mpr c12
         have c12b1 : ((bt a0 x5_1) != 37) = true := bne_iff_ne.mpr c12
         by_cases c41 : x4_1.length < 140737488355328
         ·rw [if_pos c41] at H
          have LMc41 := Aside0.mk c41
          clear c41
          obtain ⟨y152, hy152⟩ : ∃ y_ : List Int, y_ = (x4_1 ++ [bt a0 x5_1]) := ⟨_, rfl⟩
          replace H : (query_read.l0 k1 a0 y152 (wrap64 (x5_1 + 1))) = some (r1, r2) := by first | (rw [hy152]; with_reducible exact H) | (have H2_ := (Option.bind_some _ _).symm.trans H; rw [hy152]; with_reducible exact H2_) | (have H2_ := (Option.bind_some _ _).symm.trans H; with_reducible exact H2_) | with_reducible exact H | (rw [hy152]; exact H) | exact H
          have Ny152 := Aside0.mk hy152
          clear hy152
          have H' := Aside0.mk H
          clear H
          have p8 : 0 ≤ (x5_1 : Int) := of_decide_eq_true as_
          have q8 : x5_1 < (a0.size : Int) := of_decide_eq_true as_
          have hx8 := bt_at a0 x5_1
          replace p8 := eq_true p8
          replace q8 := eq_true q8
          have p40 : 0 ≤ (x5_1 : Int) := of_decide_eq_true as_
          have q40 : x5_1 < (a0.size : Int) := of_decide_eq_true as_
          have hx40 := bt_at a0 x5_1
          replace p40 := eq_true p40
          replace q40 := eq_true q40
          go_wp2_with (first | ((with_reducible refine gate_builtin (b := .append) (xs := #[.tmp 18, .tmp 22]) rfl ?_); at_builtin; refine Kd.R_append (Kd.int .u8) (w0 := w) w.heap.size rfl (.tmp 18) (.tmp 22) 33 5 (.int .u8 0) 1 rfl Tryd.underlying33 info5 rfl (by decide) (by omega) u4 x4_1 (bt a0 x5_1) [.int .u8 (bt a0 x5_1)] (fun _ => True) (fun _ => False) rfl rfl ?aP (fun _ hk => hk.elim) ?aF ?aO ?aB ?aS ?aL ?_; (case aP => exact rfl); (case aB => exact (bel_ HB.out)); (case aF => exact (fun _ _ => trivial)); (case aO => exact (R_ HO_4.out)); (case aS => exact (below_size (bel_ HB.out))); (case aL => have := LMc41.out; omega); intro v153 w42 ho hb hg hat; rw [← Ny152.out] at ho; have n0_ := am_ (hb); have n1_ := am_ (ho); clear HB HO_4; have HB := n0_; have HO154 := n1_; clear n0_ n1_ ho hb hg hat))
          go_roundg k1
          case measure => have := HK1.out; omega
          case rel => exact ⟨(y152), (wrap64 (x5_1 + 1)), sd_, H', ⟨by have := HK1.out; omega⟩, ⟨by (with_reducible repeat (first | apply Kd.R_alloc | apply Kd.R_drewN | apply Kd.R_drew)); exact HO154.out⟩, ⟨bel_ HB.out⟩⟩
         ·rw [if_neg c41] at H
          exact absurd H (by simp)
      ·rw [if_neg c7] at H
       exact absurd H (by simp)
     ·rw [if_neg c6] at H
      have c6b0 : decide (x5_1 < (a0.size : Int)) = false := decide_eq_false c6
      clear c6
      simp only [Option.some.injEq, Prod.mk.injEq] at H
      obtain ⟨rfl, rfl⟩ := H
      have hcv43 := own_string (P := Tryd.prog) Tryd.underlying33 Tryd.underlying5 Tryd.underlying9 (Kd.own_of_R HO_4.out)
      go_wp2
      go_ret2
      exact ⟨fi_, bel_ HB.out⟩
  ·rw [if_neg c3] at H
   exact absurd H (by simp)
 ·rw [if_neg c2] at H
  exact absurd H (by simp)

/-! ### in_list: an operation of a round, by the law of one that stands alone -/
def InK (F : Fence) (n : Nat) (P : Program) (ops : Array Oper) (Q : Exit → Act → World → Prop) (rest : List Oper) : Exit → Act → World → Prop := fun e a w => e = .normal ∧ wpListIn F n P ops Q rest a w
theorem gateIn_builtin {F : Fence} {n : Nat} {P : Program} {ops : Array Oper} {Q : Exit → Act → World → Prop} {rest : List Oper} {a : Act} {W : World} {o : Oper} {b : Builtin} {xs : Array Operand} {ts : Array TypeId} (_ho : o.op = .call { callee := .builtin b, args := xs, argTypes := ts }) (h : wpListIn F n P ops Q (o :: rest) a W) : wpListIn F n P ops Q (o :: rest) a W := h
theorem in_list {n l : Nat} {P : Program} {ops : Array Oper} {Q : Exit → Act → World → Prop} {rest : List Oper} {o : Oper} {a : Act} {W : World} (hnd : ∀ c, o.op ≠ .defer c) (hg : o.guard = none)
  (h : wpList P ops (InK (Fence.wide.inRound l) n P ops Q rest) [o] a W) : wpListIn (Fence.wide.inRound l) n P ops Q (o :: rest) a W := by
 refine wpListIn_plain hg fun K hK => ⟨fun _ _ => trivial, ?_⟩
 rw [show (Fence.wide.inRound l).round = some l from rfl, Oper.semAt_some l a.eval o hnd]
 simp only [wpList, Region.wanted, hg, if_true] at h
 rcases h with h | ⟨_, _, _, h, _⟩
 ·unfold Oper.wp at h
  generalize (execOp a.eval o).run P W = r at h ⊢
  cases r with
  | ok nx w' =>
   cases nx with
   | value v => exact hK _ _ h.2
   | skip => exact hK _ _ h.2
   | defer d => exact hK _ _ h.2
   | enter f args =>
    refine ⟨fun h2 => (by cases h2), CallsIn.inRound l (callsIn_wide.2 (Calls.mono h ?_))⟩
    intro e w2 he
    cases e with
    | returned v => exact hK _ _ he.2
    | panicked c => obtain ⟨h3, _⟩ := he; cases h3
    | outgrown => obtain ⟨_, _, h3, _⟩ := he; cases h3
   | row r args => exact ⟨fun h2 => (by cases h2), fun c cs hroom => by
     obtain ⟨v, w2, h3, h4⟩ := h c cs
     exact ⟨v, w2, hK _ _ h3.2, stepsIn_wide.2 h4⟩⟩
   | _ => exact h.elim
  | halt hh w' =>
   cases hh with
   | panic v => obtain ⟨h3, _⟩ := h; cases h3
   | _ => exact h.elim
 ·cases h
theorem inK_nil {F : Fence} {n : Nat} {P : Program} {ops : Array Oper} {Q : Exit → Act → World → Prop} {rest : List Oper} {a : Act} {W : World} (h : wpListIn F n P ops Q rest a W) : wpList P ops (InK F n P ops Q rest) [] a W := ⟨rfl, h⟩
/-- A row of one's own stays where a block that is no cells' is turned. -/
theorem R_row {α : Type} {d : Kd α} {e base : Nat} {ok : Nat → Prop} {A B : World} {v : Value} {xs : List α} (h : d.R e A base ok v xs) {row : Option Nat} (hg : A.grownBy B row) (hr : ∀ r, row = some r → ∃ o : Obj, A.heap[r]? = some o ∧ o.isCells = false) : d.R e B base ok v xs :=
 Kd.R_mono (Kd.R_grown (Kd.R_bound h) hg (fun k hk e => by
  obtain ⟨_, _, _, q, _, cells, hc⟩ := hk
  obtain ⟨o, ho, hn⟩ := hr k e.symm
  rw [hc] at ho
  cases ho
  cases hn)) (fun _ hk => hk.1)
theorem R_put_walk {α : Type} {d : Kd α} {e base : Nat} {ok : Nat → Prop} {A : World} {v : Value} {xs : List α} (h : d.R e A base ok v xs) {D : Nat} {o o' : Obj} (hD : A.heap[D]? = some o) (hn : o.isCells = false) : d.R e (A.putObj D o') base ok v xs :=
 R_row h (grownBy_putObj' A D o') (fun r e => by cases e; exact ⟨o, hD, hn⟩)
theorem R_own_cells {α : Type} {d : Kd α} {e base : Nat} {ok : Nat → Prop} {A : World} {v : Value} {xs : List α} (h : d.R e A base ok v xs) {k : Nat} (hk : some k = v.ownBlock) : ok k ∧ ∃ cells q, A.heap[k]? = some (.cells cells q (0, 0)) := by
 obtain ⟨h1, _, _, q, _, cells, hc⟩ := (Kd.R_bound h).1 k hk.symm
 exact ⟨h1, cells, q, hc⟩

end Go.Proofs.YtpmllmfamjpinaaDoor.P
