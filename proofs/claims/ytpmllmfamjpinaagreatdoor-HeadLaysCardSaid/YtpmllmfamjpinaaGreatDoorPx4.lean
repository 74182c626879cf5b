-- written by wip/tool/hprint.py of this repo: the kit's print, with contracts by hand joined; Lean checks it.
import Derived.Test.YtpmllmfamjpinaaGreatDoorPx0
import Derived.Test.YtpmllmfamjpinaaGreatDoorPx2
import Derived.Test.YtpmllmfamjpinaaGreatDoorPx3
namespace Go.Proofs.YtpmllmfamjpinaaGreatDoor.P
open Go.RowKit Go.Proofs.YtpmllmfamjpinaaGreatDoorW.PrintWords Go.Proofs.YtpmllmfamjpinaaGreatDoorW.PrintLast Go.Proofs.YtpmllmfamjpinaaGreatDoorW.PrintMore
attribute [local go_sem] max2_int min2_int max_two min_two max_three min_three max_four min_four   -- for this text's walks alone
set_option linter.unusedVariables false
set_option linter.unusedSimpArgs false

/-! ### strings_splitSeq: functions 46, 77, 92 -/
theorem new_l (W : World) (v : Value) (t : TypeId) : (W.alloc (.cells #[v] t)).cell? ⟨W.heap.size, 0, none⟩ = some v ∧ (W.alloc (.cells #[v] t)).frozen? ⟨W.heap.size, 0, none⟩ = false := by
 have h := World.alloc_heap_new W (.cells #[v] t)
 exact ⟨by unfold World.cell?; rw [h]; rfl, by unfold World.frozen?; rw [h]; rfl⟩
theorem kept_l {W : World} {a : Addr} {v : Value} (o : Obj) (h : W.cell? a = some v) : (W.alloc o).cell? a = some v := Go.cell_kept h (World.grownBy_alloc W o none) (fun r e => by cases e)
theorem kept_f {W : World} {a : Addr} {v : Value} (o : Obj) (h : W.cell? a = some v) (hf : W.frozen? a = false) : (W.alloc o).frozen? a = false := (Go.frozen_kept h (World.grownBy_alloc W o none) (fun r e => by cases e)).trans hf
/-- What lies between cuts: ix tells where the next one is; m: how long it is. -/
def cuts (ix : ByteArray → Int) (m : Nat) : Nat → ByteArray → List ByteArray
 | 0, s => [s]
 | k + 1, s => if ix s < 0 then [s] else s.extract 0 (ix s).toNat :: cuts ix m k (s.extract ((ix s).toNat + m) s.size)
theorem cuts_neg {ix : ByteArray → Int} {m : Nat} {s : ByteArray} (h : ix s < 0) : ∀ k, cuts ix m k s = [s]
 | 0 => rfl
 | k + 1 => by rw [cuts, if_pos h]
theorem cuts_pos {ix : ByteArray → Int} {m k : Nat} {s : ByteArray} (h : ¬ ix s < 0) : cuts ix m (k + 1) s = s.extract 0 (ix s).toNat :: cuts ix m k (s.extract ((ix s).toNat + m) s.size) := by rw [cuts, if_neg h]
theorem cuts_more (ix : ByteArray → Int) (m : Nat) (hm : 1 ≤ m) (hb : ∀ s, 0 ≤ ix s → (ix s).toNat + m ≤ s.size) : ∀ (k : Nat) (s : ByteArray), s.size ≤ k → cuts ix m (k + 1) s = cuts ix m k s := by
 intro k
 induction k with
 | zero =>
  intro s h
  by_cases c : ix s < 0
  ·rw [cuts_neg c, cuts_neg c]
  ·have := hb s (by omega); omega
 | succ k ih =>
  intro s h
  by_cases c : ix s < 0
  ·rw [cuts_neg c, cuts_neg c]
  ·rw [cuts_pos c, cuts_pos (k := k) c, ih _ (by have := hb s (by omega); rw [ByteArray.size_extract]; omega)]
theorem cuts_enough (ix : ByteArray → Int) (m : Nat) (hm : 1 ≤ m) (hb : ∀ s, 0 ≤ ix s → (ix s).toNat + m ≤ s.size) (s : ByteArray) : ∀ (k : Nat), s.size ≤ k → cuts ix m k s = cuts ix m s.size s := by
 intro k
 induction k with
 | zero => intro h; rw [show s.size = 0 by omega]
 | succ k ih =>
  intro h
  rcases Nat.lt_or_ge k s.size with c | c
  ·rw [show s.size = k + 1 by omega]
  ·rw [cuts_more ix m hm hb k s c, ih c]
theorem cuts_cons (ix : ByteArray → Int) (m : Nat) (hm : 1 ≤ m) (hb : ∀ s, 0 ≤ ix s → (ix s).toNat + m ≤ s.size) {s : ByteArray} {i : Nat} (h : ix s = (i : Int)) :
  cuts ix m s.size s = s.extract 0 i :: cuts ix m (s.extract (i + m) s.size).size (s.extract (i + m) s.size) := by
 have h1 := hb s (by omega)
 rw [h, Int.toNat_natCast] at h1
 obtain ⟨k, hk⟩ : ∃ k, s.size = k + 1 := ⟨s.size - 1, by omega⟩
 have h2 : cuts ix m s.size s = cuts ix m (k + 1) s := by rw [hk]
 rw [h2, cuts_pos (by omega), h, Int.toNat_natCast, cuts_enough ix m hm hb _ k (by rw [ByteArray.size_extract]; omega)]
/-- The iterator's three boxes: what is still to be cut, the cut, what is kept of it. -/
structure Boxes3 (b : Nat) (s sep : ByteArray) (W : World) : Prop where
 s_ : W.cell? ⟨b, 0, none⟩ = some (.string s)
 f_ : W.frozen? ⟨b, 0, none⟩ = false
 sep_ : W.cell? ⟨b + 1, 0, none⟩ = some (.string sep)
 save_ : W.cell? ⟨b + 2, 0, none⟩ = some (.int .i64 0)
/-- The three boxes lie as they lay. -/
def Keeps3 (b : Nat) (W W' : World) : Prop := ∀ k, b ≤ k → k < b + 3 → W'.heap[k]? = W.heap[k]?
theorem Boxes3.kept {b : Nat} {s sep : ByteArray} {W W' : World} (h : Boxes3 b s sep W) (hk : Keeps3 b W W') : Boxes3 b s sep W' :=
 ⟨(World.cell?_of_block (a := ⟨b, 0, none⟩) (hk b (Nat.le_refl _) (by omega))).trans h.s_, (World.frozen?_of_block (a := ⟨b, 0, none⟩) (hk b (Nat.le_refl _) (by omega))).trans h.f_,
  (World.cell?_of_block (a := ⟨b + 1, 0, none⟩) (hk (b + 1) (by omega) (by omega))).trans h.sep_, (World.cell?_of_block (a := ⟨b + 2, 0, none⟩) (hk (b + 2) (by omega) (by omega))).trans h.save_⟩
theorem Keeps3.drewN {b : Nat} {W : World} (n : Nat) : Keeps3 b W (W.drewN n) := fun _ _ _ => rfl
/-- How much is still to be cut. -/
def boxLen (b : Nat) (W : World) : Nat := match W.cell? ⟨b, 0, none⟩ with | some (.string t) => t.size | _ => 0
theorem boxLen_eq {b : Nat} {W : World} {s : ByteArray} (h : W.cell? ⟨b, 0, none⟩ = some (.string s)) : boxLen b W = s.size := by unfold boxLen; rw [h]
theorem seq_at (s sep : ByteArray) (w : World) : Calls Tryz.prog 46 #[.string s, .string sep] w fun e w' => ∃ n, e = .returned (.func (.func 92) #[] #[.pointer (some ⟨w.heap.size + 1, 0, none⟩), .pointer (some ⟨w.heap.size, 0, none⟩), .pointer (some ⟨w.heap.size + 2, 0, none⟩)]) ∧
  w' = (((w.alloc (.cells #[.string s] 9)).alloc (.cells #[.string sep] 9)).alloc (.cells #[.int .i64 0] 3)).drewN n := by
 have h : Calls Tryz.prog 77 #[.string s, .string sep, .int .i64 0] w fun e w' => ∃ n, e = .returned (.func (.func 92) #[] #[.pointer (some ⟨w.heap.size + 1, 0, none⟩), .pointer (some ⟨w.heap.size, 0, none⟩), .pointer (some ⟨w.heap.size + 2, 0, none⟩)]) ∧
   w' = (((w.alloc (.cells #[.string s] 9)).alloc (.cells #[.string sep] 9)).alloc (.cells #[.int .i64 0] 3)).drewN n := by
  go_enter Tryz.func77, Tryz.ntmps77
  go_wp2
  go_ret
  exact ⟨0, by simp, rfl⟩
 go_enter Tryz.func46, Tryz.ntmps46
 go_wp2_with (go_at_call 77; refine h.mono ?_; rintro e w' ⟨n, rfl, rfl⟩)
 go_ret
 exact ⟨n, rfl, rfl⟩
set_option maxRecDepth 100000 in
set_option maxHeartbeats 4000000 in
/-- The iterator: the pieces in order, all, or up to one that says no more. -/
theorem split1_in (ix : ByteArray → Int) (sep : ByteArray) (hsep : 1 ≤ sep.size) (GG : World → Prop) (M : Nat) (hix : ∀ (s : ByteArray) (W : World), s.size ≤ M → GG W → Calls Tryz.prog 29 #[.string s, .string sep] W fun e W' => e = .returned (.int .i64 (ix s)) ∧ Drawn0 W W')
  (hb : ∀ s, 0 ≤ ix s → (ix s).toNat + sep.size ≤ s.size) (s : ByteArray) (hs : s.size ≤ M) (hM : M ≤ 140737488355328) (l b : Nat) (J Jx : List ByteArray → World → Prop) (W : World)
  (hJ : AbidesFrom W.heap.size J) (hJx : AbidesFrom W.heap.size Jx) (hJc : ∀ s A v, J s A → J s (A.setCell ⟨b, 0, none⟩ v)) (hJG : ∀ s A, J s A → GG A)
  (hY : ∀ pre x W1, J pre W1 → (pre ++ [x]) <+: cuts ix sep.size s.size s → YieldAt Fence.wide 2 Tryz.prog l #[.string x] W1 fun e W' => (e = .returned (.bool true) ∧ J (pre ++ [x]) W' ∧ Keeps3 b W1 W') ∨ (e = .returned (.bool false) ∧ Jx (pre ++ [x]) W'))
  (hB : Boxes3 b s sep W) (h0 : J [] W) :
  CallsIn Fence.wide 3 Tryz.prog 92 #[.func (.yield l) #[] #[], .pointer (some ⟨b + 1, 0, none⟩), .pointer (some ⟨b, 0, none⟩), .pointer (some ⟨b + 2, 0, none⟩)] W fun e W' => (∃ v, e = .returned v) ∧
   ((∃ xs, xs = cuts ix sep.size s.size s ∧ J xs W') ∨ (∃ pre, pre <+: cuts ix sep.size s.size s ∧ Jx pre W')) := by
 have hdr : ∀ (s' : List ByteArray) (A : World) (n : Nat), J s' A → J s' (A.drewN n) := fun s' A n h => hJ s' A _ none h ⟨rfl, rfl, rfl, Nat.le_refl _, fun _ _ _ => rfl⟩ (fun r e => by cases e)
 have hne : ¬ (sep.size : Int) = 0 := by omega
 have hz0 : ((sep.size : Int) == 0) = false := beq_eq_false_iff_ne.2 hne
 have h1 := hB.s_
 have h2 := hB.sep_
 have h3 := hB.save_
 refine callsIn_of_wp Tryz.func92 rfl trivial ?_ rfl
 simp only [Tryz.ntmps92, List.size_toArray, List.length_cons, List.length_nil, Nat.reduceAdd, Nat.reduceSub, Array.replicate_succ, Array.replicate_zero, List.push_toArray, List.append_toArray, List.nil_append, List.cons_append]
 gi_wp2
 gi_loopw [7, 8] (fun i f wr => ∃ (pre : List ByteArray) (s' : ByteArray), cuts ix sep.size s.size s = pre ++ cuts ix sep.size s'.size s' ∧ s'.size ≤ s.size ∧ Boxes3 b s' sep wr ∧ J pre wr)
  (fun i f wr => boxLen b wr)
 case atStart => exact ⟨[], s, rfl, Nat.le_refl _, hB, h0⟩
 case round =>
  obtain ⟨pre, s', hx, hle, hB', hJs⟩ := hrel
  have hJGs := hJG _ _ hJs
  have g1 := hB'.s_
  have g2 := hB'.sep_
  have g3 := hB'.save_
  by_cases hneg : ix s' < 0
  ·rw [cuts_neg hneg] at hx
   gi_wp2_with (refine ⟨trivial, ?_⟩; gi_at_call 29; refine (callsIn_wide.2 (hix s' _ (by omega) hJGs)).mono ?_; rintro e w' ⟨rfl, hd⟩; obtain ⟨n, rfl⟩ := hd.out)
   obtain ⟨fn, tmps, assign, body, hy, hR⟩ := hY pre s' (wr.drewN n) (hdr _ _ _ hJs) (by rw [hx]; exact List.prefix_refl _)
   rw [hy]
   gi_wp2
   refine hR.mono ?_
   rintro e W3 (⟨rfl, hJ3, hk3⟩ | ⟨rfl, hJx3⟩)
   ·gi_wp2
    go_end0
    exact ⟨⟨_, rfl⟩, .inl ⟨_, rfl, by rw [hx]; exact hJ3⟩⟩
   ·gi_wp2
    go_end0
    exact ⟨⟨_, rfl⟩, .inr ⟨pre ++ [s'], by rw [hx]; exact List.prefix_refl _, hJx3⟩⟩
  ·obtain ⟨i, hi⟩ : ∃ i : Nat, ix s' = (i : Int) := ⟨(ix s').toNat, by omega⟩
   have hfit := hb s' (by omega)
   have hc := cuts_cons ix sep.size hsep hb hi
   have hix' := hix s'
   rw [hi] at hix' hneg
   gi_wp2_with (refine ⟨trivial, ?_⟩; gi_at_call 29; refine (callsIn_wide.2 (hix' _ (by omega) hJGs)).mono ?_; rintro e w' ⟨rfl, hd⟩; obtain ⟨n, rfl⟩ := hd.out)
   obtain ⟨fn, tmps, assign, body, hy, hR⟩ := hY pre (s'.extract 0 i) (wr.drewN n) (hdr _ _ _ hJs) (by rw [hx, hc]; exact ⟨_, List.append_assoc _ _ _⟩)
   rw [hy]
   gi_wp2
   refine hR.mono ?_
   rintro e W3 (⟨rfl, hJ3, hk3⟩ | ⟨rfl, hJx3⟩)
   ·have hB3 := (hB'.kept (Keeps3.drewN n)).kept hk3
    have g1' := hB3.s_
    have g2' := hB3.sep_
    have gf := hB3.f_
    gi_wp2
    go_roundw
    case rel =>
     have hr1 : cuts ix sep.size s.size s = (pre ++ [s'.extract 0 i]) ++ cuts ix sep.size (s'.extract (i + sep.size) s'.size).size (s'.extract (i + sep.size) s'.size) := by rw [hx, hc, List.append_assoc]; rfl
     have hr2 : Boxes3 b (s'.extract (i + sep.size) s'.size) sep (W3.setCell ⟨b, 0, none⟩ (.string (s'.extract (i + sep.size) s'.size))) := ⟨World.cell?_setCell_same' _ _ _ (by rw [g1']; rfl), by rw [World.frozen?_setCell]; exact gf, (World.cell?_setCell_far W3 ⟨b, 0, none⟩ ⟨b + 1, 0, none⟩ _ (by simp)).trans hB3.sep_, (World.cell?_setCell_far W3 ⟨b, 0, none⟩ ⟨b + 2, 0, none⟩ _ (by simp)).trans hB3.save_⟩
     exact ⟨_, _, hr1, by rw [ByteArray.size_extract]; omega, hr2, hJc _ _ _ hJ3⟩
    case measure =>
     rw [boxLen_eq (World.cell?_setCell_same' _ _ _ (by rw [g1']; rfl)), boxLen_eq g1, ByteArray.size_extract]
     omega
   ·gi_wp2
    refine bodyPost_ret (results_none rfl _ _ _) rfl ?_
    exact ⟨⟨_, rfl⟩, .inr ⟨_, by rw [hx, hc]; exact ⟨_, List.append_assoc _ _ _⟩, hJx3⟩⟩
theorem firstIdx_fit (c : UInt8) (s : ByteArray) (h : 0 ≤ firstIdx s c) : (firstIdx s c).toNat + 1 ≤ s.size := by
 unfold firstIdx at h ⊢
 split
 ·next i e =>
  have := List.mem_range.1 (List.mem_of_find?_eq_some e)
  omega
 ·next e => rw [e] at h; exact absurd h (by decide)
theorem index1 (s : ByteArray) (c : UInt8) : strings_Index.f 1 s ⟨#[c]⟩ = some (firstIdx s c) := by
 have hb : bt ⟨#[c]⟩ 0 = (c.toNat : Int) := rfl
 have hj : ∀ b, b = ((⟨#[c]⟩ : ByteArray).toList == s.toList) → stringslite_Index.j0 1 s ⟨#[c]⟩ 1 b = if b = true then some 0 else some (firstIdx s c) := fun b _ => by
  rw [stringslite_Index.j0, if_pos rfl, if_pos (show (0 : Int) < ((⟨#[c]⟩ : ByteArray).size : Int) by show (0 : Int) < 1; decide), hb]
  unfold stringslite_IndexByte.f
  rw [Option.bind_some, Int.toNat_natCast, show c.toNat.toUInt8 = c from UInt8.ofNat_toNat]
 unfold strings_Index.f stringslite_Index.f
 rw [show ((⟨#[c]⟩ : ByteArray).size : Int) = 1 from rfl, if_neg (by decide), hj _ rfl]
 by_cases h : ((⟨#[c]⟩ : ByteArray).toList == s.toList) = true
 ·rw [if_pos h]
  have hs : s = ⟨#[c]⟩ := by
   have := eq_of_beq h
   rw [ByteArray.toList_eq, ByteArray.toList_eq] at this
   obtain ⟨⟨l⟩⟩ := s
   exact congrArg (fun z : List UInt8 => (⟨⟨z⟩⟩ : ByteArray)) (show l = [c] from this.symm)
  rw [hs]
  unfold firstIdx
  rw [show (⟨#[c]⟩ : ByteArray).size = 1 from rfl, show List.range 1 = [0] from rfl, List.find?_cons_of_pos (by show ((⟨#[c]⟩ : ByteArray)[0]! == c) = true; exact beq_self_eq_true c)]
  rfl
 ·rw [if_neg h]; rfl
/-- A text's pieces between one octet. -/
def pieces (c : UInt8) (s : ByteArray) : List ByteArray := cuts (fun t => firstIdx t c) 1 s.size s
/-- The iterator over the pieces of a text, where its three boxes lie. -/
theorem seq1_stops (c : UInt8) (s : ByteArray) (hs : s.size ≤ 140737488355328) (b : Nat) (w : World) (hw : b + 3 ≤ w.heap.size) (hB : Boxes3 b s ⟨#[c]⟩ w) :
  SeqAt Fence.wide 3 Tryz.prog 92 #[.pointer (some ⟨b + 1, 0, none⟩), .pointer (some ⟨b, 0, none⟩), .pointer (some ⟨b + 2, 0, none⟩)] (fun x : ByteArray => #[Value.string x]) (Keeps3 b) b (fun xs => xs = pieces c s) (fun pre => pre <+: pieces c s) (fun xs => xs <+: pieces c s) (fun _ => True) w := by
 intro l J Jx W hW hJ hJx hJc _ hY h0
 have hk : Keeps3 b w W := fun k h1 h2 => hW.block k (by omega)
 exact split1_in (fun t => firstIdx t c) ⟨#[c]⟩ (by show 1 ≤ 1; decide) (fun _ => True) 140737488355328 (fun t W _ _ => strings_Index.calls 1 t ⟨#[c]⟩ _ W (index1 t c)) (fun t h => firstIdx_fit c t h) s hs (Nat.le_refl _) l b J Jx W hJ hJx hJc (fun _ _ _ => trivial) hY (hB.kept hk) h0

/-! ### dns_Name: function 57 -/
/-- Is a text a label? -/
def labB (s : ByteArray) : Bool := dns_Label.f s == some true
theorem label_f (s : ByteArray) : dns_Label.f s = some (labB s) := by
 have h : ∃ b, dns_Label.f s = some b := by
  unfold dns_Label.f strings_IndexFunc_with_dns_Label_1.f
  rw [Option.bind_some]
  by_cases h1 : s.toList = ([] : List UInt8)
  ·rw [if_pos h1]; exact ⟨_, rfl⟩
  ·rw [if_neg h1]
   have h0 : 0 < s.size := by
    rcases Nat.eq_zero_or_pos s.size with c | c
    ·refine absurd ?_ h1
     rw [ByteArray.toList_eq]
     exact List.eq_nil_of_length_eq_zero (by rw [Array.length_toList]; exact c)
    ·exact c
   by_cases h2 : (s.size : Int) ≤ 20
   ·rw [if_pos h2, if_pos (show (0 : Int) < (s.size : Int) by omega), show wrap64 ((s.size : Int) - 1) = (s.size : Int) - 1 from by unfold wrap64; omega, if_pos (show (0 : Int) ≤ (s.size : Int) - 1 by omega), if_pos (show (s.size : Int) - 1 < (s.size : Int) by omega)]
    split
    ·split
     ·exact ⟨_, rfl⟩
     ·exact ⟨_, rfl⟩
    ·exact ⟨_, rfl⟩
   ·rw [if_neg h2]; exact ⟨_, rfl⟩
 obtain ⟨b, h⟩ := h
 unfold labB
 rw [h]
 cases b <;> rfl
/-- Is a text a name? -/
def dns_Name.f (a0 : ByteArray) : Option (Bool) := some (decide (a0.size ≤ 60) && (pieces 46 a0).all labB)
section
attribute [local go_sem] Oper.semAt_some
set_option maxHeartbeats 8000000 in
set_option maxRecDepth 100000 in
theorem dns_Name.calls (a0 : ByteArray) (r : Bool) (w : World) (h : dns_Name.f a0 = some r) :
  Calls Tryz.prog 57 #[.string a0] w fun e w' => e = .returned (.bool r) ∧ Below w.heap.size w w' := by
 obtain rfl := Option.some.inj h
 clear h
 have hlab : ∀ x, dns_Label.f x = some (labB x) := label_f
 refine (callsIn_wide (n := 4)).1 ?_
 refine callsIn_of_wp_marks Tryz.func57 rfl trivial ?_ rfl
 simp only [Tryz.ntmps57, List.size_toArray, List.length_cons, List.length_nil, Nat.reduceAdd, Nat.reduceSub, Array.replicate_succ, Array.replicate_zero, List.push_toArray, List.append_toArray, List.nil_append, List.cons_append]
 by_cases hl : a0.size ≤ 60
 ·rw [decide_eq_true hl, Bool.true_and]
  obtain ⟨R, hR⟩ : ∃ R, (pieces 46 a0).all labB = R := ⟨_, rfl⟩
  rw [hR]
  gi_wp2_with (refine ⟨trivial, ?_⟩; gi_at_call 46; refine (callsIn_wide.2 (seq_at _ _ _)).mono ?_; rintro e w' ⟨n, rfl, rfl⟩)
  obtain ⟨W0, hW0⟩ : ∃ W0, W0 = ((((w.alloc (.cells #[.bool false] 4)).alloc (.cells #[.string a0] 9)).alloc (.cells #[.string ⟨#[46]⟩] 9)).alloc (.cells #[.int .i64 0] 3)).drewN n := ⟨_, rfl⟩
  have hs0 : W0.heap.size = w.heap.size + 4 := by rw [hW0]; simp
  have z0 := new_l w (.bool false) 4
  have z1 := new_l (w.alloc (.cells #[.bool false] 4)) (.string a0) 9
  have z2 := new_l ((w.alloc (.cells #[.bool false] 4)).alloc (.cells #[.string a0] 9)) (.string ⟨#[46]⟩) 9
  have z3 := new_l (((w.alloc (.cells #[.bool false] 4)).alloc (.cells #[.string a0] 9)).alloc (.cells #[.string ⟨#[46]⟩] 9)) (.int .i64 0) 3
  simp only [World.size_alloc] at z1 z2 z3
  have c0 : W0.cell? ⟨w.heap.size, 0, none⟩ = some (.bool false) ∧ W0.frozen? ⟨w.heap.size, 0, none⟩ = false := by
   rw [hW0]
   have y1 := kept_l (.cells #[.string a0] 9) z0.1
   have y2 := kept_l (.cells #[.string ⟨#[46]⟩] 9) y1
   exact ⟨kept_l _ y2, kept_f _ y2 (kept_f _ y1 (kept_f _ z0.1 z0.2))⟩
  have b0 : Boxes3 (w.heap.size + 1) a0 ⟨#[46]⟩ W0 := by
   rw [hW0]
   have y2 := kept_l (.cells #[.string ⟨#[46]⟩] 9) z1.1
   exact ⟨kept_l _ y2, kept_f _ y2 (kept_f _ z1.1 z1.2), kept_l _ z2.1, z3.1⟩
  have hB0 : Below w.heap.size w W0 := by rw [hW0]; exact ((((((Below.refl _ w).alloc (Nat.le_refl _) _).alloc (by simp) _).alloc (by simp; omega) _).alloc (by simp; omega) _)).trans ⟨rfl, rfl, rfl, Nat.le_refl _, fun _ _ => rfl⟩
  (try simp only [World.size_alloc])
  rw [← hW0]
  refine wpIn_range_cell rfl (by omega) (gf := 92) (lb := #[.pointer (some ⟨w.heap.size + 1 + 1, 0, none⟩), .pointer (some ⟨w.heap.size + 1, 0, none⟩), .pointer (some ⟨w.heap.size + 1 + 2, 0, none⟩)]) rfl trivial (enters_of Tryz.func92 kr_ rfl)
   (seq1_stops 46 a0 (by omega) (w.heap.size + 1) W0 (by omega) b0) (fun h k i h1 h2 => (k i h1 h2).trans (h i h1 h2)) (fun W l o o' hl _ _ _ k h1 h2 => World.putObj_heap_other (by omega)) (Below.refl _ _) (fun _ => rfl)
   (fun pre W => ((∀ y ∈ pre, labB y = true) ∧ W.cell? ⟨w.heap.size, 0, none⟩ = some (.bool false) ∧ W.frozen? ⟨w.heap.size, 0, none⟩ = false ∧ w.heap.size + 4 ≤ W.heap.size) ∧ Below w.heap.size w W)
   (fun pre W => ((∃ y ∈ pre, labB y = false) ∧ W.cell? ⟨w.heap.size, 0, none⟩ = some (.bool false)) ∧ Below w.heap.size w W)
   (OwnFrom.and (Own.from (fun s A B row hs hg hr => ⟨hs.1, Go.cell_kept hs.2.1 hg hr, (Go.frozen_kept hs.2.1 hg hr).trans hs.2.2.1, Nat.le_trans hs.2.2.2 hg.size⟩) _) (ownFrom_below (Nat.le_refl _) (by omega)))
   (OwnFrom.and (Own.from (fun s A B row hs hg hr => ⟨hs.1, Go.cell_kept hs.2 hg hr⟩) _) (ownFrom_below (Nat.le_refl _) (by omega)))
   (fun s A v hs => ⟨⟨hs.1.1, (World.cell?_setCell_far A ⟨w.heap.size + 1, 0, none⟩ ⟨w.heap.size, 0, none⟩ v (by simp)).trans hs.1.2.1, by rw [World.frozen?_setCell]; exact hs.1.2.2.1, by simpa using hs.1.2.2.2⟩, hs.2.setCell (p := ⟨w.heap.size + 1, 0, none⟩) (by simp) _⟩)
   (fun _ _ _ => trivial)
   ⟨⟨fun y hy => (by cases hy), c0.1, c0.2, by omega⟩, hB0⟩
   (fun x => { tmps := #[.string a0, undef, .pointer (some ⟨w.heap.size, 0, none⟩), .string x, .string a0, .int .i64 a0.size, .bool (decide (60 < (a0.size : Int))), .string a0, .func (.func 92) #[] #[.pointer (some ⟨w.heap.size + 1 + 1, 0, none⟩), .pointer (some ⟨w.heap.size + 1, 0, none⟩), .pointer (some ⟨w.heap.size + 1 + 2, 0, none⟩)], .string x, undef, undef, undef], defers := [] }) ?assign ?body ?done ?stop
  case assign =>
   intro l x W K hK
   gi_wp2
   exact hK
  case body =>
   rintro l pre x W ⟨⟨hp, hc, hf, hsz⟩, hB⟩ _
   have hlt : w.heap.size < W.heap.size := by omega
   have hx := hlab x
   cases hv : labB x with
   | true =>
    rw [hv] at hx
    gi_wp2_with (refine ⟨trivial, ?_⟩; gi_at_call 83; refine (CallsIn.inRound l (callsIn_wide.2 (dns_Label.calls x true W hx))).mono ?_; rintro e w' ⟨rfl, hd⟩; have hc' : w'.cell? ⟨w.heap.size, 0, none⟩ = some (.bool false) := (hd.cell (p := ⟨w.heap.size, 0, none⟩) hlt).trans hc; have hf' : w'.frozen? ⟨w.heap.size, 0, none⟩ = false := (World.frozen?_of_block (a := ⟨w.heap.size, 0, none⟩) (hd.block _ hlt)).trans hf; have hk' : KeepsFrom W0.heap.size W w' := ⟨hd.size, fun k o _ hk _ => (hd.block k (Array.getElem?_eq_some_iff.1 hk).1).trans hk⟩; have hb' : Below w.heap.size w w' := hB.trans (hd.mono hB.size); have hsz' : w.heap.size + 4 ≤ w'.heap.size := Nat.le_trans hsz hd.size; have h3' : Keeps3 (w.heap.size + 1) W w' := fun k h1 h2 => hd.block k (by omega))
    exact ⟨by rw [hs0] at hk'; exact hk', fun y hy => hy.elim (hp y) fun e => by rw [e]; exact hv⟩
   | false =>
    rw [hv] at hx
    gi_wp2_with (refine ⟨trivial, ?_⟩; gi_at_call 83; refine (CallsIn.inRound l (callsIn_wide.2 (dns_Label.calls x false W hx))).mono ?_; rintro e w' ⟨rfl, hd⟩; have hc' : w'.cell? ⟨w.heap.size, 0, none⟩ = some (.bool false) := (hd.cell (p := ⟨w.heap.size, 0, none⟩) hlt).trans hc; have hf' : w'.frozen? ⟨w.heap.size, 0, none⟩ = false := (World.frozen?_of_block (a := ⟨w.heap.size, 0, none⟩) (hd.block _ hlt)).trans hf; have hk' : KeepsFrom W0.heap.size W w' := ⟨hd.size, fun k o _ hk _ => (hd.block k (Array.getElem?_eq_some_iff.1 hk).1).trans hk⟩; have hb' : Below w.heap.size w w' := hB.trans (hd.mono hB.size); have hsz' : w.heap.size + 4 ≤ w'.heap.size := Nat.le_trans hsz hd.size; have h3' : Keeps3 (w.heap.size + 1) W w' := fun k h1 h2 => hd.block k (by omega))
    exact ⟨by rw [hs0] at hk'; exact hk'.trans ((KeepsOthers.setCell w' _ _).from _), hb'.setCell (p := ⟨w.heap.size, 0, none⟩) (by simp) _⟩
  case done =>
   rintro D ys W hD rfl ⟨⟨hne, hcr, hfr, _⟩, hB⟩ hK
   obtain rfl : R = true := hR.symm.trans (List.all_eq_true.2 hne)
   gi_wp2
   have hK' := (KeepsOthers.setCell W ⟨w.heap.size, 0, none⟩ (.bool true)).same D _ hK rfl
   refine ⟨by simp, .inl ⟨_, _, rfl, run_takeDeferred hK', ?_⟩⟩
   have hc5 := Go.cell_kept (World.cell?_setCell_same' W ⟨w.heap.size, 0, none⟩ (.bool true) (by rw [hcr]; rfl)) (grownBy_putObj' _ D (.deferred none)) (fun r e => by cases e; exact ⟨_, hK', rfl⟩)
   refine ⟨.bool true, ?_, rfl, (hB.setCell (p := ⟨w.heap.size, 0, none⟩) (by simp) _).trans (belowK_b (w := w) (Nat.le_refl _) _ D _ _ (by omega) hK' rfl rfl)⟩
   simp [results, Tryz.f57, go_sem, hc5]
  case stop =>
   rintro D pre W hD hpre ⟨⟨⟨y, hy, hv⟩, hcr⟩, hB⟩ hK
   obtain rfl : R = false := hR.symm.trans (List.all_eq_false.2 ⟨y, hpre.subset hy, by rw [hv]; decide⟩)
   gi_wp2
   refine ⟨by simp, .inl ⟨_, _, rfl, run_takeDeferred hK, ?_⟩⟩
   have hc5 := Go.cell_kept hcr (grownBy_putObj' _ D (.deferred none)) (fun r e => by cases e; exact ⟨_, hK, rfl⟩)
   refine ⟨.bool false, ?_, rfl, hB.trans (belowK_b (w := w) (Nat.le_refl _) W D _ _ (by omega) hK rfl rfl)⟩
   simp [results, Tryz.f57, go_sem, hc5]
 ·rw [decide_eq_false hl, Bool.false_and]
  gi_wp2
  have z0 := new_l w (.bool false) 4
  show LeavesIn _ _ _ _ _ _ _ _ _
  refine ⟨.bool false, ?_, rfl, (Below.refl _ w).alloc (Nat.le_refl _) _⟩
  simp [results, Tryz.f57, go_sem, z0.1]
end

/-! ### host_Of: function 35 -/
mutual
def host_Of.j0 : Nat → ByteArray → Int → Bool → Option (ByteArray × Int)
 | 0, _, _, _ => none
 | k + 1, x0, x4, x17 => if x17 = true then (if 0 ≤ x4 then (if x4 ≤ (x0.size : Int) then (host_Of.j1 k (x0.extract 0 (x4 : Int).toNat)) else (none)) else (none)) else (host_Of.j1 k x0)
def host_Of.j1 : Nat → ByteArray → Option (ByteArray × Int)
 | 0, _ => none
 | k + 1, x0 => (strings_TrimSuffix.f x0 (⟨#[46]⟩ : ByteArray)).bind fun t154 => ((dns_Name.f t154).bind fun t155 => (if t155 = true then (some (t154, 0)) else (some ((⟨#[]⟩ : ByteArray), 2))))
end
def host_Of.f (k : Nat) (a0 : ByteArray) : Option (ByteArray × Int) := (dns_Fold.f a0).bind fun t151 => ((strings_LastIndexByte.f k t151 58).bind fun t152 => (if t152 ≥ 0 then (if 0 ≤ (wrap64 (t152 + 1)) then (if (wrap64 (t152 + 1)) ≤ (t151.size : Int) then ((host_port.f (t151.extract ((wrap64 (t152 + 1)) : Int).toNat t151.size)).bind fun t153 => (host_Of.j0 k t151 t152 t153)) else (none)) else (none)) else (host_Of.j0 k t151 t152 false)))
theorem host_Of.mono_l : ∀ k, (∀ y0 y1 y2, LeO (host_Of.j0 k y0 y1 y2) (host_Of.j0 (k + 1) y0 y1 y2)) ∧ (∀ y0, LeO (host_Of.j1 k y0) (host_Of.j1 (k + 1) y0))
 | 0 => ⟨fun _ _ _ r h => by simp [host_Of.j0] at h, fun _ r h => by simp [host_Of.j1] at h⟩
 | k + 1 => by
  obtain ⟨ih0, ih1⟩ := host_Of.mono_l k
  refine ⟨?_, ?_⟩
  ·intro y0 y1 y2
   unfold host_Of.j0
   repeat' first
   | (with_reducible exact ih0 _ _ _)
   | (with_reducible exact ih1 _)
   | (with_reducible exact strings_LastIndexByte.mono _ _ _)
   | (with_reducible exact LeO.refl _)
   | (with_reducible exact LeO.none _)
   | (with_reducible refine LeO.ite ?_ ?_)
   | (with_reducible refine LeO.bind ?_ (fun _ => ?_))
   | exact ih0 _ _ _
   | exact ih1 _
   | exact strings_LastIndexByte.mono _ _ _
   | exact LeO.none _
   | refine LeO.ite ?_ ?_
   | refine LeO.bind ?_ (fun _ => ?_)
  ·intro y0
   unfold host_Of.j1
   repeat' first
   | (with_reducible exact ih0 _ _ _)
   | (with_reducible exact ih1 _)
   | (with_reducible exact strings_LastIndexByte.mono _ _ _)
   | (with_reducible exact LeO.refl _)
   | (with_reducible exact LeO.none _)
   | (with_reducible refine LeO.ite ?_ ?_)
   | (with_reducible refine LeO.bind ?_ (fun _ => ?_))
   | exact ih0 _ _ _
   | exact ih1 _
   | exact strings_LastIndexByte.mono _ _ _
   | exact LeO.none _
   | refine LeO.ite ?_ ?_
   | refine LeO.bind ?_ (fun _ => ?_)
theorem host_Of.mono : ∀ a0 k, LeO (host_Of.f k a0) (host_Of.f (k + 1) a0) := by
 intro a0 k
 obtain ⟨ih0, ih1⟩ := host_Of.mono_l k
 unfold host_Of.f
 repeat' first
   | (with_reducible exact ih0 _ _ _)
   | (with_reducible exact ih1 _)
   | (with_reducible exact strings_LastIndexByte.mono _ _ _)
   | (with_reducible exact LeO.refl _)
   | (with_reducible exact LeO.none _)
   | (with_reducible refine LeO.ite ?_ ?_)
   | (with_reducible refine LeO.bind ?_ (fun _ => ?_))
   | exact ih0 _ _ _
   | exact ih1 _
   | exact strings_LastIndexByte.mono _ _ _
   | exact LeO.none _
   | refine LeO.ite ?_ ?_
   | refine LeO.bind ?_ (fun _ => ?_)
set_option maxHeartbeats 8000000 in
set_option maxRecDepth 100000 in
theorem host_Of.calls (k : Nat) (a0 : ByteArray) (r1 : ByteArray) (r2 : Int) (w : World) (h : host_Of.f k a0 = some (r1, r2)) :
  Calls Tryz.prog 35 #[.string a0] w fun e w' => e = .returned (.tuple #[.string r1, .int .i64 r2]) ∧ Below w.heap.size w w' := by
 have HB := am_ (Below.refl w.heap.size w)
 have H : ((dns_Fold.f a0).bind fun t151 => ((strings_LastIndexByte.f k t151 58).bind fun t152 => (if t152 ≥ 0 then (if 0 ≤ (wrap64 (t152 + 1)) then (if (wrap64 (t152 + 1)) ≤ (t151.size : Int) then ((host_port.f (t151.extract ((wrap64 (t152 + 1)) : Int).toNat t151.size)).bind fun t153 => (host_Of.j0 k t151 t152 t153)) else (none)) else (none)) else (host_Of.j0 k t151 t152 false)))) = some (r1, r2) := h
 clear h
 replace H := Option.bind_eq_some_iff.mp H
 obtain ⟨t151, A20, H⟩ := H
 replace H : ((strings_LastIndexByte.f k t151 58).bind fun t152 => (if t152 ≥ 0 then (if 0 ≤ (wrap64 (t152 + 1)) then (if (wrap64 (t152 + 1)) ≤ (t151.size : Int) then ((host_port.f (t151.extract ((wrap64 (t152 + 1)) : Int).toNat t151.size)).bind fun t153 => (host_Of.j0 k t151 t152 t153)) else (none)) else (none)) else (host_Of.j0 k t151 t152 false))) = some (r1, r2) := H
 have A2 := Aside0.mk A20
 clear A20
 replace H := Option.bind_eq_some_iff.mp H
 obtain ⟨t152, A30, H⟩ := H
 replace H : (if t152 ≥ 0 then (if 0 ≤ (wrap64 (t152 + 1)) then (if (wrap64 (t152 + 1)) ≤ (t151.size : Int) then ((host_port.f (t151.extract ((wrap64 (t152 + 1)) : Int).toNat t151.size)).bind fun t153 => (host_Of.j0 k t151 t152 t153)) else (none)) else (none)) else (host_Of.j0 k t151 t152 false)) = some (r1, r2) := H
 have A3 := Aside0.mk A30
 clear A30
 have HC4 := Aside0.mk H
 clear H
 go_enter Tryz.func35, Tryz.ntmps35
 go_upto_region 3 with (first | ((with_reducible refine gate_callee (f := 53) rfl ?_); refine goesL_ (some 6) rfl rfl Tryz.func53 kr_ rfl #[.string a0] rfl rl_ ?_; (with_reducible refine (dns_Fold.calls a0 t151 _ A2.out).mono ?_); rintro e w5 ⟨rfl, hb⟩; refine ⟨_, rfl, ?_⟩; have n0_ := am_ (below_step (bel_ HB.out) hb); clear HB; have HB := n0_; clear n0_; (try clear hb); (try clear hb2); (try clear hk); (try clear hi)) | ((with_reducible refine gate_callee (f := 54) rfl ?_); refine goesL_ (some 8) rfl rfl Tryz.func54 kr_ rfl #[.string t151, .int .u8 58] rfl rl_ ?_; (with_reducible refine (strings_LastIndexByte.calls k t151 58 t152 _ A3.out).mono ?_); rintro e w' ⟨rfl, ⟨nd, rfl⟩⟩; refine ⟨_, rfl, ?_⟩))
 (try simp only [Act.put, List.setIfInBounds_toArray, List.set_cons_zero, List.set_cons_succ])
 go_cut [17] (fun v17 wc => ∃ (kq : Nat) (x17_3 : Bool), v17 = .bool x17_3 ∧ Aside0 (host_Of.j0 kq t151 t152 x17_3 = some (r1, r2)) ∧ Aside0 (kq ≤ k) ∧ Aside0 (Below w.heap.size w wc))
 case first =>
  have H := HC4.out
  clear HC4
  by_cases c6 : t152 ≥ 0
  ·rw [if_pos c6] at H
   have c6b0 : decide (0 ≤ t152) = true := decide_eq_true c6
   clear c6
   (first | rw [c6b0] | rw [c6b1] | rw [c6b2] | (simp only [i64_w, i32_w]; rw [c6b0]) | skip)
   obtain ⟨ji7, hji7⟩ : ∃ j_ : Int, (wrap64 (t152 + 1)) = j_ := ⟨_, rfl⟩
   replace H : (if 0 ≤ (ji7) then (if (ji7) ≤ (t151.size : Int) then ((host_port.f (t151.extract ((ji7) : Int).toNat t151.size)).bind fun t153 => (host_Of.j0 k t151 t152 t153)) else (none)) else (none)) = some (r1, r2) := by first | (rw [hji7] at H; exact H) | (simp only [hji7] at H ⊢; exact H)
   have hji7w : (IntKind.i64.wrap (t152 + 1)) = ji7 := (i64_w _).trans hji7
   by_cases c8 : 0 ≤ (ji7)
   ·rw [if_pos c8] at H
    have c8b0 := eq_true c8
    have c8b1 : decide (0 ≤ (ji7)) = true := decide_eq_true c8
    clear c8
    by_cases c9 : (ji7) ≤ (t151.size : Int)
    ·rw [if_pos c9] at H
     have c9b0 := eq_true c9
     have c9b1 : decide ((ji7) ≤ (t151.size : Int)) = true := decide_eq_true c9
     clear c9
     replace H := Option.bind_eq_some_iff.mp H
     obtain ⟨t153, A100, H⟩ := H
     replace H : (host_Of.j0 k t151 t152 t153) = some (r1, r2) := H
     have A10 := Aside0.mk A100
     clear A100
     have H' := Aside0.mk H
     clear H
     go_wp2_with (first | (go_at_call 55; (with_reducible refine (host_port.calls (t151.extract ((ji7) : Int).toNat t151.size) t153 _ A10.out).mono ?_); rintro e w11 ⟨rfl, hb⟩; have n0_ := am_ (below_step (bel_ HB.out) hb); clear HB; have HB := n0_; clear n0_; (try clear hb); (try clear hb2); (try clear hk); (try clear hi)))
     go_meet
     case rel => exact ⟨_, (t153), sd_, H', ⟨by first | omega | exact Nat.le_refl _⟩, ⟨bel_ HB.out⟩⟩
    ·rw [if_neg c9] at H
     exact absurd H (by simp)
   ·rw [if_neg c8] at H
    exact absurd H (by simp)
  ·rw [if_neg c6] at H
   have c6b0 : decide (0 ≤ t152) = false := decide_eq_false c6
   clear c6
   (first | rw [c6b0] | rw [c6b1] | rw [c6b2] | (simp only [i64_w, i32_w]; rw [c6b0]) | skip)
   have H' := Aside0.mk H
   clear H
   go_wp2
   go_meet
   case rel => exact ⟨_, (false), sd_, H', ⟨by first | omega | exact Nat.le_refl _⟩, ⟨bel_ HB.out⟩⟩
 case rest =>
  clear HC4
  try clear p2
  try clear c3
  try clear c5
  try clear c6
  try clear c6b0
  try clear c6b1
  try clear c6b2
  try clear p6
  try clear c8
  try clear c8b0
  try clear c8b1
  try clear c9
  try clear c9b0
  try clear c9b1
  obtain ⟨kq, x17_3, rfl, HA, HJ3, HB⟩ := hcut
  cases kq with
  | zero => exact absurd HA.out (by simp [host_Of.j0])
  | succ kj3 =>
   have H := HA.out
   clear HA
   simp only [host_Of.j0] at H
   have HC12 := Aside0.mk H
   clear H
   go_upto_if 17 with (fail)
   go_cut [0] (fun v0 wc => ∃ (kq : Nat) (x0_11 : ByteArray), v0 = .string x0_11 ∧ Aside0 (host_Of.j1 kq x0_11 = some (r1, r2)) ∧ Aside0 (kq ≤ kj3) ∧ Aside0 (Below w.heap.size w wc))
   case first =>
    have H := HC12.out
    clear HC12
    by_cases c13 : x17_3 = true
    ·subst c13
     have H1 : (if 0 ≤ t152 then (if t152 ≤ (t151.size : Int) then (host_Of.j1 kj3 (t151.extract 0 (t152 : Int).toNat)) else (none)) else (none)) = some (r1, r2) := by rw [if_pos rfl] at H; exact H
     clear H
     have H := H1
     clear H1
     by_cases c14 : 0 ≤ t152
     ·rw [if_pos c14] at H
      have c14b0 := eq_true c14
      have c14b1 : decide (0 ≤ t152) = true := decide_eq_true c14
      clear c14
      by_cases c15 : t152 ≤ (t151.size : Int)
      ·rw [if_pos c15] at H
       have c15b0 := eq_true c15
       have c15b1 : decide (t152 ≤ (t151.size : Int)) = true := decide_eq_true c15
       clear c15
       have H' := Aside0.mk H
       clear H
       go_wp2
       go_meet
       case rel => exact ⟨_, (t151.extract 0 (t152 : Int).toNat), sd_, H', ⟨by have := HJ3.out; first | omega | exact Nat.le_refl _⟩, ⟨bel_ HB.out⟩⟩
      ·rw [if_neg c15] at H
       exact absurd H (by simp)
     ·rw [if_neg c14] at H
      exact absurd H (by simp)
    ·replace c13 := Bool.eq_false_iff.mpr c13
     subst c13
     have H1 : (host_Of.j1 kj3 t151) = some (r1, r2) := by rw [if_neg (show ¬ (false = true) by decide)] at H; exact H
     clear H
     have H := H1
     clear H1
     have H' := Aside0.mk H
     clear H
     go_wp2
     go_meet
     case rel => exact ⟨_, (t151), sd_, H', ⟨by have := HJ3.out; first | omega | exact Nat.le_refl _⟩, ⟨bel_ HB.out⟩⟩
   case rest =>
    clear HC12
    try clear c1
    try clear p2
    try clear c3
    try clear c5
    try clear c6
    try clear c6b0
    try clear c6b1
    try clear c6b2
    try clear p6
    try clear c8
    try clear c8b0
    try clear c8b1
    try clear c9
    try clear c9b0
    try clear c9b1
    try clear c13
    try clear c14
    try clear c14b0
    try clear c14b1
    try clear c15
    try clear c15b0
    try clear c15b1
    try clear p2
    try clear p6
    obtain ⟨kq, x0_11, rfl, HA, HJ11, HB⟩ := hcut
    cases kq with
    | zero => exact absurd HA.out (by simp [host_Of.j1])
    | succ kj11 =>
     have H := HA.out
     clear HA
     simp only [host_Of.j1] at H
     replace H := Option.bind_eq_some_iff.mp H
     obtain ⟨t154, A160, H⟩ := H
     replace H : ((dns_Name.f t154).bind fun t155 => (if t155 = true then (some (t154, 0)) else (some ((⟨#[]⟩ : ByteArray), 2)))) = some (r1, r2) := H
     have A16 := Aside0.mk A160
     clear A160
     replace H := Option.bind_eq_some_iff.mp H
     obtain ⟨t155, A170, H⟩ := H
     replace H : (if t155 = true then (some (t154, 0)) else (some ((⟨#[]⟩ : ByteArray), 2))) = some (r1, r2) := H
     have A17 := Aside0.mk A170
     clear A170
     by_cases c18 : t155 = true
     ·subst c18
      have H1 : (some (t154, 0)) = some (r1, r2) := by rw [if_pos rfl] at H; exact H
      clear H
      have H := H1
      clear H1
      simp only [Option.some.injEq, Prod.mk.injEq] at H
      obtain ⟨rfl, rfl⟩ := H
      go_wp2_with (first | ((with_reducible refine gate_callee (f := 56) rfl ?_); refine goesL_ (some 22) rfl rfl Tryz.func56 kr_ rfl #[.string x0_11, .string (⟨#[46]⟩ : ByteArray)] rfl rl_ ?_; (with_reducible refine (strings_TrimSuffix.calls x0_11 (⟨#[46]⟩ : ByteArray) t154 _ A16.out).mono ?_); rintro e w' ⟨rfl, ⟨nd, rfl⟩⟩; refine ⟨_, rfl, ?_⟩) | ((with_reducible refine gate_callee (f := 57) rfl ?_); refine goesL_ (some 24) rfl rfl Tryz.func57 kr_ rfl #[.string t154] rfl rl_ ?_; (with_reducible refine (dns_Name.calls t154 true _ A17.out).mono ?_); rintro e w19 ⟨rfl, hb⟩; refine ⟨_, rfl, ?_⟩; have n0_ := am_ (below_step (bel_ HB.out) hb); clear HB; have HB := n0_; clear n0_; (try clear hb); (try clear hb2); (try clear hk); (try clear hi)))
      go_ret2
      exact ⟨fi_, bel_ HB.out⟩
     ·replace c18 := Bool.eq_false_iff.mpr c18
      subst c18
      have H1 : (some ((⟨#[]⟩ : ByteArray), 2)) = some (r1, r2) := by rw [if_neg (show ¬ (false = true) by decide)] at H; exact H
      clear H
      have H := H1
      clear H1
      simp only [Option.some.injEq, Prod.mk.injEq] at H
      obtain ⟨rfl, rfl⟩ := H
      go_wp2_with (first | ((with_reducible refine gate_callee (f := 56) rfl ?_); refine goesL_ (some 22) rfl rfl Tryz.func56 kr_ rfl #[.string x0_11, .string (⟨#[46]⟩ : ByteArray)] rfl rl_ ?_; (with_reducible refine (strings_TrimSuffix.calls x0_11 (⟨#[46]⟩ : ByteArray) t154 _ A16.out).mono ?_); rintro e w' ⟨rfl, ⟨nd, rfl⟩⟩; refine ⟨_, rfl, ?_⟩) | ((with_reducible refine gate_callee (f := 57) rfl ?_); refine goesL_ (some 24) rfl rfl Tryz.func57 kr_ rfl #[.string t154] rfl rl_ ?_; (with_reducible refine (dns_Name.calls t154 false _ A17.out).mono ?_); rintro e w20 ⟨rfl, hb⟩; refine ⟨_, rfl, ?_⟩; have n0_ := am_ (below_step (bel_ HB.out) hb); clear HB; have HB := n0_; clear n0_; (try clear hb); (try clear hb2); (try clear hk); (try clear hi)))
      go_ret2
      exact ⟨fi_, bel_ HB.out⟩

/-! ### head_asked: function 14 -/
def head_asked.f (k : Nat) (l0 : List (S51)) : Option (ByteArray × Bool) := (pairs_All.f k l0 (⟨#[104, 111, 115, 116]⟩ : ByteArray)).bind fun t156 => (if (t156.length : Int) = 1 then (if 0 < (t156.length : Int) then ((host_Of.f k (rdOf ByteArray.empty t156 0)).bind fun bt160 => (some (bt160.1, (bt160.2 == 0)))) else (none)) else (some ((⟨#[]⟩ : ByteArray), false)))
theorem head_asked.mono : ∀ a0 k, LeO (head_asked.f k a0) (head_asked.f (k + 1) a0) := by
 intro a0 k
 unfold head_asked.f
 repeat' first
   | (with_reducible exact host_Of.mono _ _)
   | (with_reducible exact pairs_All.mono _ _ _)
   | (with_reducible exact LeO.refl _)
   | (with_reducible exact LeO.none _)
   | (with_reducible refine LeO.ite ?_ ?_)
   | (with_reducible refine LeO.bind ?_ (fun _ => ?_))
   | exact host_Of.mono _ _
   | exact pairs_All.mono _ _ _
   | exact LeO.none _
   | refine LeO.ite ?_ ?_
   | refine LeO.bind ?_ (fun _ => ?_)
set_option maxHeartbeats 8000000 in
set_option maxRecDepth 100000 in
theorem head_asked.calls (k : Nat) (A0 : Option Addr) (c0 : Nat) (l0 : List (S51)) (r1 : ByteArray) (r2 : Bool) (w : World) (hr0 : Kd.C k51 w A0 l0.length l0) (hc0 : l0.length ≤ c0) (h : head_asked.f k l0 = some (r1, r2)) :
  Calls Tryz.prog 14 #[.slice A0 l0.length c0] w fun e w' => e = .returned (.tuple #[.string r1, .bool r2]) ∧ Below w.heap.size w w' := by
 have HR0 := Aside0.mk hr0
 have HC0 := Aside0.mk hc0
 clear hr0 hc0
 have HB := am_ (Below.refl w.heap.size w)
 have H : ((pairs_All.f k l0 (⟨#[104, 111, 115, 116]⟩ : ByteArray)).bind fun t156 => (if (t156.length : Int) = 1 then (if 0 < (t156.length : Int) then ((host_Of.f k (rdOf ByteArray.empty t156 0)).bind fun bt160 => (some (bt160.1, (bt160.2 == 0)))) else (none)) else (some ((⟨#[]⟩ : ByteArray), false)))) = some (r1, r2) := h
 clear h
 replace H := Option.bind_eq_some_iff.mp H
 obtain ⟨t156, A20, H⟩ := H
 replace H : (if (t156.length : Int) = 1 then (if 0 < (t156.length : Int) then ((host_Of.f k (rdOf ByteArray.empty t156 0)).bind fun bt160 => (some (bt160.1, (bt160.2 == 0)))) else (none)) else (some ((⟨#[]⟩ : ByteArray), false))) = some (r1, r2) := H
 have A2 := Aside0.mk A20
 clear A20
 by_cases c3 : (t156.length : Int) = 1
 ·rw [if_pos c3] at H
  have c3b0 : ((t156.length : Int) == 1) = true := beq_iff_eq.mpr c3
  have c3b1 : ((t156.length : Int) != 1) = false := bne_eq_false_iff_eq.mpr c3
  clear c3
  by_cases c4 : 0 < (t156.length : Int)
  ·rw [if_pos c4] at H
   have c4b0 : decide (0 < (t156.length : Int)) = true := decide_eq_true c4
   have c4b1 : decide (0 < t156.length) = true := decide_eq_true (by omega)
   clear c4
   replace H := Option.bind_eq_some_iff.mp H
   obtain ⟨⟨t160, t161⟩, A50, H⟩ := H
   replace H : (some (t160, (t161 == 0))) = some (r1, r2) := H
   have A5 := Aside0.mk A50
   clear A50
   simp only [Option.some.injEq, Prod.mk.injEq] at H
   obtain ⟨rfl, rfl⟩ := H
   go_enter Tryz.func14, Tryz.ntmps14
   go_wp2_with (first | ((with_reducible refine gate_callee (f := 34) rfl ?_); refine goesL_ (some 8) rfl rfl Tryz.func34 kr_ rfl #[.slice A0 l0.length c0, .string (⟨#[104, 111, 115, 116]⟩ : ByteArray)] rfl rl_ ?_; (with_reducible refine (pairs_All.calls k _ _ l0 (⟨#[104, 111, 115, 116]⟩ : ByteArray) t156 _ ?side1 ?side2 A2.out).mono ?_); (case side1 => exact C_ HR0.out); (case side2 => exact HC0.out); rintro e w6 ⟨v157, rfl, ho0, hb⟩; refine ⟨_, rfl, ?_⟩; have n0_ := am_ (Kd.R_lower ho0 (below_size (bel_ HB.out))); have n1_ := am_ (below_step (bel_ HB.out) hb); clear HB; have HO158 := n0_; have HB := n1_; clear n0_ n1_; (try clear hb); (try clear hb2); (try clear hk); (try clear hi); (try clear ho0); obtain ⟨Ao7, co7, eo7⟩ := Kd.R_slice HO158.out; subst eo7; have p159 : 0 ≤ (0 : Int) := (by omega); have q159 : 0 < (t156.length : Int) := of_decide_eq_true as_; obtain ⟨ad159, e159, hx159_0⟩ := Kd.at_string (Kd.R_reads' HO158.out).2.2 0 p159 q159; cases e159; have qi159 : (0 < t156.length) = True := eq_true (by omega); (try rw [show ((0 : Int)).toNat = 0 from rfl] at hx159_0); (try rw [Addr.add_zero'] at hx159_0); replace p159 := eq_true p159; replace q159 := eq_true q159) | ((with_reducible refine gate_callee (f := 35) rfl ?_); refine goesL_ (some 16) rfl rfl Tryz.func35 kr_ rfl #[.string (rdOf ByteArray.empty t156 0)] rfl rl_ ?_; (with_reducible refine (host_Of.calls k (rdOf ByteArray.empty t156 0) t160 t161 _ A5.out).mono ?_); rintro e w8 ⟨rfl, hb⟩; refine ⟨_, rfl, ?_⟩; have n0_ := am_ (Kd.R_below (R_ HO158.out) hb); have n1_ := am_ (below_step (bel_ HB.out) hb); clear HO158 HB; have HO158 := n0_; have HB := n1_; clear n0_ n1_; (try clear hb); (try clear hb2); (try clear hk); (try clear hi)))
   go_ret2
   exact ⟨fi_, bel_ HB.out⟩
  ·rw [if_neg c4] at H
   exact absurd H (by simp)
 ·rw [if_neg c3] at H
  have c3b0 : ((t156.length : Int) == 1) = false := beq_eq_false_iff_ne.mpr c3
  have c3b1 : ((t156.length : Int) != 1) = true := bne_iff_ne.mpr c3
  simp only [Option.some.injEq, Prod.mk.injEq] at H
  obtain ⟨rfl, rfl⟩ := H
  go_enter Tryz.func14, Tryz.ntmps14
  go_wp2_with (first | ((with_reducible refine gate_callee (f := 34) rfl ?_); refine goesL_ (some 8) rfl rfl Tryz.func34 kr_ rfl #[.slice A0 l0.length c0, .string (⟨#[104, 111, 115, 116]⟩ : ByteArray)] rfl rl_ ?_; (with_reducible refine (pairs_All.calls k _ _ l0 (⟨#[104, 111, 115, 116]⟩ : ByteArray) t156 _ ?side1 ?side2 A2.out).mono ?_); (case side1 => exact C_ HR0.out); (case side2 => exact HC0.out); rintro e w9 ⟨v157, rfl, ho0, hb⟩; refine ⟨_, rfl, ?_⟩; have n0_ := am_ (Kd.R_lower ho0 (below_size (bel_ HB.out))); have n1_ := am_ (below_step (bel_ HB.out) hb); clear HB; have HO158 := n0_; have HB := n1_; clear n0_ n1_; (try clear hb); (try clear hb2); (try clear hk); (try clear hi); (try clear ho0); obtain ⟨Ao10, co10, eo10⟩ := Kd.R_slice HO158.out; subst eo10))
  go_ret2
  exact ⟨fi_, bel_ HB.out⟩

/-! ### strings_IndexFunc_with_rule_Method_1: function 37 with 36 -/
def strings_IndexFunc_with_rule_Method_1.p (r : Nat) : Bool := decide (r < 65) || decide (90 < r)
set_option maxHeartbeats 4000000 in
theorem strings_IndexFunc_with_rule_Method_1.at_ : RuneAt Tryz.prog 36 strings_IndexFunc_with_rule_Method_1.p := by
 intro W r
 unfold strings_IndexFunc_with_rule_Method_1.p
 by_cases h1 : r < 65 <;> by_cases h2 : 90 < r
 all_goals
  have z1 : (r : Int) < 65 ↔ r < 65 := by omega
  have z2 : 90 < (r : Int) ↔ 90 < r := by omega
  go_enter Tryz.func36, Tryz.ntmps36
  go_wp2
  all_goals first | (exfalso; omega) | (go_ret; exact ⟨by simp [h1, h2], Below.refl _ _⟩)
def strings_IndexFunc_with_rule_Method_1.f (a0 : ByteArray) : Option (Int) := some (idxRune strings_IndexFunc_with_rule_Method_1.p a0)
theorem strings_IndexFunc_with_rule_Method_1.calls (a0 : ByteArray) (r : Int) (w : World) (h : strings_IndexFunc_with_rule_Method_1.f a0 = some r) :
  Calls Tryz.prog 37 #[.string a0, .func (.func 36) #[] #[]] w fun e w' => e = .returned (.int .i64 r) ∧ Below w.heap.size w w' := by
 obtain rfl := Option.some.inj h
 exact strings_IndexFunc_at 36 (enters_of Tryz.func36 kr_ rfl) _ a0 w strings_IndexFunc_with_rule_Method_1.at_

/-! ### rule_Method: function 15 -/
def rule_Method.f (a0 : ByteArray) : Option (Bool) := if a0.toList = ([] : List UInt8) then (some false) else (if (a0.size : Int) ≤ 10 then ((strings_IndexFunc_with_rule_Method_1.f a0).bind fun t162 => (some (decide (t162 < 0)))) else (some false))
set_option maxHeartbeats 8000000 in
set_option maxRecDepth 100000 in
theorem rule_Method.calls (a0 : ByteArray) (r : Bool) (w : World) (h : rule_Method.f a0 = some r) :
  Calls Tryz.prog 15 #[.string a0] w fun e w' => e = .returned (.bool r) ∧ Below w.heap.size w w' := by
 have HB := am_ (Below.refl w.heap.size w)
 have H : (if a0.toList = ([] : List UInt8) then (some false) else (if (a0.size : Int) ≤ 10 then ((strings_IndexFunc_with_rule_Method_1.f a0).bind fun t162 => (some (decide (t162 < 0)))) else (some false))) = some r := h
 clear h
 by_cases c2 : a0.toList = ([] : List UInt8)
 ·rw [if_pos c2] at H
  have c2b0 : (a0.toList == ([] : List UInt8)) = true := beq_iff_eq.mpr c2
  have c2b1 : (a0.toList != ([] : List UInt8)) = false := bne_eq_false_iff_eq.mpr c2
  clear c2
  obtain rfl := Option.some.inj H
  go_enter Tryz.func15, Tryz.ntmps15
  go_wp2
  go_ret
  exact ⟨fi_, bel_ HB.out⟩
 ·rw [if_neg c2] at H
  have c2b0 : (a0.toList == ([] : List UInt8)) = false := beq_eq_false_iff_ne.mpr c2
  have c2b1 : (a0.toList != ([] : List UInt8)) = true := bne_iff_ne.mpr c2
  by_cases c3 : (a0.size : Int) ≤ 10
  ·rw [if_pos c3] at H
   have c3b0 : decide ((a0.size : Int) ≤ 10) = true := decide_eq_true c3
   have c3b1 : decide (a0.size ≤ 10) = true := decide_eq_true (by omega)
   clear c3
   replace H := Option.bind_eq_some_iff.mp H
   obtain ⟨t162, A40, H⟩ := H
   replace H : (some (decide (t162 < 0))) = some r := H
   have A4 := Aside0.mk A40
   clear A40
   obtain rfl := Option.some.inj H
   go_enter Tryz.func15, Tryz.ntmps15
   go_wp2_with (first | (go_at_call 37; (with_reducible refine (strings_IndexFunc_with_rule_Method_1.calls a0 t162 _ A4.out).mono ?_); rintro e w5 ⟨rfl, hb⟩; have n0_ := am_ (below_step (bel_ HB.out) hb); clear HB; have HB := n0_; clear n0_; (try clear hb); (try clear hb2); (try clear hk); (try clear hi)))
   go_ret
   exact ⟨fi_, bel_ HB.out⟩
  ·rw [if_neg c3] at H
   have c3b0 : decide ((a0.size : Int) ≤ 10) = false := decide_eq_false c3
   have c3b1 : decide (a0.size ≤ 10) = false := decide_eq_false (by omega)
   clear c3
   obtain rfl := Option.some.inj H
   go_enter Tryz.func15, Tryz.ntmps15
   go_wp2
   go_ret
   exact ⟨fi_, bel_ HB.out⟩

/-! ### stringslite_HasPrefix: function 59 -/
def stringslite_HasPrefix.f (a0 : ByteArray) (a1 : ByteArray) : Option (Bool) := if (a0.size : Int) ≥ (a1.size : Int) then (if 0 ≤ (a1.size : Int) then (if (a1.size : Int) ≤ (a0.size : Int) then (some ((a0.extract 0 a1.size).toList == a1.toList)) else (none)) else (none)) else (some false)
set_option maxHeartbeats 8000000 in
set_option maxRecDepth 100000 in
theorem stringslite_HasPrefix.calls (a0 : ByteArray) (a1 : ByteArray) (r : Bool) (w : World) (h : stringslite_HasPrefix.f a0 a1 = some r) :
  Calls Tryz.prog 59 #[.string a0, .string a1] w fun e w' => e = .returned (.bool r) ∧ Drawn0 w w' := by
 have H : (if (a0.size : Int) ≥ (a1.size : Int) then (if 0 ≤ (a1.size : Int) then (if (a1.size : Int) ≤ (a0.size : Int) then (some ((a0.extract 0 a1.size).toList == a1.toList)) else (none)) else (none)) else (some false)) = some r := h
 clear h
 by_cases c3 : (a0.size : Int) ≥ (a1.size : Int)
 ·rw [if_pos c3] at H
  have c3b0 : decide ((a1.size : Int) ≤ (a0.size : Int)) = true := decide_eq_true c3
  have c3b1 : decide (a1.size ≤ a0.size) = true := decide_eq_true (Int.ofNat_le.mp c3)
  clear c3
  by_cases c4 : 0 ≤ (a1.size : Int)
  ·rw [if_pos c4] at H
   have c4b0 := eq_true c4
   have c4b1 : decide (0 ≤ (a1.size : Int)) = true := decide_eq_true c4
   clear c4
   by_cases c5 : (a1.size : Int) ≤ (a0.size : Int)
   ·rw [if_pos c5] at H
    have c5b0 := eq_true c5
    have c5b1 : decide ((a1.size : Int) ≤ (a0.size : Int)) = true := decide_eq_true c5
    clear c5
    obtain rfl := Option.some.inj H
    go_enter Tryz.func59, Tryz.ntmps59
    go_wp2
    go_ret
    exact ⟨by first | rfl | (simp; done) | (simp [*]; done) | (simp [bne_nil_isEmpty, beq_nil_isEmpty]; done) | (simp [*, bne_nil_isEmpty, beq_nil_isEmpty]; done), by repeat (first | exact Drawn0.refl _ | apply Drawn0.step)⟩
   ·rw [if_neg c5] at H
    exact absurd H (by simp)
  ·rw [if_neg c4] at H
   exact absurd H (by simp)
 ·rw [if_neg c3] at H
  have c3b0 : decide ((a1.size : Int) ≤ (a0.size : Int)) = false := decide_eq_false c3
  have c3b1 : decide (a1.size ≤ a0.size) = false := decide_eq_false (fun h => c3 (Int.ofNat_le.mpr h))
  clear c3
  obtain rfl := Option.some.inj H
  go_enter Tryz.func59, Tryz.ntmps59
  go_wp2
  go_ret
  exact ⟨by first | rfl | (simp; done) | (simp [*]; done) | (simp [bne_nil_isEmpty, beq_nil_isEmpty]; done) | (simp [*, bne_nil_isEmpty, beq_nil_isEmpty]; done), by repeat (first | exact Drawn0.refl _ | apply Drawn0.step)⟩

/-! ### strings_HasPrefix: function 38 -/
def strings_HasPrefix.f (a0 : ByteArray) (a1 : ByteArray) : Option (Bool) := (stringslite_HasPrefix.f a0 a1).bind fun t163 => (some t163)
set_option maxHeartbeats 8000000 in
set_option maxRecDepth 100000 in
theorem strings_HasPrefix.calls (a0 : ByteArray) (a1 : ByteArray) (r : Bool) (w : World) (h : strings_HasPrefix.f a0 a1 = some r) :
  Calls Tryz.prog 38 #[.string a0, .string a1] w fun e w' => e = .returned (.bool r) ∧ Drawn0 w w' := by
 have H : ((stringslite_HasPrefix.f a0 a1).bind fun t163 => (some t163)) = some r := h
 clear h
 replace H := Option.bind_eq_some_iff.mp H
 obtain ⟨t163, A30, H⟩ := H
 replace H : (some t163) = some r := H
 have A3 := Aside0.mk A30
 clear A30
 obtain rfl := Option.some.inj H
 go_enter Tryz.func38, Tryz.ntmps38
 go_wp2_with (first | ((with_reducible refine gate_callee (f := 59) rfl ?_); refine goesL_ (some 7) rfl rfl Tryz.func59 kr_ rfl #[.string a0, .string a1] rfl rl_ ?_; (with_reducible refine (stringslite_HasPrefix.calls a0 a1 t163 _ A3.out).mono ?_); rintro e w' ⟨rfl, ⟨nd, rfl⟩⟩; refine ⟨_, rfl, ?_⟩))
 go_ret
 exact ⟨by first | rfl | (simp; done) | (simp [*]; done) | (simp [bne_nil_isEmpty, beq_nil_isEmpty]; done) | (simp [*, bne_nil_isEmpty, beq_nil_isEmpty]; done), by repeat (first | exact Drawn0.refl _ | apply Drawn0.step)⟩

/-! ### path_Is: function 16 -/
def path_Is.ok (c : UInt8) : Bool := decide (33 ≤ c.toNat) && (decide (c.toNat ≤ 126) && (c.toNat != 63 && c.toNat != 35))
def path_Is.f (a0 : ByteArray) : Option (Bool) := if a0.data.toList.all path_Is.ok = true then ((strings_HasPrefix.f a0 (⟨#[47]⟩ : ByteArray)).bind fun t => (if t = true then (some (decide ((a0.size : Int) ≤ 60))) else (some false))) else (some false)
theorem path_Is.take_succ (s : ByteArray) (pos : Nat) (h : pos < s.size) (ha : (s.data.toList.take pos).all path_Is.ok = true) (hc : path_Is.ok (s[pos]'h) = true) : (s.data.toList.take (pos + 1)).all path_Is.ok = true := by
 rw [List.take_succ_eq_append_getElem (by simpa using h), List.all_append, ha]
 simp only [List.all_cons, List.all_nil, Bool.and_true, Bool.true_and]
 exact hc
theorem path_Is.not_all (s : ByteArray) (pos : Nat) (h : pos < s.size) (hc : ¬ path_Is.ok (s[pos]'h) = true) : ¬ s.data.toList.all path_Is.ok = true := by
 intro ha
 exact hc (List.all_eq_true.1 ha _ (List.getElem_mem (l := s.data.toList) (n := pos) (by simpa using h)))
theorem path_Is.bad_rune (s : ByteArray) (pos : Nat) (h : pos < s.size) (hc : ¬ path_Is.ok (s[pos]'h) = true) :
  (Utf8.decode s pos).1 < 33 ∨ (33 ≤ (Utf8.decode s pos).1 ∧ 126 < (Utf8.decode s pos).1) ∨ (Utf8.decode s pos).1 = 63 ∨ (Utf8.decode s pos).1 = 35 := by
 by_cases ha : (s[pos]'h).toNat < 128
 ·rw [decode_ascii s pos h ha]
  simp only [path_Is.ok, Bool.and_eq_true, decide_eq_true_eq, bne_iff_ne, not_and] at hc
  omega
 ·have := (decode_high s pos h (by omega)).1
  omega
set_option maxHeartbeats 8000000 in
set_option maxRecDepth 100000 in
theorem path_Is.calls (a0 : ByteArray) (r : Bool) (w : World) (h : path_Is.f a0 = some r) :
  Calls Tryz.prog 16 #[.string a0] w fun e w' => e = .returned (.bool r) ∧ Below w.heap.size w w' := by
 have H := Aside0.mk h
 clear h
 go_enter Tryz.func16, Tryz.ntmps16
 go_wp2
 go_loopw [] (fun wr => ∃ pos : Nat, wr = w.iter a0 pos ∧ pos ≤ a0.size ∧ (a0.data.toList.take pos).all path_Is.ok = true) (fun wr => a0.size - wr.iterPos w.heap.size)
 case atStart => exact ⟨0, rfl, by omega, by simp⟩
 case round =>
  obtain ⟨pos, rfl, hle, hall0⟩ := hrel
  have hall := Aside0.mk hall0
  clear hall0
  by_cases hp : pos < a0.size
  ·by_cases hc : path_Is.ok (a0[pos]'hp) = true
   ·have hc' := hc
    simp only [path_Is.ok, Bool.and_eq_true, decide_eq_true_eq, bne_iff_ne] at hc'
    obtain ⟨h1, h2, h3, h4⟩ := hc'
    have hnx := fun ty => run_next_ascii (P := Tryz.prog) w a0 pos ty hp (by omega)
    have hs := am_ (path_Is.take_succ a0 pos hp hall.out hc)
    clear hc hall
    have b1 : decide (((a0[pos]'hp).toNat : Int) < 33) = false := decide_eq_false (by omega)
    have b2 : decide (126 < ((a0[pos]'hp).toNat : Int)) = false := decide_eq_false (by omega)
    have b3 : (((a0[pos]'hp).toNat : Int) == 63) = false := beq_eq_false_iff_ne.2 (by omega)
    have b4 : (((a0[pos]'hp).toNat : Int) == 35) = false := beq_eq_false_iff_ne.2 (by omega)
    clear h1 h2 h3 h4
    go_wp2
    go_roundw
    case rel => exact ⟨pos + 1, rfl, by omega, hs.out⟩
    case measure => simp [World.iterPos_iter]; omega
   ·have hbad := path_Is.bad_rune a0 pos hp hc
    have hr : r = false := by
     have := H.out
     rw [path_Is.f, if_neg (path_Is.not_all a0 pos hp hc)] at this
     exact (Option.some.inj this).symm
    subst hr
    clear H hall hc
    have hnx := fun ty => run_next_any (P := Tryz.prog) w a0 pos ty hp
    generalize (Utf8.decode a0 pos).1 = c at hnx hbad
    generalize (Utf8.decode a0 pos).2 = n at hnx
    by_cases h1 : c < 33
    ·have b1 : decide ((c : Int) < 33) = true := decide_eq_true (by omega)
     clear hbad h1
     go_wp2
     go_ret
     exact ⟨rfl, (Below.refl _ w).alloc (Nat.le_refl _) _⟩
    ·have b1 : decide ((c : Int) < 33) = false := decide_eq_false (by omega)
     by_cases h2 : 126 < c
     ·have b2 : decide (126 < (c : Int)) = true := decide_eq_true (by omega)
      clear hbad h1 h2
      go_wp2
      go_ret
      exact ⟨rfl, (Below.refl _ w).alloc (Nat.le_refl _) _⟩
     ·have b2 : decide (126 < (c : Int)) = false := decide_eq_false (by omega)
      by_cases h3 : c = 63
      ·subst h3
       clear hbad h1 h2 b1 b2
       go_wp2
       go_ret
       exact ⟨rfl, (Below.refl _ w).alloc (Nat.le_refl _) _⟩
      ·obtain rfl : c = 35 := by omega
       clear hbad h1 h2 b1 b2 h3
       go_wp2
       go_ret
       exact ⟨rfl, (Below.refl _ w).alloc (Nat.le_refl _) _⟩
  ·have hnx := fun ty => run_next_end (P := Tryz.prog) w a0 pos ty hp
   have ha : a0.data.toList.all path_Is.ok = true := by
    have := hall.out
    rwa [List.take_of_length_le (by simp; omega)] at this
   have H2 := H.out
   clear H hall
   rw [path_Is.f, if_pos ha] at H2
   clear ha
   obtain ⟨t, ht, H2⟩ := Option.bind_eq_some_iff.1 H2
   have HT := Aside0.mk ht
   clear ht
   cases t
   ·rw [if_neg (by simp)] at H2
    obtain rfl := Option.some.inj H2
    clear H2
    go_wp2_with ((with_reducible refine (strings_HasPrefix.calls a0 _ false _ HT.out).mono ?_); rintro e w' ⟨rfl, ⟨nd, rfl⟩⟩)
    go_ret
    exact ⟨rfl, by repeat (first | (with_reducible first | exact Below.refl _ _ | apply below_alloc | apply pw_below_drewN | apply below_drew1 | apply World.iter) | exact (Below.refl _ w).alloc (Nat.le_refl _) _)⟩
   ·rw [if_pos rfl] at H2
    obtain rfl := Option.some.inj H2
    clear H2
    go_wp2_with ((with_reducible refine (strings_HasPrefix.calls a0 _ true _ HT.out).mono ?_); rintro e w' ⟨rfl, ⟨nd, rfl⟩⟩)
    go_ret
    exact ⟨by simp, by repeat (first | (with_reducible first | exact Below.refl _ _ | apply below_alloc | apply pw_below_drewN | apply below_drew1 | apply World.iter) | exact (Below.refl _ w).alloc (Nat.le_refl _) _)⟩

/-! ### pairs_Token: function 18 -/
def pairs_Token.l0 : Nat → ByteArray → Int → Int → Option (Bool)
 | 0, _, _, _ => none
 | k + 1, x0, x6, x7 => if x7 < x6 then (if 0 ≤ x7 then (if x7 < (x0.size : Int) then (if (Go.bits .or .u8 (bt x0 x7) 32) ≥ 97 then (if (Go.bits .or .u8 (bt x0 x7) 32) ≤ 122 then (pairs_Token.l0 k x0 x6 (wrap64 (x7 + 1))) else (if (bt x0 x7) ≥ 48 then (if (bt x0 x7) ≤ 57 then (pairs_Token.l0 k x0 x6 (wrap64 (x7 + 1))) else ((strings_IndexByte.f (⟨#[33, 35, 36, 37, 38, 39, 42, 43, 45, 46, 94, 95, 96, 124, 126]⟩ : ByteArray) (bt x0 x7)).bind fun t164 => (if t164 ≥ 0 then (pairs_Token.l0 k x0 x6 (wrap64 (x7 + 1))) else (some false)))) else ((strings_IndexByte.f (⟨#[33, 35, 36, 37, 38, 39, 42, 43, 45, 46, 94, 95, 96, 124, 126]⟩ : ByteArray) (bt x0 x7)).bind fun t165 => (if t165 ≥ 0 then (pairs_Token.l0 k x0 x6 (wrap64 (x7 + 1))) else (some false))))) else (if (bt x0 x7) ≥ 48 then (if (bt x0 x7) ≤ 57 then (pairs_Token.l0 k x0 x6 (wrap64 (x7 + 1))) else ((strings_IndexByte.f (⟨#[33, 35, 36, 37, 38, 39, 42, 43, 45, 46, 94, 95, 96, 124, 126]⟩ : ByteArray) (bt x0 x7)).bind fun t166 => (if t166 ≥ 0 then (pairs_Token.l0 k x0 x6 (wrap64 (x7 + 1))) else (some false)))) else ((strings_IndexByte.f (⟨#[33, 35, 36, 37, 38, 39, 42, 43, 45, 46, 94, 95, 96, 124, 126]⟩ : ByteArray) (bt x0 x7)).bind fun t167 => (if t167 ≥ 0 then (pairs_Token.l0 k x0 x6 (wrap64 (x7 + 1))) else (some false))))) else (none)) else (none)) else (if x0.toList = ([] : List UInt8) then (some false) else (some (decide ((x0.size : Int) ≤ 40))))
def pairs_Token.f (k : Nat) (a0 : ByteArray) : Option (Bool) := pairs_Token.l0 k a0 (a0.size : Int) 0
theorem pairs_Token.mono_l : ∀ k, (∀ y0 y1 y2, LeO (pairs_Token.l0 k y0 y1 y2) (pairs_Token.l0 (k + 1) y0 y1 y2))
 | 0 => fun _ _ _ r h => by simp [pairs_Token.l0] at h
 | k + 1 => by
  have ih0 := pairs_Token.mono_l k
  ·intro y0 y1 y2
   unfold pairs_Token.l0
   repeat' first
   | (with_reducible exact ih0 _ _ _)
   | (with_reducible exact LeO.refl _)
   | (with_reducible exact LeO.none _)
   | (with_reducible refine LeO.ite ?_ ?_)
   | (with_reducible refine LeO.bind ?_ (fun _ => ?_))
   | exact ih0 _ _ _
   | exact LeO.none _
   | refine LeO.ite ?_ ?_
   | refine LeO.bind ?_ (fun _ => ?_)
theorem pairs_Token.mono : ∀ a0 k, LeO (pairs_Token.f k a0) (pairs_Token.f (k + 1) a0) := by
 intro a0 k
 have ih0 := pairs_Token.mono_l k
 unfold pairs_Token.f
 repeat' first
   | (with_reducible exact ih0 _ _ _)
   | (with_reducible exact LeO.refl _)
   | (with_reducible exact LeO.none _)
   | (with_reducible refine LeO.ite ?_ ?_)
   | (with_reducible refine LeO.bind ?_ (fun _ => ?_))
   | exact ih0 _ _ _
   | exact LeO.none _
   | refine LeO.ite ?_ ?_
   | refine LeO.bind ?_ (fun _ => ?_)
set_option maxHeartbeats 8000000 in
set_option maxRecDepth 100000 in
theorem pairs_Token.calls (k : Nat) (a0 : ByteArray) (r : Bool) (w : World) (h : pairs_Token.f k a0 = some r) :
  Calls Tryz.prog 18 #[.string a0] w fun e w' => e = .returned (.bool r) ∧ Drawn0 w w' := by
 have H : (pairs_Token.l0 k a0 (a0.size : Int) 0) = some r := h
 clear h
 have H' := Aside0.mk H
 clear H
 go_enter Tryz.func18, Tryz.ntmps18
 go_wp2
 go_loopg [7] k (fun kq v7 w' => ∃ (x7_1 : Int), v7 = .int .i64 x7_1 ∧ Aside0 (pairs_Token.l0 kq a0 (a0.size : Int) x7_1 = some r) ∧ Aside0 (kq ≤ k) ∧ Drawn0 w w')
 case atStart => exact ⟨(0), sd_, H', ⟨Nat.le_refl _⟩, by repeat (first | exact Drawn0.refl _ | apply Drawn0.step)⟩
 case round =>
  clear H'
  try clear c1
  obtain ⟨x7_1, rfl, HA, HK1, ⟨m1, rfl⟩⟩ := hrel
  cases gk with
  | zero => exact absurd HA.out (by simp [pairs_Token.l0])
  | succ k1 =>
   have H := HA.out
   clear HA
   simp only [pairs_Token.l0] at H
   by_cases c2 : x7_1 < (a0.size : Int)
   ·rw [if_pos c2] at H
    have c2b0 : decide (x7_1 < (a0.size : Int)) = true := decide_eq_true c2
    clear c2
    by_cases c3 : 0 ≤ x7_1
    ·rw [if_pos c3] at H
     have c3b0 : decide (0 ≤ x7_1) = true := decide_eq_true c3
     clear c3
     by_cases c4 : x7_1 < (a0.size : Int)
     ·rw [if_pos c4] at H
      have c4b0 : decide (x7_1 < (a0.size : Int)) = true := decide_eq_true c4
      clear c4
      by_cases c6 : (Go.bits .or .u8 (bt a0 x7_1) 32) ≥ 97
      ·rw [if_pos c6] at H
       have c6b0 : decide (97 ≤ (Go.bits .or .u8 (bt a0 x7_1) 32)) = true := decide_eq_true c6
       clear c6
       by_cases c7 : (Go.bits .or .u8 (bt a0 x7_1) 32) ≤ 122
       ·rw [if_pos c7] at H
        have c7b0 : decide ((Go.bits .or .u8 (bt a0 x7_1) 32) ≤ 122) = true := decide_eq_true c7
        clear c7
        have H' := Aside0.mk H
        clear H
        have p5 : 0 ≤ (x7_1 : Int) := of_decide_eq_true as_
        have q5 : x7_1 < (a0.size : Int) := of_decide_eq_true as_
        have hx5 := bt_at a0 x7_1
        replace p5 := eq_true p5
        replace q5 := eq_true q5
        go_wp2
        go_roundg k1
        case measure => have := HK1.out; omega
        case rel => exact ⟨(wrap64 (x7_1 + 1)), sd_, H', ⟨by have := HK1.out; omega⟩, by repeat (first | exact Drawn0.refl _ | apply Drawn0.step)⟩
       ·rw [if_neg c7] at H
        have c7b0 : decide ((Go.bits .or .u8 (bt a0 x7_1) 32) ≤ 122) = false := decide_eq_false c7
        clear c7
        by_cases c9 : (bt a0 x7_1) ≥ 48
        ·rw [if_pos c9] at H
         have c9b0 : decide (48 ≤ (bt a0 x7_1)) = true := decide_eq_true c9
         clear c9
         by_cases c11 : (bt a0 x7_1) ≤ 57
         ·rw [if_pos c11] at H
          have c11b0 : decide ((bt a0 x7_1) ≤ 57) = true := decide_eq_true c11
          clear c11
          have H' := Aside0.mk H
          clear H
          have p5 : 0 ≤ (x7_1 : Int) := of_decide_eq_true as_
          have q5 : x7_1 < (a0.size : Int) := of_decide_eq_true as_
          have hx5 := bt_at a0 x7_1
          replace p5 := eq_true p5
          replace q5 := eq_true q5
          have p8 : 0 ≤ (x7_1 : Int) := of_decide_eq_true as_
          have q8 : x7_1 < (a0.size : Int) := of_decide_eq_true as_
          have hx8 := bt_at a0 x7_1
          replace p8 := eq_true p8
          replace q8 := eq_true q8
          have p10 : 0 ≤ (x7_1 : Int) := of_decide_eq_true as_
          have q10 : x7_1 < (a0.size : Int) := of_decide_eq_true as_
          have hx10 := bt_at a0 x7_1
          replace p10 := eq_true p10
          replace q10 := eq_true q10
          go_wp2
          go_roundg k1
          case measure => have := HK1.out; omega
          case rel => exact ⟨(wrap64 (x7_1 + 1)), sd_, H', ⟨by have := HK1.out; omega⟩, by repeat (first | exact Drawn0.refl _ | apply Drawn0.step)⟩
         ·rw [if_neg c11] at H
          have c11b0 : decide ((bt a0 x7_1) ≤ 57) = false := decide_eq_false c11
          clear c11
          replace H := Option.bind_eq_some_iff.mp H
          obtain ⟨t164, A130, H⟩ := H
          replace H : (if t164 ≥ 0 then (pairs_Token.l0 k1 a0 (a0.size : Int) (wrap64 (x7_1 + 1))) else (some false)) = some r := H
          have A13 := Aside0.mk A130
          clear A130
          by_cases c14 : t164 ≥ 0
          ·rw [if_pos c14] at H
           have c14b0 : decide (0 ≤ t164) = true := decide_eq_true c14
           clear c14
           have H' := Aside0.mk H
           clear H
           have p5 : 0 ≤ (x7_1 : Int) := of_decide_eq_true as_
           have q5 : x7_1 < (a0.size : Int) := of_decide_eq_true as_
           have hx5 := bt_at a0 x7_1
           replace p5 := eq_true p5
           replace q5 := eq_true q5
           have p8 : 0 ≤ (x7_1 : Int) := of_decide_eq_true as_
           have q8 : x7_1 < (a0.size : Int) := of_decide_eq_true as_
           have hx8 := bt_at a0 x7_1
           replace p8 := eq_true p8
           replace q8 := eq_true q8
           have p10 : 0 ≤ (x7_1 : Int) := of_decide_eq_true as_
           have q10 : x7_1 < (a0.size : Int) := of_decide_eq_true as_
           have hx10 := bt_at a0 x7_1
           replace p10 := eq_true p10
           replace q10 := eq_true q10
           have p12 : 0 ≤ (x7_1 : Int) := of_decide_eq_true as_
           have q12 : x7_1 < (a0.size : Int) := of_decide_eq_true as_
           have hx12 := bt_at a0 x7_1
           replace p12 := eq_true p12
           replace q12 := eq_true q12
           go_wp2_with (first | (go_at_call 40; (with_reducible refine (strings_IndexByte.calls (⟨#[33, 35, 36, 37, 38, 39, 42, 43, 45, 46, 94, 95, 96, 124, 126]⟩ : ByteArray) (bt a0 x7_1) t164 _ A13.out).mono ?_); rintro e w' ⟨rfl, ⟨nd, rfl⟩⟩))
           go_roundg k1
           case measure => have := HK1.out; omega
           case rel => exact ⟨(wrap64 (x7_1 + 1)), sd_, H', ⟨by have := HK1.out; omega⟩, by repeat (first | exact Drawn0.refl _ | apply Drawn0.step)⟩
          ·rw [if_neg c14] at H
           have c14b0 : decide (0 ≤ t164) = false := decide_eq_false c14
           clear c14
           obtain rfl := Option.some.inj H
           have p5 : 0 ≤ (x7_1 : Int) := of_decide_eq_true as_
           have q5 : x7_1 < (a0.size : Int) := of_decide_eq_true as_
           have hx5 := bt_at a0 x7_1
           replace p5 := eq_true p5
           replace q5 := eq_true q5
           have p8 : 0 ≤ (x7_1 : Int) := of_decide_eq_true as_
           have q8 : x7_1 < (a0.size : Int) := of_decide_eq_true as_
           have hx8 := bt_at a0 x7_1
           replace p8 := eq_true p8
           replace q8 := eq_true q8
           have p10 : 0 ≤ (x7_1 : Int) := of_decide_eq_true as_
           have q10 : x7_1 < (a0.size : Int) := of_decide_eq_true as_
           have hx10 := bt_at a0 x7_1
           replace p10 := eq_true p10
           replace q10 := eq_true q10
           have p12 : 0 ≤ (x7_1 : Int) := of_decide_eq_true as_
           have q12 : x7_1 < (a0.size : Int) := of_decide_eq_true as_
           have hx12 := bt_at a0 x7_1
           replace p12 := eq_true p12
           replace q12 := eq_true q12
           go_wp2_with (first | (go_at_call 40; (with_reducible refine (strings_IndexByte.calls (⟨#[33, 35, 36, 37, 38, 39, 42, 43, 45, 46, 94, 95, 96, 124, 126]⟩ : ByteArray) (bt a0 x7_1) t164 _ A13.out).mono ?_); rintro e w' ⟨rfl, ⟨nd, rfl⟩⟩))
           go_ret
           exact ⟨by first | rfl | (simp; done) | (simp [*]; done) | (simp [bne_nil_isEmpty, beq_nil_isEmpty]; done) | (simp [*, bne_nil_isEmpty, beq_nil_isEmpty]; done), by repeat (first | exact Drawn0.refl _ | apply Drawn0.step)⟩
        ·rw [if_neg c9] at H
         have c9b0 : decide (48 ≤ (bt a0 x7_1)) = false := decide_eq_false c9
         clear c9
         replace H := Option.bind_eq_some_iff.mp H
         obtain ⟨t165, A160, H⟩ := H
         replace H : (if t165 ≥ 0 then (pairs_Token.l0 k1 a0 (a0.size : Int) (wrap64 (x7_1 + 1))) else (some false)) = some r := H
         have A16 := Aside0.mk A160
         clear A160
         by_cases c17 : t165 ≥ 0
         ·rw [if_pos c17] at H
          have c17b0 : decide (0 ≤ t165) = true := decide_eq_true c17
          clear c17
          have H' := Aside0.mk H
          clear H
          have p5 : 0 ≤ (x7_1 : Int) := of_decide_eq_true as_
          have q5 : x7_1 < (a0.size : Int) := of_decide_eq_true as_
          have hx5 := bt_at a0 x7_1
          replace p5 := eq_true p5
          replace q5 := eq_true q5
          have p8 : 0 ≤ (x7_1 : Int) := of_decide_eq_true as_
          have q8 : x7_1 < (a0.size : Int) := of_decide_eq_true as_
          have hx8 := bt_at a0 x7_1
          replace p8 := eq_true p8
          replace q8 := eq_true q8
          have p15 : 0 ≤ (x7_1 : Int) := of_decide_eq_true as_
          have q15 : x7_1 < (a0.size : Int) := of_decide_eq_true as_
          have hx15 := bt_at a0 x7_1
          replace p15 := eq_true p15
          replace q15 := eq_true q15
          go_wp2_with (first | (go_at_call 40; (with_reducible refine (strings_IndexByte.calls (⟨#[33, 35, 36, 37, 38, 39, 42, 43, 45, 46, 94, 95, 96, 124, 126]⟩ : ByteArray) (bt a0 x7_1) t165 _ A16.out).mono ?_); rintro e w' ⟨rfl, ⟨nd, rfl⟩⟩))
          go_roundg k1
          case measure => have := HK1.out; omega
          case rel => exact ⟨(wrap64 (x7_1 + 1)), sd_, H', ⟨by have := HK1.out; omega⟩, by repeat (first | exact Drawn0.refl _ | apply Drawn0.step)⟩
         ·rw [if_neg c17] at H
          have c17b0 : decide (0 ≤ t165) = false := decide_eq_false c17
          clear c17
          obtain rfl := Option.some.inj H
          have p5 : 0 ≤ (x7_1 : Int) := of_decide_eq_true as_
          have q5 : x7_1 < (a0.size : Int) := of_decide_eq_true as_
          have hx5 := bt_at a0 x7_1
          replace p5 := eq_true p5
          replace q5 := eq_true q5
          have p8 : 0 ≤ (x7_1 : Int) := of_decide_eq_true as_
          have q8 : x7_1 < (a0.size : Int) := of_decide_eq_true as_
          have hx8 := bt_at a0 x7_1
          replace p8 := eq_true p8
          replace q8 := eq_true q8
          have p15 : 0 ≤ (x7_1 : Int) := of_decide_eq_true as_
          have q15 : x7_1 < (a0.size : Int) := of_decide_eq_true as_
          have hx15 := bt_at a0 x7_1
          replace p15 := eq_true p15
          replace q15 := eq_true q15
          go_wp2_with (first | (go_at_call 40; (with_reducible refine (strings_IndexByte.calls (⟨#[33, 35, 36, 37, 38, 39, 42, 43, 45, 46, 94, 95, 96, 124, 126]⟩ : ByteArray) (bt a0 x7_1) t165 _ A16.out).mono ?_); rintro e w' ⟨rfl, ⟨nd, rfl⟩⟩))
          go_ret
          exact ⟨by first | rfl | (simp; done) | (simp [*]; done) | (simp [bne_nil_isEmpty, beq_nil_isEmpty]; done) | (simp [*, bne_nil_isEmpty, beq_nil_isEmpty]; done), by repeat (first | exact Drawn0.refl _ | apply Drawn0.step)⟩
      ·rw [if_neg c6] at H
       have c6b0 : decide (97 ≤ (Go.bits .or .u8 (bt a0 x7_1) 32)) = false := decide_eq_false c6
       clear c6
       by_cases c19 : (bt a0 x7_1) ≥ 48
       ·rw [if_pos c19] at H
        have c19b0 : decide (48 ≤ (bt a0 x7_1)) = true := decide_eq_true c19
        clear c19
        by_cases c21 : (bt a0 x7_1) ≤ 57
        ·rw [if_pos c21] at H
         have c21b0 : decide ((bt a0 x7_1) ≤ 57) = true := decide_eq_true c21
         clear c21
         have H' := Aside0.mk H
         clear H
         have p5 : 0 ≤ (x7_1 : Int) := of_decide_eq_true as_
         have q5 : x7_1 < (a0.size : Int) := of_decide_eq_true as_
         have hx5 := bt_at a0 x7_1
         replace p5 := eq_true p5
         replace q5 := eq_true q5
         have p18 : 0 ≤ (x7_1 : Int) := of_decide_eq_true as_
         have q18 : x7_1 < (a0.size : Int) := of_decide_eq_true as_
         have hx18 := bt_at a0 x7_1
         replace p18 := eq_true p18
         replace q18 := eq_true q18
         have p20 : 0 ≤ (x7_1 : Int) := of_decide_eq_true as_
         have q20 : x7_1 < (a0.size : Int) := of_decide_eq_true as_
         have hx20 := bt_at a0 x7_1
         replace p20 := eq_true p20
         replace q20 := eq_true q20
         go_wp2
         go_roundg k1
         case measure => have := HK1.out; omega
         case rel => exact ⟨(wrap64 (x7_1 + 1)), sd_, H', ⟨by have := HK1.out; omega⟩, by repeat (first | exact Drawn0.refl _ | apply Drawn0.step)⟩
        ·rw [if_neg c21] at H
         have c21b0 : decide ((bt a0 x7_1) ≤ 57) = false := decide_eq_false c21
         clear c21
         replace H := Option.bind_eq_some_iff.mp H
         obtain ⟨t166, A230, H⟩ := H
         replace H : (if t166 ≥ 0 then (pairs_Token.l0 k1 a0 (a0.size : Int) (wrap64 (x7_1 + 1))) else (some false)) = some r := H
         have A23 := Aside0.mk A230
         clear A230
         by_cases c24 : t166 ≥ 0
         ·rw [if_pos c24] at H
          have c24b0 : decide (0 ≤ t166) = true := decide_eq_true c24
          clear c24
          have H' := Aside0.mk H
          clear H
          have p5 : 0 ≤ (x7_1 : Int) := of_decide_eq_true as_
          have q5 : x7_1 < (a0.size : Int) := of_decide_eq_true as_
          have hx5 := bt_at a0 x7_1
          replace p5 := eq_true p5
          replace q5 := eq_true q5
          have p18 : 0 ≤ (x7_1 : Int) := of_decide_eq_true as_
          have q18 : x7_1 < (a0.size : Int) := of_decide_eq_true as_
          have hx18 := bt_at a0 x7_1
          replace p18 := eq_true p18
          replace q18 := eq_true q18
          have p20 : 0 ≤ (x7_1 : Int) := of_decide_eq_true as_
          have q20 : x7_1 < (a0.size : Int) := of_decide_eq_true as_
          have hx20 := bt_at a0 x7_1
          replace p20 := eq_true p20
          replace q20 := eq_true q20
          have p22 : 0 ≤ (x7_1 : Int) := of_decide_eq_true as_
          have q22 : x7_1 < (a0.size : Int) := of_decide_eq_true as_
          have hx22 := bt_at a0 x7_1
          replace p22 := eq_true p22
          replace q22 := eq_true q22
          go_wp2_with (first | (go_at_call 40; (with_reducible refine (strings_IndexByte.calls (⟨#[33, 35, 36, 37, 38, 39, 42, 43, 45, 46, 94, 95, 96, 124, 126]⟩ : ByteArray) (bt a0 x7_1) t166 _ A23.out).mono ?_); rintro e w' ⟨rfl, ⟨nd, rfl⟩⟩))
          go_roundg k1
          case measure => have := HK1.out; omega
          case rel => exact ⟨(wrap64 (x7_1 + 1)), sd_, H', ⟨by have := HK1.out; omega⟩, by repeat (first | exact Drawn0.refl _ | apply Drawn0.step)⟩
         ·rw [if_neg c24] at H
          have c24b0 : decide (0 ≤ t166) = false := decide_eq_false c24
          clear c24
          obtain rfl := Option.some.inj H
          have p5 : 0 ≤ (x7_1 : Int) := of_decide_eq_true as_
          have q5 : x7_1 < (a0.size : Int) := of_decide_eq_true as_
          have hx5 := bt_at a0 x7_1
          replace p5 := eq_true p5
          replace q5 := eq_true q5
          have p18 : 0 ≤ (x7_1 : Int) := of_decide_eq_true as_
          have q18 : x7_1 < (a0.size : Int) := of_decide_eq_true as_
          have hx18 := bt_at a0 x7_1
          replace p18 := eq_true p18
          replace q18 := eq_true q18
          have p20 : 0 ≤ (x7_1 : Int) := of_decide_eq_true as_
          have q20 : x7_1 < (a0.size : Int) := of_decide_eq_true as_
          have hx20 := bt_at a0 x7_1
          replace p20 := eq_true p20
          replace q20 := eq_true q20
          have p22 : 0 ≤ (x7_1 : Int) := of_decide_eq_true as_
          have q22 : x7_1 < (a0.size : Int) := of_decide_eq_true as_
          have hx22 := bt_at a0 x7_1
          replace p22 := eq_true p22
          replace q22 := eq_true q22
          go_wp2_with (first | (go_at_call 40; (with_reducible refine (strings_IndexByte.calls (⟨#[33, 35, 36, 37, 38, 39, 42, 43, 45, 46, 94, 95, 96, 124, 126]⟩ : ByteArray) (bt a0 x7_1) t166 _ A23.out).mono ?_); rintro e w' ⟨rfl, ⟨nd, rfl⟩⟩))
          go_ret
          exact ⟨by first | rfl | (simp; done) | (simp [*]; done) | (simp [bne_nil_isEmpty, beq_nil_isEmpty]; done) | (simp [*, bne_nil_isEmpty, beq_nil_isEmpty]; done), by repeat (first | exact Drawn0.refl _ | apply Drawn0.step)⟩
       ·rw [if_neg c19] at H
        have c19b0 : decide (48 ≤ (bt a0 x7_1)) = false := decide_eq_false c19
        clear c19
        replace H := Option.bind_eq_some_iff.mp H
        obtain ⟨t167, A260, H⟩ := H
        replace H : (if t167 ≥ 0 then (pairs_Token.l0 k1 a0 (a0.size : Int) (wrap64 (x7_1 + 1))) else (some false)) = some r := H
        have A26 := Aside0.mk A260
        clear A260
        by_cases c27 : t167 ≥ 0
        ·rw [if_pos c27] at H
         have c27b0 : decide (0 ≤ t167) = true := decide_eq_true c27
         clear c27
         have H' := Aside0.mk H
         clear H
         have p5 : 0 ≤ (x7_1 : Int) := of_decide_eq_true as_
         have q5 : x7_1 < (a0.size : Int) := of_decide_eq_true as_
         have hx5 := bt_at a0 x7_1
         replace p5 := eq_true p5
         replace q5 := eq_true q5
         have p18 : 0 ≤ (x7_1 : Int) := of_decide_eq_true as_
         have q18 : x7_1 < (a0.size : Int) := of_decide_eq_true as_
         have hx18 := bt_at a0 x7_1
         replace p18 := eq_true p18
         replace q18 := eq_true q18
         have p25 : 0 ≤ (x7_1 : Int) := of_decide_eq_true as_
         have q25 : x7_1 < (a0.size : Int) := of_decide_eq_true as_
         have hx25 := bt_at a0 x7_1
         replace p25 := eq_true p25
         replace q25 := eq_true q25
         go_wp2_with (first | (go_at_call 40; (with_reducible refine (strings_IndexByte.calls (⟨#[33, 35, 36, 37, 38, 39, 42, 43, 45, 46, 94, 95, 96, 124, 126]⟩ : ByteArray) (bt a0 x7_1) t167 _ A26.out).mono ?_); rintro e w' ⟨rfl, ⟨nd, rfl⟩⟩))
         go_roundg k1
         case measure => have := HK1.out; omega
         case rel => exact ⟨(wrap64 (x7_1 + 1)), sd_, H', ⟨by have := HK1.out; omega⟩, by repeat (first | exact Drawn0.refl _ | apply Drawn0.step)⟩
        ·rw [if_neg c27] at H
         have c27b0 : decide (0 ≤ t167) = false := decide_eq_false c27
         clear c27
         obtain rfl := Option.some.inj H
         have p5 : 0 ≤ (x7_1 : Int) := of_decide_eq_true as_
         have q5 : x7_1 < (a0.size : Int) := of_decide_eq_true as_
         have hx5 := bt_at a0 x7_1
         replace p5 := eq_true p5
         replace q5 := eq_true q5
         have p18 : 0 ≤ (x7_1 : Int) := of_decide_eq_true as_
         have q18 : x7_1 < (a0.size : Int) := of_decide_eq_true as_
         have hx18 := bt_at a0 x7_1
         replace p18 := eq_true p18
         replace q18 := eq_true q18
         have p25 : 0 ≤ (x7_1 : Int) := of_decide_eq_true as_
         have q25 : x7_1 < (a0.size : Int) := of_decide_eq_true as_
         have hx25 := bt_at a0 x7_1
         replace p25 := eq_true p25
         replace q25 := eq_true q25
         go_wp2_with (first | (go_at_call 40; (with_reducible refine (strings_IndexByte.calls (⟨#[33, 35, 36, 37, 38, 39, 42, 43, 45, 46, 94, 95, 96, 124, 126]⟩ : ByteArray) (bt a0 x7_1) t167 _ A26.out).mono ?_); rintro e w' ⟨rfl, ⟨nd, rfl⟩⟩))
         go_ret
         exact ⟨by first | rfl | (simp; done) | (simp [*]; done) | (simp [bne_nil_isEmpty, beq_nil_isEmpty]; done) | (simp [*, bne_nil_isEmpty, beq_nil_isEmpty]; done), by repeat (first | exact Drawn0.refl _ | apply Drawn0.step)⟩
     ·rw [if_neg c4] at H
      exact absurd H (by simp)
    ·rw [if_neg c3] at H
     exact absurd H (by simp)
   ·rw [if_neg c2] at H
    have c2b0 : decide (x7_1 < (a0.size : Int)) = false := decide_eq_false c2
    clear c2
    by_cases c28 : a0.toList = ([] : List UInt8)
    ·rw [if_pos c28] at H
     have c28b0 : (a0.toList == ([] : List UInt8)) = true := beq_iff_eq.mpr c28
     have c28b1 : (a0.toList != ([] : List UInt8)) = false := bne_eq_false_iff_eq.mpr c28
     clear c28
     obtain rfl := Option.some.inj H
     go_wp2
     go_ret
     exact ⟨by first | rfl | (simp; done) | (simp [*]; done) | (simp [bne_nil_isEmpty, beq_nil_isEmpty]; done) | (simp [*, bne_nil_isEmpty, beq_nil_isEmpty]; done), by repeat (first | exact Drawn0.refl _ | apply Drawn0.step)⟩
    ·rw [if_neg c28] at H
     have c28b0 : (a0.toList == ([] : List UInt8)) = false := beq_eq_false_iff_ne.mpr c28
     have c28b1 : (a0.toList != ([] : List UInt8)) = true := bne_iff_ne.mpr c28
     obtain rfl := Option.some.inj H
     go_wp2
     go_ret
     exact ⟨by first | rfl | (simp; done) | (simp [*]; done) | (simp [bne_nil_isEmpty, beq_nil_isEmpty]; done) | (simp [*, bne_nil_isEmpty, beq_nil_isEmpty]; done), by repeat (first | exact Drawn0.refl _ | apply Drawn0.step)⟩

/-! ### pairs_Value: function 19 -/
def pairs_Value.l0 : Nat → ByteArray → Int → Int → Option (Bool)
 | 0, _, _, _ => none
 | k + 1, x0, x5, x6 => if x6 < x5 then (if 0 ≤ x6 then (if x6 < (x0.size : Int) then (if (bt x0 x6) < 32 then (some false) else (if (bt x0 x6) > 126 then (some false) else (pairs_Value.l0 k x0 x5 (wrap64 (x6 + 1))))) else (none)) else (none)) else (if (x0.size : Int) ≤ 40 then ((strings_Trim.f x0 (⟨#[32]⟩ : ByteArray)).bind fun t168 => (some (t168.toList == x0.toList))) else (some false))
def pairs_Value.f (k : Nat) (a0 : ByteArray) : Option (Bool) := pairs_Value.l0 k a0 (a0.size : Int) 0
theorem pairs_Value.mono_l : ∀ k, (∀ y0 y1 y2, LeO (pairs_Value.l0 k y0 y1 y2) (pairs_Value.l0 (k + 1) y0 y1 y2))
 | 0 => fun _ _ _ r h => by simp [pairs_Value.l0] at h
 | k + 1 => by
  have ih0 := pairs_Value.mono_l k
  ·intro y0 y1 y2
   unfold pairs_Value.l0
   repeat' first
   | (with_reducible exact ih0 _ _ _)
   | (with_reducible exact LeO.refl _)
   | (with_reducible exact LeO.none _)
   | (with_reducible refine LeO.ite ?_ ?_)
   | (with_reducible refine LeO.bind ?_ (fun _ => ?_))
   | exact ih0 _ _ _
   | exact LeO.none _
   | refine LeO.ite ?_ ?_
   | refine LeO.bind ?_ (fun _ => ?_)
theorem pairs_Value.mono : ∀ a0 k, LeO (pairs_Value.f k a0) (pairs_Value.f (k + 1) a0) := by
 intro a0 k
 have ih0 := pairs_Value.mono_l k
 unfold pairs_Value.f
 repeat' first
   | (with_reducible exact ih0 _ _ _)
   | (with_reducible exact LeO.refl _)
   | (with_reducible exact LeO.none _)
   | (with_reducible refine LeO.ite ?_ ?_)
   | (with_reducible refine LeO.bind ?_ (fun _ => ?_))
   | exact ih0 _ _ _
   | exact LeO.none _
   | refine LeO.ite ?_ ?_
   | refine LeO.bind ?_ (fun _ => ?_)
set_option maxHeartbeats 8000000 in
set_option maxRecDepth 100000 in
theorem pairs_Value.calls (k : Nat) (a0 : ByteArray) (r : Bool) (w : World) (h : pairs_Value.f k a0 = some r) :
  Calls Tryz.prog 19 #[.string a0] w fun e w' => e = .returned (.bool r) ∧ Below w.heap.size w w' := by
 have HB := am_ (Below.refl w.heap.size w)
 have H : (pairs_Value.l0 k a0 (a0.size : Int) 0) = some r := h
 clear h
 have H' := Aside0.mk H
 clear H
 go_enter Tryz.func19, Tryz.ntmps19
 go_wp2
 go_loopg [6] k (fun kq v6 w' => ∃ (x6_1 : Int), v6 = .int .i64 x6_1 ∧ Aside0 (pairs_Value.l0 kq a0 (a0.size : Int) x6_1 = some r) ∧ Aside0 (kq ≤ k) ∧ Aside0 (Below w.heap.size w w'))
 case atStart => exact ⟨(0), sd_, H', ⟨Nat.le_refl _⟩, ⟨bel_ HB.out⟩⟩
 case round =>
  clear H'
  try clear c1
  obtain ⟨x6_1, rfl, HA, HK1, HB⟩ := hrel
  cases gk with
  | zero => exact absurd HA.out (by simp [pairs_Value.l0])
  | succ k1 =>
   have H := HA.out
   clear HA
   simp only [pairs_Value.l0] at H
   by_cases c2 : x6_1 < (a0.size : Int)
   ·rw [if_pos c2] at H
    have c2b0 : decide (x6_1 < (a0.size : Int)) = true := decide_eq_true c2
    clear c2
    by_cases c3 : 0 ≤ x6_1
    ·rw [if_pos c3] at H
     have c3b0 : decide (0 ≤ x6_1) = true := decide_eq_true c3
     clear c3
     by_cases c4 : x6_1 < (a0.size : Int)
     ·rw [if_pos c4] at H
      have c4b0 : decide (x6_1 < (a0.size : Int)) = true := decide_eq_true c4
      clear c4
      by_cases c6 : (bt a0 x6_1) < 32
      ·rw [if_pos c6] at H
       have c6b0 : decide ((bt a0 x6_1) < 32) = true := decide_eq_true c6
       clear c6
       obtain rfl := Option.some.inj H
       have p5 : 0 ≤ (x6_1 : Int) := of_decide_eq_true as_
       have q5 : x6_1 < (a0.size : Int) := of_decide_eq_true as_
       have hx5 := bt_at a0 x6_1
       replace p5 := eq_true p5
       replace q5 := eq_true q5
       go_wp2
       go_ret
       exact ⟨fi_, bel_ HB.out⟩
      ·rw [if_neg c6] at H
       have c6b0 : decide ((bt a0 x6_1) < 32) = false := decide_eq_false c6
       clear c6
       by_cases c8 : (bt a0 x6_1) > 126
       ·rw [if_pos c8] at H
        have c8b0 : decide (126 < (bt a0 x6_1)) = true := decide_eq_true c8
        clear c8
        obtain rfl := Option.some.inj H
        have p5 : 0 ≤ (x6_1 : Int) := of_decide_eq_true as_
        have q5 : x6_1 < (a0.size : Int) := of_decide_eq_true as_
        have hx5 := bt_at a0 x6_1
        replace p5 := eq_true p5
        replace q5 := eq_true q5
        have p7 : 0 ≤ (x6_1 : Int) := of_decide_eq_true as_
        have q7 : x6_1 < (a0.size : Int) := of_decide_eq_true as_
        have hx7 := bt_at a0 x6_1
        replace p7 := eq_true p7
        replace q7 := eq_true q7
        go_wp2
        go_ret
        exact ⟨fi_, bel_ HB.out⟩
       ·rw [if_neg c8] at H
        have c8b0 : decide (126 < (bt a0 x6_1)) = false := decide_eq_false c8
        clear c8
        have H' := Aside0.mk H
        clear H
        have p5 : 0 ≤ (x6_1 : Int) := of_decide_eq_true as_
        have q5 : x6_1 < (a0.size : Int) := of_decide_eq_true as_
        have hx5 := bt_at a0 x6_1
        replace p5 := eq_true p5
        replace q5 := eq_true q5
        have p7 : 0 ≤ (x6_1 : Int) := of_decide_eq_true as_
        have q7 : x6_1 < (a0.size : Int) := of_decide_eq_true as_
        have hx7 := bt_at a0 x6_1
        replace p7 := eq_true p7
        replace q7 := eq_true q7
        go_wp2
        go_roundg k1
        case measure => have := HK1.out; omega
        case rel => exact ⟨(wrap64 (x6_1 + 1)), sd_, H', ⟨by have := HK1.out; omega⟩, ⟨bel_ HB.out⟩⟩
     ·rw [if_neg c4] at H
      exact absurd H (by simp)
    ·rw [if_neg c3] at H
     exact absurd H (by simp)
   ·rw [if_neg c2] at H
    have c2b0 : decide (x6_1 < (a0.size : Int)) = false := decide_eq_false c2
    clear c2
    by_cases c9 : (a0.size : Int) ≤ 40
    ·rw [if_pos c9] at H
     have c9b0 : decide ((a0.size : Int) ≤ 40) = true := decide_eq_true c9
     have c9b1 : decide (a0.size ≤ 40) = true := decide_eq_true (by omega)
     clear c9
     replace H := Option.bind_eq_some_iff.mp H
     obtain ⟨t168, A100, H⟩ := H
     replace H : (some (t168.toList == a0.toList)) = some r := H
     have A10 := Aside0.mk A100
     clear A100
     obtain rfl := Option.some.inj H
     go_wp2_with (first | (go_at_call 41; (with_reducible refine (strings_Trim.calls a0 (⟨#[32]⟩ : ByteArray) t168 _ A10.out).mono ?_); rintro e w11 ⟨rfl, hb⟩; have n0_ := am_ (below_step (bel_ HB.out) hb); clear HB; have HB := n0_; clear n0_; (try clear hb); (try clear hb2); (try clear hk); (try clear hi)))
     go_ret
     exact ⟨fi_, bel_ HB.out⟩
    ·rw [if_neg c9] at H
     have c9b0 : decide ((a0.size : Int) ≤ 40) = false := decide_eq_false c9
     have c9b1 : decide (a0.size ≤ 40) = false := decide_eq_false (by omega)
     clear c9
     obtain rfl := Option.some.inj H
     go_wp2
     go_ret
     exact ⟨fi_, bel_ HB.out⟩

end Go.Proofs.YtpmllmfamjpinaaGreatDoor.P
