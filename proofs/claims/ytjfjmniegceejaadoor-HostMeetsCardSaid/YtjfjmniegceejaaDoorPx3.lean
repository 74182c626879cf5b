-- written by wip/tool/hprint.py of this repo: the kit's print, with contracts by hand joined; Lean checks it.
import Derived.Test.YtjfjmniegceejaaDoorPx0
import Derived.Test.YtjfjmniegceejaaDoorPx2
namespace Go.Proofs.YtjfjmniegceejaaDoor.P
open Go.RowKit Go.Proofs.YtjfjmniegceejaaDoorW.PrintWords Go.Proofs.YtjfjmniegceejaaDoorW.PrintLast Go.Proofs.YtjfjmniegceejaaDoorW.PrintMore
attribute [local go_sem] max2_int min2_int max_two min_two max_three min_three max_four min_four   -- for this text's walks alone
set_option linter.unusedVariables false
set_option linter.unusedSimpArgs false

/-! ### strings_splitSeq: functions 46, 56, 69 -/
theorem new_l (W : World) (v : Value) (t : TypeId) : (W.alloc (.cells #[v] t)).cell? ⟨W.heap.size, 0, none⟩ = some v ∧ (W.alloc (.cells #[v] t)).frozen? ⟨W.heap.size, 0, none⟩ = false := by
  have h := World.alloc_heap_new W (.cells #[v] t)
  exact ⟨by unfold World.cell?; rw [h]; rfl, by unfold World.frozen?; rw [h]; rfl⟩
theorem kept_l {W : World} {a : Addr} {v : Value} (o : Obj) (h : W.cell? a = some v) : (W.alloc o).cell? a = some v := Go.cell_kept h (World.grownBy_alloc W o none) (fun r e => by cases e)
theorem kept_f {W : World} {a : Addr} {v : Value} (o : Obj) (h : W.cell? a = some v) (hf : W.frozen? a = false) : (W.alloc o).frozen? a = false := (Go.frozen_kept h (World.grownBy_alloc W o none) (fun r e => by cases e)).trans hf
/-- What lies between cuts: ix tells where the next one is; m: how long it is. -/
def cuts (ix : ByteArray → Int) (m : Nat) : Nat → ByteArray → List ByteArray
  | 0, s => [s]
  | k + 1, s => if ix s < 0 then [s] else s.extract 0 (ix s).toNat :: cuts ix m k (s.extract ((ix s).toNat + m) s.size)
theorem cuts_neg {ix : ByteArray → Int} {m : Nat} {s : ByteArray} (h : ix s < 0) : ∀ k, cuts ix m k s = [s]
  | 0 => rfl
  | k + 1 => by rw [cuts, if_pos h]
theorem cuts_pos {ix : ByteArray → Int} {m k : Nat} {s : ByteArray} (h : ¬ ix s < 0) : cuts ix m (k + 1) s = s.extract 0 (ix s).toNat :: cuts ix m k (s.extract ((ix s).toNat + m) s.size) := by rw [cuts, if_neg h]
theorem cuts_more (ix : ByteArray → Int) (m : Nat) (hm : 1 ≤ m) (hb : ∀ s, 0 ≤ ix s → (ix s).toNat + m ≤ s.size) : ∀ (k : Nat) (s : ByteArray), s.size ≤ k → cuts ix m (k + 1) s = cuts ix m k s := by
  intro k
  induction k with
  | zero =>
    intro s h
    by_cases c : ix s < 0
    · rw [cuts_neg c, cuts_neg c]
    · have := hb s (by omega); omega
  | succ k ih =>
    intro s h
    by_cases c : ix s < 0
    · rw [cuts_neg c, cuts_neg c]
    · rw [cuts_pos c, cuts_pos (k := k) c, ih _ (by have := hb s (by omega); rw [ByteArray.size_extract]; omega)]
theorem cuts_enough (ix : ByteArray → Int) (m : Nat) (hm : 1 ≤ m) (hb : ∀ s, 0 ≤ ix s → (ix s).toNat + m ≤ s.size) (s : ByteArray) : ∀ (k : Nat), s.size ≤ k → cuts ix m k s = cuts ix m s.size s := by
  intro k
  induction k with
  | zero => intro h; rw [show s.size = 0 by omega]
  | succ k ih =>
    intro h
    rcases Nat.lt_or_ge k s.size with c | c
    · rw [show s.size = k + 1 by omega]
    · rw [cuts_more ix m hm hb k s c, ih c]
theorem cuts_cons (ix : ByteArray → Int) (m : Nat) (hm : 1 ≤ m) (hb : ∀ s, 0 ≤ ix s → (ix s).toNat + m ≤ s.size) {s : ByteArray} {i : Nat} (h : ix s = (i : Int)) :
    cuts ix m s.size s = s.extract 0 i :: cuts ix m (s.extract (i + m) s.size).size (s.extract (i + m) s.size) := by
  have h1 := hb s (by omega)
  rw [h, Int.toNat_natCast] at h1
  obtain ⟨k, hk⟩ : ∃ k, s.size = k + 1 := ⟨s.size - 1, by omega⟩
  have h2 : cuts ix m s.size s = cuts ix m (k + 1) s := by rw [hk]
  rw [h2, cuts_pos (by omega), h, Int.toNat_natCast, cuts_enough ix m hm hb _ k (by rw [ByteArray.size_extract]; omega)]
/-- The iterator's three boxes: what is still to be cut, the cut, what is kept of it. -/
structure Boxes3 (b : Nat) (s sep : ByteArray) (W : World) : Prop where
  s_ : W.cell? ⟨b, 0, none⟩ = some (.string s)
  f_ : W.frozen? ⟨b, 0, none⟩ = false
  sep_ : W.cell? ⟨b + 1, 0, none⟩ = some (.string sep)
  save_ : W.cell? ⟨b + 2, 0, none⟩ = some (.int .i64 0)
/-- The three boxes lie as they lay. -/
def Keeps3 (b : Nat) (W W' : World) : Prop := ∀ k, b ≤ k → k < b + 3 → W'.heap[k]? = W.heap[k]?
theorem Boxes3.kept {b : Nat} {s sep : ByteArray} {W W' : World} (h : Boxes3 b s sep W) (hk : Keeps3 b W W') : Boxes3 b s sep W' :=
  ⟨(World.cell?_of_block (a := ⟨b, 0, none⟩) (hk b (Nat.le_refl _) (by omega))).trans h.s_, (World.frozen?_of_block (a := ⟨b, 0, none⟩) (hk b (Nat.le_refl _) (by omega))).trans h.f_,
   (World.cell?_of_block (a := ⟨b + 1, 0, none⟩) (hk (b + 1) (by omega) (by omega))).trans h.sep_, (World.cell?_of_block (a := ⟨b + 2, 0, none⟩) (hk (b + 2) (by omega) (by omega))).trans h.save_⟩
theorem Keeps3.drewN {b : Nat} {W : World} (n : Nat) : Keeps3 b W (W.drewN n) := fun _ _ _ => rfl
/-- How much is still to be cut. -/
def boxLen (b : Nat) (W : World) : Nat := match W.cell? ⟨b, 0, none⟩ with | some (.string t) => t.size | _ => 0
theorem boxLen_eq {b : Nat} {W : World} {s : ByteArray} (h : W.cell? ⟨b, 0, none⟩ = some (.string s)) : boxLen b W = s.size := by unfold boxLen; rw [h]
theorem seq_at (s sep : ByteArray) (w : World) : Calls Tryd.prog 46 #[.string s, .string sep] w fun e w' => ∃ n, e = .returned (.func (.func 69) #[] #[.pointer (some ⟨w.heap.size + 1, 0, none⟩), .pointer (some ⟨w.heap.size, 0, none⟩), .pointer (some ⟨w.heap.size + 2, 0, none⟩)]) ∧
    w' = (((w.alloc (.cells #[.string s] 9)).alloc (.cells #[.string sep] 9)).alloc (.cells #[.int .i64 0] 3)).drewN n := by
  have h : Calls Tryd.prog 56 #[.string s, .string sep, .int .i64 0] w fun e w' => ∃ n, e = .returned (.func (.func 69) #[] #[.pointer (some ⟨w.heap.size + 1, 0, none⟩), .pointer (some ⟨w.heap.size, 0, none⟩), .pointer (some ⟨w.heap.size + 2, 0, none⟩)]) ∧
      w' = (((w.alloc (.cells #[.string s] 9)).alloc (.cells #[.string sep] 9)).alloc (.cells #[.int .i64 0] 3)).drewN n := by
    go_enter Tryd.func56, Tryd.ntmps56
    go_wp2
    go_ret
    exact ⟨0, by simp, rfl⟩
  go_enter Tryd.func46, Tryd.ntmps46
  go_wp2_with (go_at_call 56; refine h.mono ?_; rintro e w' ⟨n, rfl, rfl⟩)
  go_ret
  exact ⟨n, rfl, rfl⟩
set_option maxRecDepth 100000 in
set_option maxHeartbeats 4000000 in
/-- The iterator: the pieces in order, all, or up to one that says no more. -/
theorem split1_in (ix : ByteArray → Int) (sep : ByteArray) (hsep : 1 ≤ sep.size) (hix : ∀ (s : ByteArray) (W : World), Calls Tryd.prog 71 #[.string s, .string sep] W fun e W' => e = .returned (.int .i64 (ix s)) ∧ Drawn0 W W')
    (hb : ∀ s, 0 ≤ ix s → (ix s).toNat + sep.size ≤ s.size) (s : ByteArray) (hs : s.size ≤ 140737488355328) (l b : Nat) (J Jx : List ByteArray → World → Prop) (W : World)
    (hJ : AbidesFrom W.heap.size J) (hJx : AbidesFrom W.heap.size Jx) (hJc : ∀ s A v, J s A → J s (A.setCell ⟨b, 0, none⟩ v))
    (hY : ∀ pre x W1, J pre W1 → pre.length < (cuts ix sep.size s.size s).length → YieldAt Fence.wide 2 Tryd.prog l #[.string x] W1 fun e W' => (e = .returned (.bool true) ∧ J (pre ++ [x]) W' ∧ Keeps3 b W1 W') ∨ (e = .returned (.bool false) ∧ Jx (pre ++ [x]) W'))
    (hB : Boxes3 b s sep W) (h0 : J [] W) :
    CallsIn Fence.wide 3 Tryd.prog 69 #[.func (.yield l) #[] #[], .pointer (some ⟨b + 1, 0, none⟩), .pointer (some ⟨b, 0, none⟩), .pointer (some ⟨b + 2, 0, none⟩)] W fun e W' => (∃ v, e = .returned v) ∧
      ((∃ xs, xs = cuts ix sep.size s.size s ∧ J xs W') ∨ (∃ pre, pre <+: cuts ix sep.size s.size s ∧ Jx pre W')) := by
  have hdr : ∀ (s' : List ByteArray) (A : World) (n : Nat), J s' A → J s' (A.drewN n) := fun s' A n h => hJ s' A _ none h ⟨rfl, rfl, rfl, Nat.le_refl _, fun _ _ _ => rfl⟩ (fun r e => by cases e)
  have hne : ¬ (sep.size : Int) = 0 := by omega
  have hz0 : ((sep.size : Int) == 0) = false := beq_eq_false_iff_ne.2 hne
  have h1 := hB.s_
  have h2 := hB.sep_
  have h3 := hB.save_
  refine callsIn_of_wp Tryd.func69 rfl trivial ?_ rfl
  simp only [Tryd.ntmps69, List.size_toArray, List.length_cons, List.length_nil, Nat.reduceAdd, Nat.reduceSub, Array.replicate_succ, Array.replicate_zero, List.push_toArray, List.append_toArray, List.nil_append, List.cons_append]
  gi_wp2
  gi_loopw [7, 8] (fun i f wr => ∃ (pre : List ByteArray) (s' : ByteArray), cuts ix sep.size s.size s = pre ++ cuts ix sep.size s'.size s' ∧ s'.size ≤ s.size ∧ Boxes3 b s' sep wr ∧ J pre wr)
    (fun i f wr => boxLen b wr)
  case atStart => exact ⟨[], s, rfl, Nat.le_refl _, hB, h0⟩
  case round =>
    obtain ⟨pre, s', hx, hle, hB', hJs⟩ := hrel
    have g1 := hB'.s_
    have g2 := hB'.sep_
    have g3 := hB'.save_
    by_cases hneg : ix s' < 0
    · rw [cuts_neg hneg] at hx
      gi_wp2_with (refine ⟨trivial, ?_⟩; gi_at_call 71; refine (callsIn_wide.2 (hix s' _)).mono ?_; rintro e w' ⟨rfl, hd⟩; obtain ⟨n, rfl⟩ := hd.out)
      obtain ⟨fn, tmps, assign, body, hy, hR⟩ := hY pre s' (wr.drewN n) (hdr _ _ _ hJs) (by rw [hx]; simp)
      rw [hy]
      gi_wp2
      refine hR.mono ?_
      rintro e W3 (⟨rfl, hJ3, hk3⟩ | ⟨rfl, hJx3⟩)
      · gi_wp2
        go_end0
        exact ⟨⟨_, rfl⟩, .inl ⟨_, rfl, by rw [hx]; exact hJ3⟩⟩
      · gi_wp2
        go_end0
        exact ⟨⟨_, rfl⟩, .inr ⟨pre ++ [s'], by rw [hx]; exact List.prefix_refl _, hJx3⟩⟩
    · obtain ⟨i, hi⟩ : ∃ i : Nat, ix s' = (i : Int) := ⟨(ix s').toNat, by omega⟩
      have hfit := hb s' (by omega)
      have hc := cuts_cons ix sep.size hsep hb hi
      have hix' := hix s'
      rw [hi] at hix' hneg
      gi_wp2_with (refine ⟨trivial, ?_⟩; gi_at_call 71; refine (callsIn_wide.2 (hix' _)).mono ?_; rintro e w' ⟨rfl, hd⟩; obtain ⟨n, rfl⟩ := hd.out)
      obtain ⟨fn, tmps, assign, body, hy, hR⟩ := hY pre (s'.extract 0 i) (wr.drewN n) (hdr _ _ _ hJs) (by rw [hx, hc]; simp)
      rw [hy]
      gi_wp2
      refine hR.mono ?_
      rintro e W3 (⟨rfl, hJ3, hk3⟩ | ⟨rfl, hJx3⟩)
      · have hB3 := (hB'.kept (Keeps3.drewN n)).kept hk3
        have g1' := hB3.s_
        have g2' := hB3.sep_
        have gf := hB3.f_
        gi_wp2
        go_roundw
        case rel =>
          have hr1 : cuts ix sep.size s.size s = (pre ++ [s'.extract 0 i]) ++ cuts ix sep.size (s'.extract (i + sep.size) s'.size).size (s'.extract (i + sep.size) s'.size) := by rw [hx, hc, List.append_assoc]; rfl
          have hr2 : Boxes3 b (s'.extract (i + sep.size) s'.size) sep (W3.setCell ⟨b, 0, none⟩ (.string (s'.extract (i + sep.size) s'.size))) := ⟨World.cell?_setCell_same' _ _ _ (by rw [g1']; rfl), by rw [World.frozen?_setCell]; exact gf, (World.cell?_setCell_far W3 ⟨b, 0, none⟩ ⟨b + 1, 0, none⟩ _ (by simp)).trans hB3.sep_, (World.cell?_setCell_far W3 ⟨b, 0, none⟩ ⟨b + 2, 0, none⟩ _ (by simp)).trans hB3.save_⟩
          exact ⟨_, _, hr1, by rw [ByteArray.size_extract]; omega, hr2, hJc _ _ _ hJ3⟩
        case measure =>
          rw [boxLen_eq (World.cell?_setCell_same' _ _ _ (by rw [g1']; rfl)), boxLen_eq g1, ByteArray.size_extract]
          omega
      · gi_wp2
        refine bodyPost_ret (results_none rfl _ _ _) rfl ?_
        exact ⟨⟨_, rfl⟩, .inr ⟨_, by rw [hx, hc]; exact ⟨_, List.append_assoc _ _ _⟩, hJx3⟩⟩
theorem firstIdx_fit (c : UInt8) (s : ByteArray) (h : 0 ≤ firstIdx s c) : (firstIdx s c).toNat + 1 ≤ s.size := by
  unfold firstIdx at h ⊢
  split
  · next i e =>
    have := List.mem_range.1 (List.mem_of_find?_eq_some e)
    omega
  · next e => rw [e] at h; exact absurd h (by decide)
theorem index1 (s : ByteArray) (c : UInt8) : strings_Index.f 1 s ⟨#[c]⟩ = some (firstIdx s c) := by
  have hb : bt ⟨#[c]⟩ 0 = (c.toNat : Int) := rfl
  have hj : ∀ b, b = ((⟨#[c]⟩ : ByteArray).toList == s.toList) → stringslite_Index.j0 1 s ⟨#[c]⟩ 1 b = if b = true then some 0 else some (firstIdx s c) := fun b _ => by
    rw [stringslite_Index.j0, if_pos rfl, if_pos (show (0 : Int) < ((⟨#[c]⟩ : ByteArray).size : Int) by show (0 : Int) < 1; decide), hb]
    unfold stringslite_IndexByte.f
    rw [Option.bind_some, Int.toNat_natCast, show c.toNat.toUInt8 = c from UInt8.ofNat_toNat]
  unfold strings_Index.f stringslite_Index.f
  rw [show ((⟨#[c]⟩ : ByteArray).size : Int) = 1 from rfl, if_neg (by decide), hj _ rfl]
  by_cases h : ((⟨#[c]⟩ : ByteArray).toList == s.toList) = true
  · rw [if_pos h]
    have hs : s = ⟨#[c]⟩ := by
      have := eq_of_beq h
      rw [ByteArray.toList_eq, ByteArray.toList_eq] at this
      obtain ⟨⟨l⟩⟩ := s
      exact congrArg (fun z : List UInt8 => (⟨⟨z⟩⟩ : ByteArray)) (show l = [c] from this.symm)
    rw [hs]
    unfold firstIdx
    rw [show (⟨#[c]⟩ : ByteArray).size = 1 from rfl, show List.range 1 = [0] from rfl, List.find?_cons_of_pos (by show ((⟨#[c]⟩ : ByteArray)[0]! == c) = true; exact beq_self_eq_true c)]
    rfl
  · rw [if_neg h]; rfl
/-- A text's pieces between one octet. -/
def pieces (c : UInt8) (s : ByteArray) : List ByteArray := cuts (fun t => firstIdx t c) 1 s.size s
/-- The iterator over the pieces of a text, where its three boxes lie. -/
theorem seq1_stops (c : UInt8) (s : ByteArray) (hs : s.size ≤ 140737488355328) (b : Nat) (w : World) (hw : b + 3 ≤ w.heap.size) (hB : Boxes3 b s ⟨#[c]⟩ w) :
    SeqAt Fence.wide 3 Tryd.prog 69 #[.pointer (some ⟨b + 1, 0, none⟩), .pointer (some ⟨b, 0, none⟩), .pointer (some ⟨b + 2, 0, none⟩)] (fun x : ByteArray => #[Value.string x]) (Keeps3 b) b (fun xs => xs = pieces c s) (fun pre => pre <+: pieces c s) (pieces c s).length w := by
  intro l J Jx W hW hJ hJx hJc hY h0
  have hk : Keeps3 b w W := fun k h1 h2 => hW.block k (by omega)
  exact split1_in (fun t => firstIdx t c) ⟨#[c]⟩ (by show 1 ≤ 1; decide) (fun t W => strings_Index.calls 1 t ⟨#[c]⟩ _ W (index1 t c)) (fun t h => firstIdx_fit c t h) s hs l b J Jx W hJ hJx hJc hY (hB.kept hk) h0

/-! ### dns_Name: function 28 -/
/-- Is a text a label? -/
def labB (s : ByteArray) : Bool := dns_Label.f s == some true
theorem label_f (s : ByteArray) : dns_Label.f s = some (labB s) := by
  have h : ∃ b, dns_Label.f s = some b := by
    unfold dns_Label.f strings_IndexFunc_with_dns_Label_1.f
    rw [Option.bind_some]
    by_cases h1 : s.toList = ([] : List UInt8)
    · rw [if_pos h1]; exact ⟨_, rfl⟩
    · rw [if_neg h1]
      have h0 : 0 < s.size := by
        rcases Nat.eq_zero_or_pos s.size with c | c
        · refine absurd ?_ h1
          rw [ByteArray.toList_eq]
          exact List.eq_nil_of_length_eq_zero (by rw [Array.length_toList]; exact c)
        · exact c
      by_cases h2 : (s.size : Int) ≤ 20
      · rw [if_pos h2, if_pos (show (0 : Int) < (s.size : Int) by omega), show wrap64 ((s.size : Int) - 1) = (s.size : Int) - 1 from by unfold wrap64; omega, if_pos (show (0 : Int) ≤ (s.size : Int) - 1 by omega), if_pos (show (s.size : Int) - 1 < (s.size : Int) by omega)]
        split
        · split
          · exact ⟨_, rfl⟩
          · exact ⟨_, rfl⟩
        · exact ⟨_, rfl⟩
      · rw [if_neg h2]; exact ⟨_, rfl⟩
  obtain ⟨b, h⟩ := h
  unfold labB
  rw [h]
  cases b <;> rfl
/-- Is a text a name? -/
def dns_Name.f (a0 : ByteArray) : Option (Bool) := some (decide (a0.size ≤ 60) && (pieces 46 a0).all labB)
section
attribute [local go_sem] Oper.semAt_some
set_option maxHeartbeats 8000000 in
set_option maxRecDepth 100000 in
theorem dns_Name.calls (a0 : ByteArray) (r : Bool) (w : World) (h : dns_Name.f a0 = some r) :
    Calls Tryd.prog 28 #[.string a0] w fun e w' => e = .returned (.bool r) ∧ Below w.heap.size w w' := by
  obtain rfl := Option.some.inj h
  clear h
  have hlab : ∀ x, dns_Label.f x = some (labB x) := label_f
  refine (callsIn_wide (n := 4)).1 ?_
  refine callsIn_of_wp_marks Tryd.func28 rfl trivial ?_ rfl
  simp only [Tryd.ntmps28, List.size_toArray, List.length_cons, List.length_nil, Nat.reduceAdd, Nat.reduceSub, Array.replicate_succ, Array.replicate_zero, List.push_toArray, List.append_toArray, List.nil_append, List.cons_append]
  by_cases hl : a0.size ≤ 60
  · rw [decide_eq_true hl, Bool.true_and]
    obtain ⟨R, hR⟩ : ∃ R, (pieces 46 a0).all labB = R := ⟨_, rfl⟩
    rw [hR]
    gi_wp2_with (refine ⟨trivial, ?_⟩; gi_at_call 46; refine (callsIn_wide.2 (seq_at _ _ _)).mono ?_; rintro e w' ⟨n, rfl, rfl⟩)
    obtain ⟨W0, hW0⟩ : ∃ W0, W0 = ((((w.alloc (.cells #[.bool false] 4)).alloc (.cells #[.string a0] 9)).alloc (.cells #[.string ⟨#[46]⟩] 9)).alloc (.cells #[.int .i64 0] 3)).drewN n := ⟨_, rfl⟩
    have hs0 : W0.heap.size = w.heap.size + 4 := by rw [hW0]; simp
    have z0 := new_l w (.bool false) 4
    have z1 := new_l (w.alloc (.cells #[.bool false] 4)) (.string a0) 9
    have z2 := new_l ((w.alloc (.cells #[.bool false] 4)).alloc (.cells #[.string a0] 9)) (.string ⟨#[46]⟩) 9
    have z3 := new_l (((w.alloc (.cells #[.bool false] 4)).alloc (.cells #[.string a0] 9)).alloc (.cells #[.string ⟨#[46]⟩] 9)) (.int .i64 0) 3
    simp only [World.size_alloc] at z1 z2 z3
    have c0 : W0.cell? ⟨w.heap.size, 0, none⟩ = some (.bool false) ∧ W0.frozen? ⟨w.heap.size, 0, none⟩ = false := by
      rw [hW0]
      have y1 := kept_l (.cells #[.string a0] 9) z0.1
      have y2 := kept_l (.cells #[.string ⟨#[46]⟩] 9) y1
      exact ⟨kept_l _ y2, kept_f _ y2 (kept_f _ y1 (kept_f _ z0.1 z0.2))⟩
    have b0 : Boxes3 (w.heap.size + 1) a0 ⟨#[46]⟩ W0 := by
      rw [hW0]
      have y2 := kept_l (.cells #[.string ⟨#[46]⟩] 9) z1.1
      exact ⟨kept_l _ y2, kept_f _ y2 (kept_f _ z1.1 z1.2), kept_l _ z2.1, z3.1⟩
    have hB0 : Below w.heap.size w W0 := by rw [hW0]; exact ((((((Below.refl _ w).alloc (Nat.le_refl _) _).alloc (by simp) _).alloc (by simp; omega) _).alloc (by simp; omega) _)).trans ⟨rfl, rfl, rfl, Nat.le_refl _, fun _ _ => rfl⟩
    (try simp only [World.size_alloc])
    rw [← hW0]
    refine wpIn_range_cell rfl (by omega) (gf := 69) (lb := #[.pointer (some ⟨w.heap.size + 1 + 1, 0, none⟩), .pointer (some ⟨w.heap.size + 1, 0, none⟩), .pointer (some ⟨w.heap.size + 1 + 2, 0, none⟩)]) rfl trivial (enters_of Tryd.func69 (by kernel_rfl) rfl)
      (seq1_stops 46 a0 (by omega) (w.heap.size + 1) W0 (by omega) b0) (fun h k i h1 h2 => (k i h1 h2).trans (h i h1 h2)) (fun W l o o' hl _ _ _ k h1 h2 => World.putObj_heap_other (by omega)) (Below.refl _ _) (fun _ => rfl)
      (fun pre W => ((∀ y ∈ pre, labB y = true) ∧ W.cell? ⟨w.heap.size, 0, none⟩ = some (.bool false) ∧ W.frozen? ⟨w.heap.size, 0, none⟩ = false ∧ w.heap.size + 4 ≤ W.heap.size) ∧ Below w.heap.size w W)
      (fun pre W => ((∃ y ∈ pre, labB y = false) ∧ W.cell? ⟨w.heap.size, 0, none⟩ = some (.bool false)) ∧ Below w.heap.size w W)
      (OwnFrom.and (Own.from (fun s A B row hs hg hr => ⟨hs.1, Go.cell_kept hs.2.1 hg hr, (Go.frozen_kept hs.2.1 hg hr).trans hs.2.2.1, Nat.le_trans hs.2.2.2 hg.size⟩) _) (ownFrom_below (Nat.le_refl _) (by omega)))
      (OwnFrom.and (Own.from (fun s A B row hs hg hr => ⟨hs.1, Go.cell_kept hs.2 hg hr⟩) _) (ownFrom_below (Nat.le_refl _) (by omega)))
      (fun s A v hs => ⟨⟨hs.1.1, (World.cell?_setCell_far A ⟨w.heap.size + 1, 0, none⟩ ⟨w.heap.size, 0, none⟩ v (by simp)).trans hs.1.2.1, by rw [World.frozen?_setCell]; exact hs.1.2.2.1, by simpa using hs.1.2.2.2⟩, hs.2.setCell (p := ⟨w.heap.size + 1, 0, none⟩) (by simp) _⟩)
      ⟨⟨fun y hy => (by cases hy), c0.1, c0.2, by omega⟩, hB0⟩
      (fun x => { tmps := #[.string a0, undef, .pointer (some ⟨w.heap.size, 0, none⟩), .string x, .string a0, .int .i64 a0.size, .bool (decide (60 < (a0.size : Int))), .string a0, .func (.func 69) #[] #[.pointer (some ⟨w.heap.size + 1 + 1, 0, none⟩), .pointer (some ⟨w.heap.size + 1, 0, none⟩), .pointer (some ⟨w.heap.size + 1 + 2, 0, none⟩)], .string x, undef, undef, undef], defers := [] }) ?assign ?body ?done ?stop
    case assign =>
      intro l x W K hK
      gi_wp2
      exact hK
    case body =>
      rintro l pre x W ⟨⟨hp, hc, hf, hsz⟩, hB⟩ _
      have hlt : w.heap.size < W.heap.size := by omega
      have hx := hlab x
      cases hv : labB x with
      | true =>
        rw [hv] at hx
        gi_wp2_with (refine ⟨trivial, ?_⟩; gi_at_call 47; refine (CallsIn.inRound l (callsIn_wide.2 (dns_Label.calls x true W hx))).mono ?_; rintro e w' ⟨rfl, hd⟩; have hc' : w'.cell? ⟨w.heap.size, 0, none⟩ = some (.bool false) := (hd.cell (p := ⟨w.heap.size, 0, none⟩) hlt).trans hc; have hf' : w'.frozen? ⟨w.heap.size, 0, none⟩ = false := (World.frozen?_of_block (a := ⟨w.heap.size, 0, none⟩) (hd.block _ hlt)).trans hf; have hk' : KeepsFrom W0.heap.size W w' := ⟨hd.size, fun k o _ hk _ => (hd.block k (Array.getElem?_eq_some_iff.1 hk).1).trans hk⟩; have hb' : Below w.heap.size w w' := hB.trans (hd.mono hB.size); have hsz' : w.heap.size + 4 ≤ w'.heap.size := Nat.le_trans hsz hd.size; have h3' : Keeps3 (w.heap.size + 1) W w' := fun k h1 h2 => hd.block k (by omega))
        exact ⟨by rw [hs0] at hk'; exact hk', fun y hy => hy.elim (hp y) fun e => by rw [e]; exact hv⟩
      | false =>
        rw [hv] at hx
        gi_wp2_with (refine ⟨trivial, ?_⟩; gi_at_call 47; refine (CallsIn.inRound l (callsIn_wide.2 (dns_Label.calls x false W hx))).mono ?_; rintro e w' ⟨rfl, hd⟩; have hc' : w'.cell? ⟨w.heap.size, 0, none⟩ = some (.bool false) := (hd.cell (p := ⟨w.heap.size, 0, none⟩) hlt).trans hc; have hf' : w'.frozen? ⟨w.heap.size, 0, none⟩ = false := (World.frozen?_of_block (a := ⟨w.heap.size, 0, none⟩) (hd.block _ hlt)).trans hf; have hk' : KeepsFrom W0.heap.size W w' := ⟨hd.size, fun k o _ hk _ => (hd.block k (Array.getElem?_eq_some_iff.1 hk).1).trans hk⟩; have hb' : Below w.heap.size w w' := hB.trans (hd.mono hB.size); have hsz' : w.heap.size + 4 ≤ w'.heap.size := Nat.le_trans hsz hd.size; have h3' : Keeps3 (w.heap.size + 1) W w' := fun k h1 h2 => hd.block k (by omega))
        exact ⟨by rw [hs0] at hk'; exact hk'.trans ((KeepsOthers.setCell w' _ _).from _), hb'.setCell (p := ⟨w.heap.size, 0, none⟩) (by simp) _⟩
    case done =>
      rintro D ys W hD rfl ⟨⟨hne, hcr, hfr, _⟩, hB⟩ hK
      obtain rfl : R = true := hR.symm.trans (List.all_eq_true.2 hne)
      gi_wp2
      have hK' := (KeepsOthers.setCell W ⟨w.heap.size, 0, none⟩ (.bool true)).same D _ hK rfl
      refine ⟨by simp, .inl ⟨_, _, rfl, run_takeDeferred hK', ?_⟩⟩
      have hc5 := Go.cell_kept (World.cell?_setCell_same' W ⟨w.heap.size, 0, none⟩ (.bool true) (by rw [hcr]; rfl)) (grownBy_putObj' _ D (.deferred none)) (fun r e => by cases e; exact ⟨_, hK', rfl⟩)
      refine ⟨.bool true, ?_, rfl, (hB.setCell (p := ⟨w.heap.size, 0, none⟩) (by simp) _).trans (belowK_b (w := w) (Nat.le_refl _) _ D _ _ (by omega) hK' rfl rfl)⟩
      simp [results, Tryd.f28, go_sem, hc5]
    case stop =>
      rintro D pre W hD hpre ⟨⟨⟨y, hy, hv⟩, hcr⟩, hB⟩ hK
      obtain rfl : R = false := hR.symm.trans (List.all_eq_false.2 ⟨y, hpre.subset hy, by rw [hv]; decide⟩)
      gi_wp2
      refine ⟨by simp, .inl ⟨_, _, rfl, run_takeDeferred hK, ?_⟩⟩
      have hc5 := Go.cell_kept hcr (grownBy_putObj' _ D (.deferred none)) (fun r e => by cases e; exact ⟨_, hK, rfl⟩)
      refine ⟨.bool false, ?_, rfl, hB.trans (belowK_b (w := w) (Nat.le_refl _) W D _ _ (by omega) hK rfl rfl)⟩
      simp [results, Tryd.f28, go_sem, hc5]
  · rw [decide_eq_false hl, Bool.false_and]
    gi_wp2
    have z0 := new_l w (.bool false) 4
    show LeavesIn _ _ _ _ _ _ _ _ _
    refine ⟨.bool false, ?_, rfl, (Below.refl _ w).alloc (Nat.le_refl _) _⟩
    simp [results, Tryd.f28, go_sem, z0.1]
end

/-! ### host_May: function 12 -/
def host_May.f (a0 : ByteArray) : Option (Bool) := (strings_CutPrefix.f a0 (⟨#[42, 46]⟩ : ByteArray)).bind fun bt107 => (if a0.toList = ([] : List UInt8) then (some true) else (if (a0.size : Int) ≤ 60 then ((dns_Name.f bt107.1).bind fun t109 => (if t109 = true then (if bt107.2 = true then (some true) else (some (bt107.1.toList == a0.toList))) else (some false))) else (some false)))
set_option maxHeartbeats 8000000 in
set_option maxRecDepth 100000 in
theorem host_May.calls (a0 : ByteArray) (r : Bool) (w : World) (h : host_May.f a0 = some r) :
    Calls Tryd.prog 12 #[.string a0] w fun e w' => e = .returned (.bool r) ∧ Below w.heap.size w w' := by
  have HB := Aside0.mk (Below.refl w.heap.size w)
  have H : ((strings_CutPrefix.f a0 (⟨#[42, 46]⟩ : ByteArray)).bind fun bt107 => (if a0.toList = ([] : List UInt8) then (some true) else (if (a0.size : Int) ≤ 60 then ((dns_Name.f bt107.1).bind fun t109 => (if t109 = true then (if bt107.2 = true then (some true) else (some (bt107.1.toList == a0.toList))) else (some false))) else (some false)))) = some r := h
  clear h
  replace H := Option.bind_eq_some_iff.mp H
  obtain ⟨⟨t107, t108⟩, A20, H⟩ := H
  replace H : (if a0.toList = ([] : List UInt8) then (some true) else (if (a0.size : Int) ≤ 60 then ((dns_Name.f t107).bind fun t109 => (if t109 = true then (if t108 = true then (some true) else (some (t107.toList == a0.toList))) else (some false))) else (some false))) = some r := H
  have A2 := Aside0.mk A20
  clear A20
  by_cases c3 : a0.toList = ([] : List UInt8)
  · rw [if_pos c3] at H
    have c3b0 : (a0.toList == ([] : List UInt8)) = true := beq_iff_eq.mpr c3
    have c3b1 : (a0.toList != ([] : List UInt8)) = false := bne_eq_false_iff_eq.mpr c3
    clear c3
    obtain rfl := Option.some.inj H
    go_enter Tryd.func12, Tryd.ntmps12
    go_wp2_with (first | ((with_reducible refine gate_callee (f := 27) rfl ?_); refine goesL_ (some 7) rfl rfl Tryd.func27 (by kernel_rfl) rfl #[.string a0, .string (⟨#[42, 46]⟩ : ByteArray)] rfl (by (try simp only [List.map_toArray, List.map_cons, List.map_nil]); first | done | rfl | (simp only [List.length_drop, List.length_take]; rfl)) ?_; (with_reducible refine (strings_CutPrefix.calls a0 (⟨#[42, 46]⟩ : ByteArray) t107 t108 _ A2.out).mono ?_); rintro e w' ⟨rfl, ⟨nd, rfl⟩⟩; refine ⟨_, rfl, ?_⟩))
    go_ret
    exact ⟨by first | rfl | (simp [errW_none, errW_some] <;> rfl) | (simp [*, errW_none, errW_some] <;> rfl), by repeat (first | (with_reducible first | exact HB.out | apply below_alloc | apply pw_below_drewN | apply below_drew1) | exact HB.out)⟩
  · rw [if_neg c3] at H
    have c3b0 : (a0.toList == ([] : List UInt8)) = false := beq_eq_false_iff_ne.mpr c3
    have c3b1 : (a0.toList != ([] : List UInt8)) = true := bne_iff_ne.mpr c3
    by_cases c4 : (a0.size : Int) ≤ 60
    · rw [if_pos c4] at H
      have c4b0 : decide ((a0.size : Int) ≤ 60) = true := decide_eq_true c4
      have c4b1 : decide (a0.size ≤ 60) = true := decide_eq_true (by omega)
      clear c4
      replace H := Option.bind_eq_some_iff.mp H
      obtain ⟨t109, A50, H⟩ := H
      replace H : (if t109 = true then (if t108 = true then (some true) else (some (t107.toList == a0.toList))) else (some false)) = some r := H
      have A5 := Aside0.mk A50
      clear A50
      by_cases c6 : t109 = true
      · subst c6
        have H1 : (if t108 = true then (some true) else (some (t107.toList == a0.toList))) = some r := by rw [if_pos rfl] at H; exact H
        clear H
        have H := H1
        clear H1
        by_cases c7 : t108 = true
        · subst c7
          have H1 : (some true) = some r := by rw [if_pos rfl] at H; exact H
          clear H
          have H := H1
          clear H1
          obtain rfl := Option.some.inj H
          go_enter Tryd.func12, Tryd.ntmps12
          go_wp2_with (first | ((with_reducible refine gate_callee (f := 27) rfl ?_); refine goesL_ (some 7) rfl rfl Tryd.func27 (by kernel_rfl) rfl #[.string a0, .string (⟨#[42, 46]⟩ : ByteArray)] rfl (by (try simp only [List.map_toArray, List.map_cons, List.map_nil]); first | done | rfl | (simp only [List.length_drop, List.length_take]; rfl)) ?_; (with_reducible refine (strings_CutPrefix.calls a0 (⟨#[42, 46]⟩ : ByteArray) t107 true _ A2.out).mono ?_); rintro e w' ⟨rfl, ⟨nd, rfl⟩⟩; refine ⟨_, rfl, ?_⟩) | (go_at_call 28; (with_reducible refine (dns_Name.calls t107 true _ A5.out).mono ?_); rintro e w8 ⟨rfl, hb⟩; have n0_ := Aside0.mk (below_step (by repeat (first | (with_reducible first | exact HB.out | apply below_alloc | apply pw_below_drewN | apply below_drew1) | exact HB.out)) hb); clear HB; have HB := n0_; clear n0_; (try clear hb); (try clear hb2); (try clear hk); (try clear hi)))
          go_ret
          exact ⟨by first | rfl | (simp [errW_none, errW_some] <;> rfl) | (simp [*, errW_none, errW_some] <;> rfl), by repeat (first | (with_reducible first | exact HB.out | apply below_alloc | apply pw_below_drewN | apply below_drew1) | exact HB.out)⟩
        · replace c7 := Bool.eq_false_iff.mpr c7
          subst c7
          have H1 : (some (t107.toList == a0.toList)) = some r := by rw [if_neg (show ¬ (false = true) by decide)] at H; exact H
          clear H
          have H := H1
          clear H1
          obtain rfl := Option.some.inj H
          go_enter Tryd.func12, Tryd.ntmps12
          go_wp2_with (first | ((with_reducible refine gate_callee (f := 27) rfl ?_); refine goesL_ (some 7) rfl rfl Tryd.func27 (by kernel_rfl) rfl #[.string a0, .string (⟨#[42, 46]⟩ : ByteArray)] rfl (by (try simp only [List.map_toArray, List.map_cons, List.map_nil]); first | done | rfl | (simp only [List.length_drop, List.length_take]; rfl)) ?_; (with_reducible refine (strings_CutPrefix.calls a0 (⟨#[42, 46]⟩ : ByteArray) t107 false _ A2.out).mono ?_); rintro e w' ⟨rfl, ⟨nd, rfl⟩⟩; refine ⟨_, rfl, ?_⟩) | (go_at_call 28; (with_reducible refine (dns_Name.calls t107 true _ A5.out).mono ?_); rintro e w9 ⟨rfl, hb⟩; have n0_ := Aside0.mk (below_step (by repeat (first | (with_reducible first | exact HB.out | apply below_alloc | apply pw_below_drewN | apply below_drew1) | exact HB.out)) hb); clear HB; have HB := n0_; clear n0_; (try clear hb); (try clear hb2); (try clear hk); (try clear hi)))
          go_ret
          exact ⟨by first | rfl | (simp [errW_none, errW_some] <;> rfl) | (simp [*, errW_none, errW_some] <;> rfl), by repeat (first | (with_reducible first | exact HB.out | apply below_alloc | apply pw_below_drewN | apply below_drew1) | exact HB.out)⟩
      · replace c6 := Bool.eq_false_iff.mpr c6
        subst c6
        have H1 : (some false) = some r := by rw [if_neg (show ¬ (false = true) by decide)] at H; exact H
        clear H
        have H := H1
        clear H1
        obtain rfl := Option.some.inj H
        go_enter Tryd.func12, Tryd.ntmps12
        go_wp2_with (first | ((with_reducible refine gate_callee (f := 27) rfl ?_); refine goesL_ (some 7) rfl rfl Tryd.func27 (by kernel_rfl) rfl #[.string a0, .string (⟨#[42, 46]⟩ : ByteArray)] rfl (by (try simp only [List.map_toArray, List.map_cons, List.map_nil]); first | done | rfl | (simp only [List.length_drop, List.length_take]; rfl)) ?_; (with_reducible refine (strings_CutPrefix.calls a0 (⟨#[42, 46]⟩ : ByteArray) t107 t108 _ A2.out).mono ?_); rintro e w' ⟨rfl, ⟨nd, rfl⟩⟩; refine ⟨_, rfl, ?_⟩) | (go_at_call 28; (with_reducible refine (dns_Name.calls t107 false _ A5.out).mono ?_); rintro e w10 ⟨rfl, hb⟩; have n0_ := Aside0.mk (below_step (by repeat (first | (with_reducible first | exact HB.out | apply below_alloc | apply pw_below_drewN | apply below_drew1) | exact HB.out)) hb); clear HB; have HB := n0_; clear n0_; (try clear hb); (try clear hb2); (try clear hk); (try clear hi)))
        go_ret
        exact ⟨by first | rfl | (simp [errW_none, errW_some] <;> rfl) | (simp [*, errW_none, errW_some] <;> rfl), by repeat (first | (with_reducible first | exact HB.out | apply below_alloc | apply pw_below_drewN | apply below_drew1) | exact HB.out)⟩
    · rw [if_neg c4] at H
      have c4b0 : decide ((a0.size : Int) ≤ 60) = false := decide_eq_false c4
      have c4b1 : decide (a0.size ≤ 60) = false := decide_eq_false (by omega)
      clear c4
      obtain rfl := Option.some.inj H
      go_enter Tryd.func12, Tryd.ntmps12
      go_wp2_with (first | ((with_reducible refine gate_callee (f := 27) rfl ?_); refine goesL_ (some 7) rfl rfl Tryd.func27 (by kernel_rfl) rfl #[.string a0, .string (⟨#[42, 46]⟩ : ByteArray)] rfl (by (try simp only [List.map_toArray, List.map_cons, List.map_nil]); first | done | rfl | (simp only [List.length_drop, List.length_take]; rfl)) ?_; (with_reducible refine (strings_CutPrefix.calls a0 (⟨#[42, 46]⟩ : ByteArray) t107 t108 _ A2.out).mono ?_); rintro e w' ⟨rfl, ⟨nd, rfl⟩⟩; refine ⟨_, rfl, ?_⟩))
      go_ret
      exact ⟨by first | rfl | (simp [errW_none, errW_some] <;> rfl) | (simp [*, errW_none, errW_some] <;> rfl), by repeat (first | (with_reducible first | exact HB.out | apply below_alloc | apply pw_below_drewN | apply below_drew1) | exact HB.out)⟩

/-! ### tollref01_Split: function 33 -/
def tollref01_Split.l0 : Nat → ByteArray → Int → List ByteArray → Int → Option (List ByteArray)
  | 0, _, _, _, _ => none
  | k + 1, x0, x1, x5, x6 => if x6 < (x0.size : Int) then (if 0 ≤ x6 then (if (bt x0 x6) = x1 then (if x5.length < 8796093022208 then (tollref01_Split.l0 k x0 x1 (x5 ++ [(⟨#[]⟩ : ByteArray)]) (wrap64 (x6 + 1))) else (none)) else (if 0 ≤ (wrap64 ((x5.length : Int) - 1)) then (if (wrap64 ((x5.length : Int) - 1)) < (x5.length : Int) then (if x6 ≤ (wrap64 (x6 + 1)) then (if (wrap64 (x6 + 1)) ≤ (x0.size : Int) then (if (rdOf ByteArray.empty x5 (wrap64 ((x5.length : Int) - 1))).size + (x0.extract (x6 : Int).toNat ((wrap64 (x6 + 1)) : Int).toNat).size ≤ 9223372036854775807 then (tollref01_Split.l0 k x0 x1 (x5.set ((wrap64 ((x5.length : Int) - 1)) : Int).toNat ((rdOf ByteArray.empty x5 (wrap64 ((x5.length : Int) - 1))) ++ (x0.extract (x6 : Int).toNat ((wrap64 (x6 + 1)) : Int).toNat))) (wrap64 (x6 + 1))) else (none)) else (none)) else (none)) else (none)) else (none))) else (none)) else (some x5)
def tollref01_Split.f (k : Nat) (a0 : ByteArray) (a1 : Int) : Option (List ByteArray) := tollref01_Split.l0 k a0 a1 (([(⟨#[]⟩ : ByteArray)] : List ByteArray)) 0
theorem tollref01_Split.mono_l : ∀ k, (∀ y0 y1 y2 y3, LeO (tollref01_Split.l0 k y0 y1 y2 y3) (tollref01_Split.l0 (k + 1) y0 y1 y2 y3))
  | 0 => fun _ _ _ _ r h => by simp [tollref01_Split.l0] at h
  | k + 1 => by
    have ih0 := tollref01_Split.mono_l k
    · intro y0 y1 y2 y3
      unfold tollref01_Split.l0
      repeat' first
      | (with_reducible exact ih0 _ _ _ _)
      | (with_reducible exact LeO.refl _)
      | (with_reducible exact LeO.none _)
      | (with_reducible refine LeO.ite ?_ ?_)
      | (with_reducible refine LeO.bind ?_ (fun _ => ?_))
      | exact ih0 _ _ _ _
      | exact LeO.none _
      | refine LeO.ite ?_ ?_
      | refine LeO.bind ?_ (fun _ => ?_)
theorem tollref01_Split.mono : ∀ a0 a1 k, LeO (tollref01_Split.f k a0 a1) (tollref01_Split.f (k + 1) a0 a1) := by
  intro a0 a1 k
  have ih0 := tollref01_Split.mono_l k
  unfold tollref01_Split.f
  repeat' first
      | (with_reducible exact ih0 _ _ _ _)
      | (with_reducible exact LeO.refl _)
      | (with_reducible exact LeO.none _)
      | (with_reducible refine LeO.ite ?_ ?_)
      | (with_reducible refine LeO.bind ?_ (fun _ => ?_))
      | exact ih0 _ _ _ _
      | exact LeO.none _
      | refine LeO.ite ?_ ?_
      | refine LeO.bind ?_ (fun _ => ?_)
def tollref01_Split.T7 : Bool × List (List Nat × List Nat) := (true, [([], []), ([], []), ([1], [1]), ([2], [2]), ([0, 3], [0, 3]), ([4], [4]), ([], []), ([], []), ([], []), ([8], [8]), ([6, 7, 9], [6, 7, 9]), ([5, 10], [5, 10]), ([0, 3, 0, 1, 2, 3, 4, 5, 6, 7, 8, 9, 10, 11], [0, 3]), ([12, 11, 0, 1, 2, 3, 4, 5, 6, 7, 8, 9, 10, 11], [11, 12])])
def tollref01_Split.B7 : List Nat := [0, 0, 2, 6, 15, 31, 0, 0, 0, 256, 960, 2047, 4095, 8191]
theorem tollref01_Split.tab7 : rtab .any (opsOf Tryd.f33 7) = tollref01_Split.T7 := by kernel_rfl
theorem tollref01_Split.bits7 : waitsOk tollref01_Split.T7.2 tollref01_Split.B7 = true := by kernel_rfl
set_option maxHeartbeats 8000000 in
set_option maxRecDepth 100000 in
theorem tollref01_Split.calls (k : Nat) (a0 : ByteArray) (a1 : Int) (r : List ByteArray) (w : World) (h : tollref01_Split.f k a0 a1 = some r) :
    Calls Tryd.prog 33 #[.string a0, .int .u8 a1] w fun e w' => ∃ v0_ : Value, e = .returned (v0_) ∧ Kd.R Kd.string 9 w' w.heap.size (fun _ => True) v0_ r ∧ Below w.heap.size w w' := by
  have HB := Aside0.mk (Below.refl w.heap.size w)
  have H : (tollref01_Split.l0 k a0 a1 (([(⟨#[]⟩ : ByteArray)] : List ByteArray)) 0) = some r := h
  clear h
  obtain ⟨y110, hy110⟩ : ∃ y_ : List ByteArray, y_ = (([(⟨#[]⟩ : ByteArray)] : List ByteArray)) := ⟨_, rfl⟩
  replace H : (tollref01_Split.l0 k a0 a1 y110 0) = some r := by first | (rw [hy110]; with_reducible exact H) | (have H2_ := (Option.bind_some _ _).symm.trans H; rw [hy110]; with_reducible exact H2_) | (have H2_ := (Option.bind_some _ _).symm.trans H; with_reducible exact H2_) | with_reducible exact H | (rw [hy110]; exact H) | exact H
  have Ny110 := Aside0.mk hy110
  clear hy110
  have H' := Aside0.mk H
  clear H
  go_enter Tryd.func33, Tryd.ntmps33
  go_wp2_with (first | ((with_reducible refine gate_dst (N := 7) rfl ?_); refine Kd.R_lit Kd.string _ 9 ?hg (N := 7) ?hd (xs := ([(⟨#[]⟩ : ByteArray)] : List ByteArray)) (inner := [.string (⟨#[]⟩ : ByteArray)]) (ok := fun _ => True) (okp := fun _ => True) ?hr ?hp (fun _ hk => hk) trivial (Below.refl _ _) (Nat.le_refl _) (by simp) ?_; (case hd => rfl); (case hg => rfl); (case hr => first | (go_simp; done) | (go_simp; rfl)); (case hp => exact (Reps.one (show Kd.M Kd.string _ _ _ (⟨#[]⟩ : ByteArray) [.string (⟨#[]⟩ : ByteArray)] from rfl) (Reps.none _ _))); intro v111 w3 ho4 hb hg_ hnew_; clear hg_ hnew_; (first | rw [← Ny110.out] at ho4 | (simp only [Int.reduceToNat] at ho4; rw [← Ny110.out] at ho4)); have n0_ := Aside0.mk (Kd.R_lower ho4 (below_size (by repeat (first | (with_reducible first | exact HB.out | apply below_alloc | apply pw_below_drewN | apply below_drew1) | exact HB.out)))); have n1_ := Aside0.mk (below_step (by repeat (first | (with_reducible first | exact HB.out | apply below_alloc | apply pw_below_drewN | apply below_drew1) | exact HB.out)) hb); clear HB; have HO112 := n0_; have HB := n1_; clear n0_ n1_; clear hb ho4))
  go_loopg [5, 6] k (fun kq v5 v6 w' => ∃ (x5_1 : List ByteArray) (x6_1 : Int), v6 = .int .i64 x6_1 ∧ Aside0 (tollref01_Split.l0 kq a0 a1 x5_1 x6_1 = some r) ∧ Aside0 (kq ≤ k) ∧ Aside0 (Kd.R Kd.string 9 w' w.heap.size (fun _ => True) v5 x5_1) ∧ Aside0 (Below w.heap.size w w'))
  case atStart => exact ⟨(y110), (0), (by first | rfl | (simp; done) | (simp [*]; done) | (simp [bne_nil_isEmpty, beq_nil_isEmpty]; done) | (simp [*, bne_nil_isEmpty, beq_nil_isEmpty]; done)), H', ⟨Nat.le_refl _⟩, ⟨by (with_reducible repeat (first | apply Kd.R_alloc | apply Kd.R_drewN | apply Kd.R_drew)); exact HO112.out⟩, ⟨by repeat (first | (with_reducible first | exact HB.out | apply below_alloc | apply pw_below_drewN | apply below_drew1) | exact HB.out)⟩⟩
  case round =>
    clear H'
    try clear p2
    try clear c3
    obtain ⟨x5_1, x6_1, rfl, HA, HK1, HO_5, HB⟩ := hrel
    cases gk with
    | zero => exact absurd HA.out (by simp [tollref01_Split.l0])
    | succ k1 =>
      have H := HA.out
      clear HA
      simp only [tollref01_Split.l0] at H
      by_cases c5 : x6_1 < (a0.size : Int)
      · rw [if_pos c5] at H
        have c5b0 : decide (x6_1 < (a0.size : Int)) = true := decide_eq_true c5
        clear c5
        by_cases c6 : 0 ≤ x6_1
        · rw [if_pos c6] at H
          have c6b0 : decide (0 ≤ x6_1) = true := decide_eq_true c6
          clear c6
          by_cases c8 : (bt a0 x6_1) = a1
          · rw [if_pos c8] at H
            have c8b0 : ((bt a0 x6_1) == a1) = true := beq_iff_eq.mpr c8
            have c8b1 : ((bt a0 x6_1) != a1) = false := bne_eq_false_iff_eq.mpr c8
            clear c8
            by_cases c9 : x5_1.length < 8796093022208
            · rw [if_pos c9] at H
              have LMc9 := Aside0.mk c9
              clear c9
              obtain ⟨y113, hy113⟩ : ∃ y_ : List ByteArray, y_ = (x5_1 ++ [(⟨#[]⟩ : ByteArray)]) := ⟨_, rfl⟩
              replace H : (tollref01_Split.l0 k1 a0 a1 y113 (wrap64 (x6_1 + 1))) = some r := by first | (rw [hy113]; with_reducible exact H) | (have H2_ := (Option.bind_some _ _).symm.trans H; rw [hy113]; with_reducible exact H2_) | (have H2_ := (Option.bind_some _ _).symm.trans H; with_reducible exact H2_) | with_reducible exact H | (rw [hy113]; exact H) | exact H
              have Ny113 := Aside0.mk hy113
              clear hy113
              have H' := Aside0.mk H
              clear H
              have p7 : 0 ≤ (x6_1 : Int) := of_decide_eq_true (by first | (with_reducible assumption) | assumption)
              have q7 : x6_1 < (a0.size : Int) := of_decide_eq_true (by first | (with_reducible assumption) | assumption)
              have hx7 := bt_at a0 x6_1
              replace p7 := eq_true p7
              replace q7 := eq_true q7
              go_wp2_with (first | ((with_reducible refine gate_builtin (b := .append) (xs := #[.tmp 19, .tmp 20]) rfl ?_); at_builtin; refine Kd.R_append Kd.string (w0 := w) w.heap.size rfl (.tmp 19) (.tmp 20) 38 9 (.string ⟨#[]⟩) 16 rfl Tryd.underlying38 info9 rfl (by decide) (by omega) u5 x5_1 (⟨#[]⟩ : ByteArray) [.string (⟨#[]⟩ : ByteArray)] (fun _ => True) (fun _ => False) rfl rfl ?aP (fun _ hk => hk.elim) ?aF ?aO ?aB ?aS ?aL ?_; (case aP => exact rfl); (case aB => exact (by repeat (first | (with_reducible first | exact HB.out | apply below_alloc | apply pw_below_drewN | apply below_drew1) | exact HB.out))); (case aF => exact (fun _ _ => trivial)); (case aO => exact (by (with_reducible repeat (first | apply Kd.R_alloc | apply Kd.R_drewN | apply Kd.R_drew)); exact HO_5.out)); (case aS => exact (below_size (by repeat (first | (with_reducible first | exact HB.out | apply below_alloc | apply pw_below_drewN | apply below_drew1) | exact HB.out)))); (case aL => have := LMc9.out; omega); intro v114 w10 ho hb hg hat; rw [← Ny113.out] at ho; have n0_ := Aside0.mk (hb); have n1_ := Aside0.mk (ho); clear HB; clear HO_5; have HB := n0_; have HO115 := n1_; clear n0_ n1_; clear ho hb hg hat))
              go_roundg k1
              case measure => have := HK1.out; omega
              case rel => exact ⟨(y113), (wrap64 (x6_1 + 1)), (by first | rfl | (simp; done) | (simp [*]; done) | (simp [bne_nil_isEmpty, beq_nil_isEmpty]; done) | (simp [*, bne_nil_isEmpty, beq_nil_isEmpty]; done)), H', ⟨by have := HK1.out; omega⟩, ⟨by (with_reducible repeat (first | apply Kd.R_alloc | apply Kd.R_drewN | apply Kd.R_drew)); exact HO115.out⟩, ⟨by repeat (first | (with_reducible first | exact HB.out | apply below_alloc | apply pw_below_drewN | apply below_drew1) | exact HB.out)⟩⟩
            · rw [if_neg c9] at H
              exact absurd H (by simp)
          · rw [if_neg c8] at H
            have c8b0 : ((bt a0 x6_1) == a1) = false := beq_eq_false_iff_ne.mpr c8
            have c8b1 : ((bt a0 x6_1) != a1) = true := bne_iff_ne.mpr c8
            obtain ⟨ji11, hji11⟩ : ∃ j_ : Int, (wrap64 ((x5_1.length : Int) - 1)) = j_ := ⟨_, rfl⟩
            replace H : (if 0 ≤ (ji11) then (if (ji11) < (x5_1.length : Int) then (if x6_1 ≤ (wrap64 (x6_1 + 1)) then (if (wrap64 (x6_1 + 1)) ≤ (a0.size : Int) then (if (rdOf ByteArray.empty x5_1 (ji11)).size + (a0.extract (x6_1 : Int).toNat ((wrap64 (x6_1 + 1)) : Int).toNat).size ≤ 9223372036854775807 then (tollref01_Split.l0 k1 a0 a1 (x5_1.set ((ji11) : Int).toNat ((rdOf ByteArray.empty x5_1 (ji11)) ++ (a0.extract (x6_1 : Int).toNat ((wrap64 (x6_1 + 1)) : Int).toNat))) (wrap64 (x6_1 + 1))) else (none)) else (none)) else (none)) else (none)) else (none)) = some r := by first | (rw [hji11] at H; exact H) | (simp only [hji11] at H ⊢; exact H)
            have hji11w : (IntKind.i64.wrap ((x5_1.length : Int) - 1)) = ji11 := (i64_w _).trans hji11
            by_cases c12 : 0 ≤ (ji11)
            · rw [if_pos c12] at H
              have c12b0 : decide (0 ≤ (ji11)) = true := decide_eq_true c12
              clear c12
              by_cases c13 : (ji11) < (x5_1.length : Int)
              · rw [if_pos c13] at H
                have c13b0 : decide ((ji11) < (x5_1.length : Int)) = true := decide_eq_true c13
                clear c13
                have c14b0 := eq_true (of_decide_eq_true (by first | (with_reducible assumption) | assumption) : 0 ≤ x6_1)
                by_cases c15 : x6_1 ≤ (wrap64 (x6_1 + 1))
                · rw [if_pos c15] at H
                  have c15b0 := eq_true c15
                  have c15b1 : decide (x6_1 ≤ (wrap64 (x6_1 + 1))) = true := decide_eq_true c15
                  by_cases c16 : (wrap64 (x6_1 + 1)) ≤ (a0.size : Int)
                  · rw [if_pos c16] at H
                    have c16b0 := eq_true c16
                    have c16b1 : decide ((wrap64 (x6_1 + 1)) ≤ (a0.size : Int)) = true := decide_eq_true c16
                    by_cases c17 : (rdOf ByteArray.empty x5_1 (ji11)).size + (a0.extract (x6_1 : Int).toNat ((wrap64 (x6_1 + 1)) : Int).toNat).size ≤ 9223372036854775807
                    · rw [if_pos c17] at H
                      have c17b0 := eq_true c17
                      have c17b1 : decide ((rdOf ByteArray.empty x5_1 (ji11)).size + (a0.extract (x6_1 : Int).toNat ((wrap64 (x6_1 + 1)) : Int).toNat).size ≤ 9223372036854775807) = true := decide_eq_true c17
                      try have c17b2 : (9223372036854775807 < (rdOf ByteArray.empty x5_1 (ji11)).size + (a0.extract (x6_1 : Int).toNat ((wrap64 (x6_1 + 1)) : Int).toNat).size) = False := eq_false (Nat.not_lt.2 c17)
                      (try (have c17s := c17; rw [ByteArray.size_extract, Nat.min_eq_left (by omega)] at c17s; have c17n := eq_false (Nat.not_lt.2 c17s)))
                      obtain ⟨y117, hy117⟩ : ∃ y_ : List ByteArray, y_ = (x5_1.set ((ji11) : Int).toNat ((rdOf ByteArray.empty x5_1 (ji11)) ++ (a0.extract (x6_1 : Int).toNat ((wrap64 (x6_1 + 1)) : Int).toNat))) := ⟨_, rfl⟩
                      replace H : (tollref01_Split.l0 k1 a0 a1 y117 (wrap64 (x6_1 + 1))) = some r := by first | (rw [hy117]; with_reducible exact H) | (have H2_ := (Option.bind_some _ _).symm.trans H; rw [hy117]; with_reducible exact H2_) | (have H2_ := (Option.bind_some _ _).symm.trans H; with_reducible exact H2_) | with_reducible exact H | (rw [hy117]; exact H) | exact H
                      have Ny117 := Aside0.mk hy117
                      clear hy117
                      have H' := Aside0.mk H
                      clear H
                      have p7 : 0 ≤ (x6_1 : Int) := of_decide_eq_true (by first | (with_reducible assumption) | assumption)
                      have q7 : x6_1 < (a0.size : Int) := of_decide_eq_true (by first | (with_reducible assumption) | assumption)
                      have hx7 := bt_at a0 x6_1
                      replace p7 := eq_true p7
                      replace q7 := eq_true q7
                      try go_wp2
                      have n0_ := Aside0.mk (Kd.R_drew HO_5.out)
                      have n1_ := Aside0.mk (below_drew1 HB.out)
                      clear HO_5
                      clear HB
                      have HO_5 := n0_
                      have HB := n1_
                      clear n0_ n1_
                      obtain ⟨Ao20, co20, eo20⟩ := Kd.R_slice HO_5.out
                      (first | subst eo20 | (injection eo20 with f1_ f2_ f3_; have f4_ := f1_.symm; have f5_ := f3_.symm; clear f1_ f2_ f3_; subst f4_; subst f5_))
                      have p116 : 0 ≤ ((ji11) : Int) := of_decide_eq_true (by first | (with_reducible assumption) | assumption)
                      have q116 : (ji11) < (x5_1.length : Int) := of_decide_eq_true (by first | (with_reducible assumption) | assumption)
                      obtain ⟨ad116, e116, hx116_0⟩ := Kd.at_string (Kd.R_reads' HO_5.out).2.2 (ji11) p116 q116
                      cases e116
                      replace p116 := eq_true p116
                      replace q116 := eq_true q116
                      have p18 : 0 ≤ ((ji11) : Int) := of_decide_eq_true (by first | (with_reducible assumption) | assumption)
                      have q18 : ((ji11) : Int) < ((x5_1.length : Int) : Int) := of_decide_eq_true (by first | (with_reducible assumption) | assumption)
                      obtain ⟨go18, co18, eo18, gb18, gl18, cl18, HG18⟩ := Kd.R_form HO_5.out (by omega)
                      (first | cases eo18 | (injection eo18 with ea_ en_ ec_; (first | subst ea_ | (injection ea_ with ea_; subst ea_)); subst ec_; clear en_))
                      have GB18 := Aside0.mk gb18
                      have GG18 := Aside0.mk HG18
                      clear gb18 gl18 HG18
                      (first | simp only [add_plain] at hx116_0 | skip)
                      obtain ⟨hx18_0, hf18_0⟩ := Kd.R_celln (⟨#[]⟩ : ByteArray) HO_5.out ((ji11) : Int) p18 q18
                      replace p18 := eq_true p18
                      replace q18 := eq_true q18
                      have HP21 := Kd.R_putn HO_5.out ((ji11) : Int) ((rdOf ByteArray.empty x5_1 (ji11)) ++ (a0.extract (x6_1 : Int).toNat ((wrap64 (x6_1 + 1)) : Int).toNat))
                      rw [← Ny117.out] at HP21
                      have HQ21 := Aside0.mk HP21
                      clear HP21
                      refine start_ (n := 14) (S := fun w' => w'.cell? ⟨go18, ((ji11)).toNat, none⟩ = some (.string (rdOf ByteArray.empty x5_1 (ji11)))) (ds := [13]) #[false, false, false, false, false, false, false, false, false, false, false, false, false, false] (by kernel_rfl) rfl rfl (hx116_0) (fun hHeld => ?_); refine with_tabW tollref01_Split.tab7 tollref01_Split.bits7 (fun HT_ HW_ => ?_)
                      generalize wr.drew = w19 at HO_5 HB GG18 HQ21 hf18_0 hx116_0 hx18_0 hHeld ⊢
                      refine pure_ (i := 0) (N := some 22) (v := ?_) (a' := ?_) #[true, false, false, false, false, false, false, false, false, false, false, false, false, false] rfl rfl (any_of HT_.out (by kernel_rfl)) (fun _ _ _ h => h) (Or.inl ⟨by rfl, ?_⟩) ?_ ?_
                      rotate_left
                      · intro w'
                        go_simp
                        with_reducible rfl
                      rotate_left
                      · simp only [Act.put, List.setIfInBounds_toArray, List.set_cons_zero, List.set_cons_succ, i64_w, i32_w]
                        rfl
                      refine pure_ (i := 1) (N := some 23) (v := ?_) (a' := ?_) #[true, true, false, false, false, false, false, false, false, false, false, false, false, false] rfl rfl (any_of HT_.out (by kernel_rfl)) (fun _ _ _ h => h) (Or.inl ⟨by rfl, ?_⟩) ?_ ?_
                      rotate_left
                      · intro w'
                        go_simp
                        with_reducible rfl
                      rotate_left
                      · simp only [Act.put, List.setIfInBounds_toArray, List.set_cons_zero, List.set_cons_succ, i64_w, i32_w]
                        rfl
                      refine pure_ (i := 2) (N := some 24) (v := ?_) (a' := ?_) #[true, true, true, false, false, false, false, false, false, false, false, false, false, false] rfl rfl (any_of HT_.out (by kernel_rfl)) (fun _ _ _ h => h) (Or.inl ⟨by rfl, ?_⟩) ?_ ?_
                      rotate_left
                      · intro w'
                        go_simp
                        with_reducible rfl
                      rotate_left
                      · simp only [Act.put, List.setIfInBounds_toArray, List.set_cons_zero, List.set_cons_succ, i64_w, i32_w]
                        rfl
                      refine pure_ (i := 3) (N := some 25) (v := ?_) (a' := ?_) #[true, true, true, true, false, false, false, false, false, false, false, false, false, false] rfl rfl (any_of HT_.out (by kernel_rfl)) (fun _ _ _ h => h) (Or.inl ⟨by rfl, ?_⟩) ?_ ?_
                      rotate_left
                      · intro w'
                        go_simp
                        with_reducible rfl
                      rotate_left
                      · simp only [Act.put, List.setIfInBounds_toArray, List.set_cons_zero, List.set_cons_succ, i64_w, i32_w]
                        rfl
                      refine pure_ (i := 4) (N := some 26) (v := ?_) (a' := ?_) #[true, true, true, true, true, false, false, false, false, false, false, false, false, false] rfl rfl (any_of HT_.out (by kernel_rfl)) (fun _ _ _ h => h) (Or.inl ⟨by rfl, ?_⟩) ?_ ?_
                      rotate_left
                      · intro w'
                        go_simp
                        with_reducible rfl
                      rotate_left
                      · simp only [Act.put, List.setIfInBounds_toArray, List.set_cons_zero, List.set_cons_succ, i64_w, i32_w]
                        rfl
                      refine pure_ (i := 6) (N := some 28) (v := ?_) (a' := ?_) #[true, true, true, true, true, false, true, false, false, false, false, false, false, false] rfl rfl (any_of HT_.out (by kernel_rfl)) (fun _ _ _ h => h) (Or.inl ⟨by rfl, ?_⟩) ?_ ?_
                      rotate_left
                      · intro w'
                        go_simp
                        with_reducible rfl
                      rotate_left
                      · simp only [Act.put, List.setIfInBounds_toArray, List.set_cons_zero, List.set_cons_succ, i64_w, i32_w]
                        rfl
                      refine pure_ (i := 7) (N := some 29) (v := ?_) (a' := ?_) #[true, true, true, true, true, false, true, true, false, false, false, false, false, false] rfl rfl (any_of HT_.out (by kernel_rfl)) (fun _ _ _ h => h) (Or.inl ⟨by rfl, ?_⟩) ?_ ?_
                      rotate_left
                      · intro w'
                        go_simp
                        with_reducible rfl
                      rotate_left
                      · simp only [Act.put, List.setIfInBounds_toArray, List.set_cons_zero, List.set_cons_succ, i64_w, i32_w]
                        rfl
                      refine pure_ (i := 8) (N := some 30) (v := ?_) (a' := ?_) #[true, true, true, true, true, false, true, true, true, false, false, false, false, false] rfl rfl (any_of HT_.out (by kernel_rfl)) (fun _ _ _ h => h) (Or.inl ⟨by rfl, ?_⟩) ?_ ?_
                      rotate_left
                      · intro w'
                        go_simp
                        with_reducible rfl
                      rotate_left
                      · simp only [Act.put, List.setIfInBounds_toArray, List.set_cons_zero, List.set_cons_succ, i64_w, i32_w]
                        rfl
                      refine pure_ (i := 9) (N := some 31) (v := ?_) (a' := ?_) #[true, true, true, true, true, false, true, true, true, true, false, false, false, false] rfl rfl (any_of HT_.out (by kernel_rfl)) (fun _ _ _ h => h) (Or.inl ⟨by rfl, ?_⟩) ?_ ?_
                      rotate_left
                      · intro w'
                        go_simp
                        with_reducible rfl
                      rotate_left
                      · simp only [Act.put, List.setIfInBounds_toArray, List.set_cons_zero, List.set_cons_succ, i64_w, i32_w]
                        rfl
                      refine pure_ (i := 10) (N := some 32) (v := ?_) (a' := ?_) #[true, true, true, true, true, false, true, true, true, true, true, false, false, false] rfl rfl (any_of HT_.out (by kernel_rfl)) (fun _ _ _ h => h) (Or.inl ⟨by rfl, ?_⟩) ?_ ?_
                      rotate_left
                      · intro w'
                        go_simp
                        with_reducible rfl
                      rotate_left
                      · simp only [Act.put, List.setIfInBounds_toArray, List.set_cons_zero, List.set_cons_succ, i64_w, i32_w]
                        rfl
                      refine take_ (i := 5) (N := some 27) (v := ?_) (a' := ?_) #[true, true, true, true, true, true, true, true, true, true, true, false, false, false] rfl rfl (take_ofW HT_.out HW_.out (by kernel_rfl)) (fun _ _ _ h => h) (Or.inl ⟨by rfl, ?_⟩) hHeld ?_ ?_
                      rotate_left
                      · intro w' s0
                        go_simp
                        with_reducible rfl
                      rotate_left
                      · simp only [Act.put, List.setIfInBounds_toArray, List.set_cons_zero, List.set_cons_succ, i64_w, i32_w]
                        rfl
                      refine pure_ (i := 11) (N := some 33) (v := ?_) (a' := ?_) #[true, true, true, true, true, true, true, true, true, true, true, true, false, false] rfl rfl (any_of HT_.out (by kernel_rfl)) (fun _ _ _ h => h) (Or.inl ⟨by rfl, ?_⟩) ?_ ?_
                      rotate_left
                      · intro w'
                        go_simp
                        with_reducible rfl
                      rotate_left
                      · simp only [Act.put, List.setIfInBounds_toArray, List.set_cons_zero, List.set_cons_succ, i64_w, i32_w]
                        rfl
                      refine pure_ (i := 12) (N := some 34) (v := ?_) (a' := ?_) #[true, true, true, true, true, true, true, true, true, true, true, true, true, false] rfl rfl (any_of HT_.out (by kernel_rfl)) (fun _ _ _ h => h) (Or.inl ⟨by rfl, ?_⟩) ?_ ?_
                      rotate_left
                      · intro w'
                        go_simp
                        with_reducible rfl
                      rotate_left
                      · simp only [Act.put, List.setIfInBounds_toArray, List.set_cons_zero, List.set_cons_succ, i64_w, i32_w]
                        rfl
                      refine last_ (i := 13) (N := none) #[true, true, true, true, true, true, true, true, true, true, true, true, true, true] rfl rfl (one_of HT_.out (by kernel_rfl)) (by decide) (fun K hK => ?_)
                      refine skip_ (w1 := ?_) (by rfl) rfl ?_ ?_
                      rotate_left
                      · go_simp
                        rfl
                      refine hK.out _ _ ?_
                      clear hK K
                      refine done_ (done_of HT_.out (by kernel_rfl)) ?_
                      try go_wp2
                      go_roundg k1
                      case measure => have := HK1.out; omega
                      case rel => exact ⟨(y117), (wrap64 (x6_1 + 1)), (by first | rfl | (simp; done) | (simp [*]; done) | (simp [bne_nil_isEmpty, beq_nil_isEmpty]; done) | (simp [*, bne_nil_isEmpty, beq_nil_isEmpty]; done)), H', ⟨by have := HK1.out; omega⟩, ⟨by (with_reducible repeat (first | apply Kd.R_alloc | apply Kd.R_drewN | apply Kd.R_drew)); exact HQ21.out⟩, ⟨by repeat (first | (with_reducible first | exact HB.out | apply below_alloc | apply pw_below_drewN | apply below_drew1 | refine below_set ?_ GB18.out) | exact HB.out)⟩⟩
                    · rw [if_neg c17] at H
                      exact absurd H (by simp)
                  · rw [if_neg c16] at H
                    exact absurd H (by simp)
                · rw [if_neg c15] at H
                  exact absurd H (by simp)
              · rw [if_neg c13] at H
                exact absurd H (by simp)
            · rw [if_neg c12] at H
              exact absurd H (by simp)
        · rw [if_neg c6] at H
          exact absurd H (by simp)
      · rw [if_neg c5] at H
        have c5b0 : decide (x6_1 < (a0.size : Int)) = false := decide_eq_false c5
        clear c5
        obtain rfl := Option.some.inj H
        go_wp2
        go_ret
        exact ⟨_, by first | rfl | (simp [errW_none, errW_some] <;> rfl) | (simp [*, errW_none, errW_some] <;> rfl), by (with_reducible repeat (first | apply Kd.R_alloc | apply Kd.R_drewN | apply Kd.R_drew)); exact HO_5.out, by repeat (first | (with_reducible first | exact HB.out | apply below_alloc | apply pw_below_drewN | apply below_drew1) | exact HB.out)⟩

end Go.Proofs.YtjfjmniegceejaaDoor.P
