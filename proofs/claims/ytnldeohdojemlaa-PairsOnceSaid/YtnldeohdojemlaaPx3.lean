-- written by wip/tool/hprint.py of this repo: the kit's print, with contracts by hand joined; Lean checks it.
import Derived.Test.YtnldeohdojemlaaPx0
import Derived.Test.YtnldeohdojemlaaPx2
namespace Go.Proofs.Ytnldeohdojemlaa.P
open Go.RowKit Go.Proofs.YtnldeohdojemlaaW.PrintWords Go.Proofs.YtnldeohdojemlaaW.PrintLast Go.Proofs.YtnldeohdojemlaaW.PrintMore
attribute [local go_sem] max2_int min2_int max_two min_two max_three min_three max_four min_four   -- for this text's walks alone
set_option linter.unusedVariables false
set_option linter.unusedSimpArgs false

/-! ### api_Pair_27: function 27 -/
theorem idxI_spec {α : Type} (p : α → Bool) (l : List α) : (idxI p l = -1 ∧ ∀ x ∈ l, p x = false) ∨ ∃ (k : Nat) (hk : k < l.length), idxI p l = (k : Int) ∧ p (l[k]'hk) = true ∧ ∀ j (hj : j < k), p (l[j]'(by omega)) = false := by
  by_cases h : l.any p = true
  · have hlt : l.findIdx p < l.length := List.findIdx_lt_length_of_exists (by obtain ⟨x, hx, hp⟩ := List.any_eq_true.1 h; exact ⟨x, hx, hp⟩)
    have h2 := (List.findIdx_eq hlt).1 rfl
    refine .inr ⟨_, hlt, by unfold idxI; rw [if_pos h], h2.1, fun j hj => by simpa using h2.2 j hj⟩
  · refine .inl ⟨by unfold idxI; rw [if_neg h], fun x hx => ?_⟩
    have h' : l.any p = false := by simpa using h
    simpa using List.any_eq_false.1 h' x hx
/-- What the deleting loop keeps: of the first j elements i are kept, and lie at the head; from place i on all is as it was. -/
structure Kept2 {α : Type} (p : α → Bool) (l : List α) (i j : Nat) (dk : List α) : Prop where
  len : dk.length = l.length
  lt : i < j
  le : j ≤ l.length
  head : dk.take i = (l.take j).filter (fun x => !p x)
  tail : dk.drop i = l.drop i
theorem Kept2.start {α : Type} {p : α → Bool} {l : List α} {k : Nat} (hk : k < l.length) (h0 : ∀ j (hj : j < k), p (l[j]'(by omega)) = false) (h1 : p (l[k]'hk) = true) : Kept2 p l k (k + 1) l := by
  refine ⟨rfl, by omega, by omega, ?_, rfl⟩
  rw [List.take_succ_eq_append_getElem hk, List.filter_append, List.filter_cons, h1]
  have : (l.take k).filter (fun x => !p x) = l.take k := List.filter_eq_self.2 fun x hx => by
    obtain ⟨j, hj, rfl⟩ := List.getElem_of_mem hx
    rw [List.length_take] at hj
    rw [List.getElem_take, h0 j (by omega)]; rfl
  rw [this]; simp
theorem Kept2.at_ {α : Type} {p : α → Bool} {l dk : List α} {i j : Nat} (h : Kept2 p l i j dk) (hj : j < l.length) : dk[j]'(by rw [h.len]; exact hj) = l[j]'hj := by
  have h1 := congrArg (fun z => z[j - i]?) h.tail
  have := h.lt
  simp only [List.getElem?_drop, show i + (j - i) = j by omega] at h1
  rw [List.getElem?_eq_getElem hj, List.getElem?_eq_getElem (by rw [h.len]; exact hj)] at h1
  exact Option.some.inj h1
theorem Kept2.keep {α : Type} {p : α → Bool} {l dk : List α} {i j : Nat} (h : Kept2 p l i j dk) (hj : j < l.length) (hp : p (l[j]'hj) = false) : Kept2 p l (i + 1) (j + 1) (dk.set i (l[j]'hj)) := by
  have h1 := h.lt; have h2 := h.len
  refine ⟨by simpa using h2, by omega, by omega, ?_, ?_⟩
  · rw [List.take_succ_eq_append_getElem hj, List.filter_append, List.filter_cons, hp, ← h.head, List.take_succ_eq_append_getElem (by simp; omega), List.take_set_of_le (Nat.le_refl _)]
    simp
  · rw [List.drop_set_of_lt (by omega)]
    have := congrArg (List.drop 1) h.tail
    simpa [List.drop_drop, Nat.add_comm] using this
theorem Kept2.skip {α : Type} {p : α → Bool} {l dk : List α} {i j : Nat} (h : Kept2 p l i j dk) (hj : j < l.length) (hp : p (l[j]'hj) = true) : Kept2 p l i (j + 1) dk := by
  have h1 := h.lt
  refine ⟨h.len, by omega, by omega, ?_, h.tail⟩
  rw [List.take_succ_eq_append_getElem hj, List.filter_append, List.filter_cons, hp, ← h.head]
  simp
theorem Kept2.done {α : Type} {p : α → Bool} {l dk : List α} {i j : Nat} (h : Kept2 p l i j dk) (hj : ¬ j < l.length) : dk.take i = l.filter (fun x => !p x) ∧ i = (l.filter (fun x => !p x)).length ∧ i < l.length := by
  have h1 := h.lt; have h2 := h.le; have h3 := h.len
  have e := h.head
  rw [show l.take j = l from List.take_of_length_le (by omega)] at e
  refine ⟨e, ?_, by omega⟩
  rw [← e, List.length_take]; omega
theorem run_clear_pair {w : World} {g cap : Nat} {l : List S29} (h : Row2 w g cap l) (k : Nat) (hk : k < l.length) (ty c : Nat) :
    ∃ w1, (Builtin.clear_ #[22] ty #[.slice (some ⟨g, k * 2, none⟩) (l.length - k) c]).run Try.prog w = .ok (.tuple #[]) w1 ∧ Row2 w1 g cap (l.take k) ∧ w.grownBy w1 (some g) := by
  obtain ⟨cur, hh, hs, hl, hc⟩ := h
  have hv : ∀ W, (zeroValue 29).run Try.prog W = .ok ((.agg #[(.string ⟨#[]⟩), (.string ⟨#[]⟩)])) W := fun W => by
    have := info29
    cases hq : Try.prog.info? 29 with
    | none => rw [hq] at this; cases this
    | some i =>
      rw [hq] at this
      simp only [Option.map_some, Option.some.injEq, Prod.mk.injEq] at this
      simp [zeroValue, typeInfo, hq, this.1]
  have hz : ∀ v ∈ (Builtin.zeroCells ((.agg #[(.string ⟨#[]⟩), (.string ⟨#[]⟩)]) : Value).cells (l.length - k)).toList, v.oneCell' = true := fun v hv => by
    simp only [Builtin.zeroCells, Array.toList_map, List.mem_map] at hv
    obtain ⟨i, _, rfl⟩ := hv
    have : ∀ j, j < 2 → ((((.agg #[(.string ⟨#[]⟩), (.string ⟨#[]⟩)]) : Value).cells)[j]!).oneCell' = true := by decide
    exact this _ (Nat.mod_lt _ (by decide))
  have hzl : (Builtin.zeroCells ((.agg #[(.string ⟨#[]⟩), (.string ⟨#[]⟩)]) : Value).cells (l.length - k)).toList.length = (l.length - k) * 2 := by
    simp [Builtin.zeroCells]; rfl
  have hst := run_storeCells_at Try.prog g (k * 2) 29 (Builtin.zeroCells ((.agg #[(.string ⟨#[]⟩), (.string ⟨#[]⟩)]) : Value).cells (l.length - k)).toList 0 cur w hh (by rw [hzl]; omega) hz
  have hlt := blk_lt hh
  generalize hV : Builtin.zeroCells ((.agg #[(.string ⟨#[]⟩), (.string ⟨#[]⟩)]) : Value).cells (l.length - k) = V at hz hzl hst
  refine ⟨w.setRow g (cur.toList.take (k * 2 + 0) ++ V.toList ++ cur.toList.drop (k * 2 + 0 + V.toList.length)).toArray, ?_, ?_, ?_⟩
  · obtain ⟨m, hm⟩ : ∃ m, l.length - k = m + 1 := ⟨l.length - k - 1, by omega⟩
    rw [hm] at hV ⊢
    simp only [Builtin.clear_, List.getElem?_toArray, List.getElem?_cons_zero, Sem.run_bind, run_underlying Try.underlying22, Result.andThen_ok, hv, hV, hst, Sem.run_pure]
  · refine ⟨_, setRow_heap w g cur _ 29 _ hh, ?_, by rw [List.length_take]; omega, fun j hj => ?_⟩
    · simp only [List.size_toArray, List.length_append, List.length_take, List.length_drop, Array.length_toList, hzl]; omega
    · have hj' : j < k := by rw [List.length_take] at hj; omega
      have := hc j (by omega)
      rw [List.getElem_take]
      simp only [List.getElem?_toArray]
      rw [List.append_assoc, List.getElem?_append_left (by simp; omega), List.getElem?_append_left (by simp; omega), List.getElem?_take, List.getElem?_take, if_pos (by omega), if_pos (by omega)]
      simpa using this
  · exact ⟨rfl, rfl, rfl, by simp [World.setRow], fun i _ hi => by simp [World.setRow, Array.getElem?_modify, show ¬ g = i from fun e => hi (by rw [e])]⟩
set_option maxHeartbeats 8000000 in
set_option maxRecDepth 100000 in
theorem api_Pair_27.calls (base : Nat) (v0 : Value) (l0 : List S29) (w : World) (hr : Kd.R k29 29 w base (fun _ => True) v0 l0) (p : S29 → Bool) (g : Nat) (lb : Array Value)
    (eg : ∀ args W, (callFunc g args).run Try.prog W = .ok (.enter g args) W)
    (hp : ∀ (W : World) (x : S29), x ∈ l0 → w.grownBy W v0.ownBlock → Calls Try.prog g (#[.agg #[.string x.f0, .string x.f1]] ++ lb) W fun e w' => e = .returned (.bool (p x)) ∧ Below W.heap.size W w') :
    Calls Try.prog 27 #[v0, .func (.func g) #[] lb] w fun e w' => ∃ v1, e = .returned v1 ∧ Kd.R k29 29 w' base (fun _ => True) v1 (l0.filter fun x => !p x) ∧ w.grownBy w' v0.ownBlock ∧ ((∃ x ∈ l0, p x = true) → ∃ g1 c, v0 = .slice (some ⟨g1, 0, none⟩) l0.length c ∧ v1 = .slice (some ⟨g1, 0, none⟩) (l0.filter fun x => !p x).length c) := by
  obtain ⟨A0, c0, rfl, hc0, hC⟩ := Kd.R_reads hr
  have hmx := hC.2.1
  have hix := api_Pair_33.calls A0 c0 l0 w hC p g lb eg (fun W x cs hx hb hk => by
    obtain rfl := k29_open hk
    exact (hp W x hx (gb_below hb)).mono (fun e w' h => ⟨h.1, hb.trans (h.2.mono hb.size)⟩))
  rcases idxI_spec p l0 with ⟨e0, hall⟩ | ⟨k0, hk0, e0, hpk, hbef⟩
  · rw [e0] at hix
    have hf : (l0.filter fun x => !p x) = l0 := List.filter_eq_self.2 fun x hx => by rw [hall x hx]; rfl
    rw [hf]
    have HR := Aside0.mk hr
    have HI := Aside0.mk hix
    have HA := Aside0.mk hall
    clear hr hix hp hC hall e0 hf
    go_enter Try.func27, Try.ntmps27
    go_wp2_with (go_at_call 33; refine HI.out.mono ?_; rintro e w' ⟨rfl, hb'⟩; have HB' := Aside0.mk hb'; clear hb')
    go_ret
    exact ⟨_, rfl, Kd.R_below HR.out HB'.out, gb_below HB'.out, fun ⟨x, hx, hpx⟩ => absurd hpx (by rw [HA.out x hx]; decide)⟩
  · rw [e0] at hix
    obtain ⟨ad, rfl⟩ : ∃ ad, A0 = some ad := by
      obtain ⟨ad, he, _⟩ := hC.2.2 (by omega)
      exact ⟨ad, he⟩
    obtain ⟨gb, rfl, -, hgb, hcm, hrow⟩ := row2_of hr
    have hp' : ∀ (W : World) (x : S29), x ∈ l0 → w.grownBy W (some gb) → Calls Try.prog g (#[.agg #[.string x.f0, .string x.f1]] ++ lb) W fun e w' => e = .returned (.bool (p x)) ∧ Below W.heap.size W w' := hp
    have HI := Aside0.mk hix
    have HP := Aside0.mk hp'
    have HW := Aside0.mk hrow
    have HK2 := Aside0.mk (Kept2.start hk0 hbef hpk)
    have HGB := Aside0.mk (And.intro hgb hcm)
    have hne1 : ((k0 : Int) == -1) = false := beq_eq_false_iff_ne.2 (by omega)
    clear hr hix hp hC hrow hbef hpk e0 hp' hgb hcm
    go_enter Try.func27, Try.ntmps27
    go_wp2_with (go_at_call 33; refine HI.out.mono ?_; rintro e w' ⟨rfl, hb'⟩; have HB' := Aside0.mk hb'; clear hb')
    go_loopg [5, 6, 7] l0.length (fun gg s5 s6 _ wr => ∃ (i j : Nat) (dk : List S29), s5 = .int .i64 i ∧ s6 = .int .i64 j ∧ j ≤ l0.length ∧ l0.length - j ≤ gg ∧ Aside0 (Kept2 p l0 i j dk) ∧ Aside0 (Row2 wr gb c0 dk) ∧ Aside0 (w.grownBy wr (some gb)))
    case atStart => exact ⟨k0, k0 + 1, l0, rfl, by go_num, by omega, by omega, HK2, ⟨HW.out.below HB'.out⟩, ⟨gb_below HB'.out⟩⟩
    case round =>
      clear HW HK2 HB' HI
      obtain ⟨i, j, dk, rfl, rfl, hjl, hgg, KI, RW, KB⟩ := hrel
      have hij := KI.out.lt
      have hdl := KI.out.len
      by_cases hlt : j < l0.length
      · have p1 : (0 : Int) ≤ (j : Int) := by omega
        have q1 : (j : Int) < (l0.length : Int) := by omega
        have p2 : (0 : Int) ≤ (i : Int) := by omega
        have q2 : (i : Int) < (l0.length : Int) := by omega
        obtain ⟨hx0, hx1⟩ := RW.out.cell j (by omega)
        have hgl := RW.out.lt
        rw [KI.out.at_ hlt] at hx0 hx1
        have hmem : l0[j]'hlt ∈ l0 := List.getElem_mem hlt
        have hcall := HP.out (wr.alloc (.cells #[.string (l0[j]'hlt).f0, .string (l0[j]'hlt).f1] 29)) _ hmem (gb_step KB.out ((Below.refl _ wr).alloc (Nat.le_refl _) _))
        clear hmem
        have KKeep : p (l0[j]'hlt) = false → Kept2 p l0 (i + 1) (j + 1) (dk.set i (l0[j]'hlt)) := fun hq => KI.out.keep hlt hq
        have KSkip : p (l0[j]'hlt) = true → Kept2 p l0 i (j + 1) dk := fun hq => KI.out.skip hlt hq
        generalize hy : l0[j]'hlt = y at *
        clear hy
        have hil : i < dk.length := by omega
        replace p1 := eq_true p1
        replace q1 := eq_true q1
        replace p2 := eq_true p2
        replace q2 := eq_true q2
        cases hq : p y with
        | true =>
          rw [hq] at hcall
          have K2 := Aside0.mk (KSkip hq)
          have HC := Aside0.mk hcall
          clear hcall hq KSkip KKeep
          go_wp2_with (go_at_fn g; refine HC.out.mono ?_; rintro e w' ⟨rfl, hb'⟩; have HB' := Aside0.mk (((Below.refl wr.heap.size wr).alloc (Nat.le_refl _) _).trans (hb'.mono (by simp))); clear hb')
          go_roundg (l0.length - (j + 1))
          case measure => omega
          case rel => exact ⟨i, j + 1, dk, rfl, by go_num, by omega, by omega, K2, ⟨RW.out.below HB'.out⟩, ⟨gb_step KB.out HB'.out⟩⟩
        | false =>
          rw [hq] at hcall
          have K2 := Aside0.mk (KKeep hq)
          have HC := Aside0.mk hcall
          clear hcall hq KSkip KKeep
          go_wp2_with (go_at_fn g; refine HC.out.mono ?_; rintro e w' ⟨rfl, hb'⟩; have HB' := Aside0.mk (((Below.refl wr.heap.size wr).alloc (Nat.le_refl _) _).trans (hb'.mono (by simp))); have hp0 : w'.cell? ⟨wr.heap.size, 0, none⟩ = some (.string y.f0) := (hb'.cell (p := ⟨wr.heap.size, 0, none⟩) (by simp)).trans (by simp [World.cell?_alloc_new]); have hp1 : w'.cell? ⟨wr.heap.size, 1, none⟩ = some (.string y.f1) := (hb'.cell (p := ⟨wr.heap.size, 1, none⟩) (by simp)).trans (by simp [World.cell?_alloc_new]); obtain ⟨ho0, ho1⟩ := (RW.out.below HB'.out).cell i hil; have hz0 := (RW.out.below HB'.out).frozen (i * 2); have hz1 := (RW.out.below HB'.out).frozen (i * 2 + 1); clear hb')
          go_roundg (l0.length - (j + 1))
          case measure => omega
          case rel => exact ⟨i + 1, j + 1, dk.set i y, by go_num, by go_num, by omega, by omega, K2, ⟨(RW.out.below HB'.out).put i hil y⟩, ⟨gb_set (gb_set (gb_step KB.out HB'.out) _ _) _ _⟩⟩
      · obtain ⟨hd1, hd2, hd3⟩ := KI.out.done hlt
        obtain ⟨w1, hcl0, hr1, hk1⟩ := run_clear_pair RW.out i (by omega) 0 (c0 - i)
        have hcl : ∀ ty, (Builtin.clear_ #[22] ty #[.slice (some ⟨gb, i * 2, none⟩) (l0.length - i) (c0 - i)]).run Try.prog wr = .ok (.tuple #[]) w1 := fun ty => by rw [← hdl]; exact hcl0
        clear hcl0
        rw [hd1] at hr1
        have q1 : ¬ (j : Int) < (l0.length : Int) := by omega
        have hb1 : (0 : Int) ≤ (i : Int) := by omega
        have hb2 : (i : Int) ≤ (l0.length : Int) := by omega
        have hb3 : (i : Int) ≤ (c0 : Int) := by omega
        have R1 := Aside0.mk hr1
        have K1 := Aside0.mk hk1
        have D1 := Aside0.mk hd2
        obtain rfl : j = l0.length := by omega
        clear hr1 hk1 hd1 hd2
        go_wp2
        go_ret
        refine ⟨_, rfl, ?_, ?_, ?_⟩
        · have := R1.out.R HGB.out.1 HGB.out.2
          rwa [← D1.out] at this
        · exact gb_trans KB.out K1.out
        · exact fun _ _ _ => ⟨gb, c0, ⟨rfl, rfl⟩, by rw [← D1.out]; rfl⟩

/-! ### api_Pair_28: function 28 -/
def api_Pair_28.f (l0 : List (S29)) : Option (List (S29)) := if l0.length * 32 ≤ 140737488355328 then some l0 else none
set_option maxHeartbeats 8000000 in
set_option maxRecDepth 100000 in
theorem api_Pair_28.calls (A0 : Option Addr) (c0 : Nat) (l0 : List (S29)) (r : List (S29)) (w : World) (hr0 : Kd.C k29 w A0 l0.length l0) (hc0 : l0.length ≤ c0) (h : api_Pair_28.f l0 = some r) :
    Calls Try.prog 28 #[.slice A0 l0.length c0] w fun e w' => ∃ v0_ : Value, e = .returned (v0_) ∧ Kd.R k29 29 w' w.heap.size (fun _ => True) v0_ r ∧ Below w.heap.size w w' := by
  have hlim : l0.length * 32 ≤ 140737488355328 := by
    by_cases hx : l0.length * 32 ≤ 140737488355328
    · exact hx
    · rw [api_Pair_28.f, if_neg hx] at h; cases h
  rw [api_Pair_28.f, if_pos hlim] at h
  obtain rfl := Option.some.inj h
  clear h
  have HR := Aside0.mk hr0
  have LM := Aside0.mk hlim
  clear hlim hc0
  have hq := fun (W : World) (a : Option Addr) (n c n' c' : Nat) => Lib.run_eql_slice_nil (P := Try.prog) W 22 29 a n c n' c' Try.underlying22
  cases A0 with
  | none =>
    have h0 : l0 = [] := by
      rcases Nat.eq_zero_or_pos l0.length with h0 | h0
      · exact List.eq_nil_of_length_eq_zero h0
      · obtain ⟨ad, he, _⟩ := hr0.2.2 h0
        cases he
    subst h0
    clear hr0 HR
    go_enter Try.func28, Try.ntmps28
    go_wp2
    go_ret
    exact ⟨_, rfl, Kd.R_nil _ _ _ _ _, Below.refl _ _⟩
  | some ad =>
    clear hr0
    go_enter Try.func28, Try.ntmps28
    go_wp2_with (at_builtin; refine Kd.R_append_rows k29 (w0 := w) w.heap.size rfl (.tmp 5) (.tmp 6) 22 29 (.agg #[(.string ⟨#[]⟩), (.string ⟨#[]⟩)]) 32 rfl Try.underlying22 info29 rfl (by decide) (by decide) (.slice (some ⟨w.heap.size, 0, none⟩) 0 0) [] l0 (some ad) l0.length c0 (fun _ => True) (fun _ => False) rfl rfl ?aO ?aR (fun _ _ h => h) (fun _ h => h.elim) (fun _ _ => trivial) ?aB ?aS ?aL ?_; (case aO => exact ⟨fun _ _ => trivial, [], World.ownsRow_made w #[] 0 (Nat.le_refl _) (Nat.zero_le _) (by simp), Reps.none _ _⟩); (case aR => exact Kd.C_alloc HR.out _); (case aB => exact (Below.refl _ w).alloc (Nat.le_refl _) _); (case aS => simp); (case aL => have := LM.out; simp; omega); intro v1 w1 ho hb hg hat; rw [List.nil_append] at ho; have n0_ := Aside0.mk ho; have n1_ := Aside0.mk hb; clear ho hb hg hat)
    go_ret
    exact ⟨_, rfl, n0_.out, n1_.out⟩

/-! ### dns_Fold: function 32 -/
def dns_Fold.b (c : UInt8) : UInt8 := if 65 ≤ c.toNat ∧ c.toNat ≤ 90 then UInt8.ofNat (c.toNat + 32) else c
def dns_Fold.f (a0 : ByteArray) : Option (ByteArray) := if a0.size ≤ 9223372036854775807 then some ⟨(a0.data.toList.map dns_Fold.b).toArray⟩ else none
/-- The octets as numbers, the first k of them folded. -/
def dns_Fold.at_ (s : ByteArray) (k j : Nat) : Int := if j < k then ((dns_Fold.b (s.data.toList.getD j 0)).toNat : Int) else ((s.data.toList.getD j 0).toNat : Int)
theorem dns_Fold.bits_or (c : Int) (h0 : 65 ≤ c) (h1 : c ≤ 90) : Go.bits .or .u8 c 32 = c + 32 := by
  have h : ∀ n : Fin 26, Go.bits .or .u8 (65 + (n.val : Int)) 32 = 97 + (n.val : Int) := by decide
  have := h ⟨(c - 65).toNat, by omega⟩
  simp only [Int.toNat_of_nonneg (show 0 ≤ c - 65 by omega)] at this
  rw [show (65 : Int) + (c - 65) = c by omega, show (97 : Int) + (c - 65) = c + 32 by omega] at this
  exact this
theorem dns_Fold.in_ (c : UInt8) (h0 : 65 ≤ c.toNat) (h1 : c.toNat ≤ 90) : ((dns_Fold.b c).toNat : Int) = (c.toNat : Int) + 32 := by
  unfold dns_Fold.b
  rw [if_pos ⟨h0, h1⟩, UInt8.toNat_ofNat']
  omega
theorem dns_Fold.out_ (c : UInt8) (h : ¬ (65 ≤ c.toNat ∧ c.toNat ≤ 90)) : dns_Fold.b c = c := by
  unfold dns_Fold.b
  rw [if_neg h]
theorem dns_Fold.frozen_ (w : World) (e : TypeId) (s : ByteArray) (j : Nat) (hj : j < s.size) : (Lib.bytesWorld w e s).frozen? ⟨w.heap.size, j, none⟩ = false := by
  have h := Lib.bytesWorld_at_new w e s
  have hl : s.size ≤ (Lib.bytesCells w e s).size := by
    have hd : s.data.size = s.size := rfl
    simp [Lib.bytesCells] <;> omega
  simp [World.frozen?, h]
  try omega
theorem dns_Fold.below_ (w : World) (e : TypeId) (s : ByteArray) : Below w.heap.size w (Lib.bytesWorld w e s) :=
  ⟨rfl, rfl, rfl, by rw [Lib.bytesWorld_size]; omega, fun i hi => Lib.bytesWorld_at_old w e s i hi⟩
set_option maxHeartbeats 8000000 in
set_option maxRecDepth 100000 in
theorem dns_Fold.calls (a0 : ByteArray) (r : ByteArray) (w : World) (h : dns_Fold.f a0 = some r) :
    Calls Try.prog 32 #[.string a0] w fun e w' => e = .returned (.string r) ∧ Below w.heap.size w w' := by
  have hmx : a0.size ≤ 9223372036854775807 := by
    by_cases hx : a0.size ≤ 9223372036854775807
    · exact hx
    · rw [dns_Fold.f, if_neg hx] at h; cases h
  rw [dns_Fold.f, if_pos hmx] at h
  have H := Aside0.mk h
  clear h
  have hcv := fun (W : World) => Lib.run_convert_string_bytes (P := Try.prog) W 9 53 5 a0 Try.underlying9 Try.underlying53 Try.underlying5
  have hsz : a0.data.toList.length = a0.size := data_length a0
  have HSZ := Aside0.mk hsz
  clear hsz
  go_enter Try.func32, Try.ntmps32
  go_wp2
  clear hcv
  have hc0 := Aside0.mk (fun j (hj : j < a0.size) => Lib.bytesWorld_cell w 5 a0 j hj)
  have hf0 := Aside0.mk (fun j (hj : j < a0.size) => dns_Fold.frozen_ w 5 a0 j hj)
  have hb0 := Aside0.mk (dns_Fold.below_ w 5 a0)
  generalize Lib.bytesWorld w 5 a0 = W1 at hc0 hf0 hb0 ⊢
  generalize grownCap w a0.size 0 5 = cp
  go_loopw [10] (fun i wr => ∃ k : Nat, k ≤ a0.size ∧ i = .int .i64 k ∧ Aside0 (Below w.heap.size w wr) ∧ Aside0 (∀ j, j < a0.size → wr.cell? ⟨w.heap.size, j, none⟩ = some (.int .u8 (dns_Fold.at_ a0 k j))) ∧ Aside0 (∀ j, j < a0.size → wr.frozen? ⟨w.heap.size, j, none⟩ = false)) (fun i _ => a0.size - (intOf i).toNat)
  case atStart => exact ⟨0, Nat.zero_le _, rfl, hb0, ⟨fun j hj => by rw [hc0.out j hj]; unfold dns_Fold.at_; rw [if_neg (by omega)]⟩, hf0⟩
  case round =>
    clear hb0 hc0 hf0
    obtain ⟨k, hk, rfl, hb, hc, hf⟩ := hrel
    by_cases hlt : k < a0.size
    · have hck := hc.out k hlt
      have hfk := hf.out k hlt
      have hwb := hb.out.size
      have hat : dns_Fold.at_ a0 k k = ((a0.data.toList.getD k 0).toNat : Int) := by unfold dns_Fold.at_; rw [if_neg (by omega)]
      rw [hat] at hck
      clear hat
      have hn := (a0.data.toList.getD k 0).toNat_lt
      have hst : ∀ j, j ≠ k → dns_Fold.at_ a0 (k + 1) j = dns_Fold.at_ a0 k j := by
        intro j hj
        unfold dns_Fold.at_
        by_cases h1 : j < k
        · rw [if_pos h1, if_pos (by omega)]
        · rw [if_neg h1, if_neg (by omega)]
      have HST := Aside0.mk hst
      have hsk : dns_Fold.at_ a0 (k + 1) k = ((dns_Fold.b (a0.data.toList.getD k 0)).toNat : Int) := by unfold dns_Fold.at_; rw [if_pos (by omega)]
      have HSK := Aside0.mk hsk
      clear hst hsk
      have hltz : (k : Int) < (a0.size : Int) := by omega
      have HIN := Aside0.mk (dns_Fold.in_ (a0.data.toList.getD k 0))
      have HOUT := Aside0.mk (dns_Fold.out_ (a0.data.toList.getD k 0))
      generalize a0.data.toList.getD k 0 = c at hck hn HSK HIN HOUT
      by_cases h1 : 65 ≤ c.toNat
      · have b1 : decide (65 ≤ (c.toNat : Int)) = true := decide_eq_true (by omega)
        by_cases h2 : c.toNat ≤ 90
        · have b2 : decide ((c.toNat : Int) ≤ 90) = true := decide_eq_true (by omega)
          have hor := dns_Fold.bits_or (c.toNat : Int) (by omega) (by omega)
          rw [HIN.out h1 h2] at HSK
          clear HIN HOUT h1 h2
          go_wp2
          go_roundw
          case rel =>
            refine ⟨k + 1, by omega, by go_num, ⟨hb.out.setCell (p := ⟨w.heap.size, k, none⟩) (Nat.le_refl _) _⟩, ⟨fun j hj => ?_⟩, ⟨fun j hj => by rw [World.frozen?_setCell]; exact hf.out j hj⟩⟩
            by_cases hjk : j = k
            · subst hjk
              rw [HSK.out]
              exact World.cell?_setCell_same _ _ _ (hc.out j hj)
            · rw [HST.out j hjk, World.cell?_setCell_other _ _ _ _ (by intro h; injection h with _ h _; exact hjk h.symm)]
              exact hc.out j hj
          case measure => simp [intOf]; omega
        · have b2 : decide ((c.toNat : Int) ≤ 90) = false := decide_eq_false (by omega)
          rw [HOUT.out (by omega)] at HSK
          clear HIN HOUT h1 h2
          go_wp2
          go_roundw
          case rel =>
            refine ⟨k + 1, by omega, by go_num, hb, ⟨fun j hj => ?_⟩, hf⟩
            by_cases hjk : j = k
            · subst hjk
              rw [HSK.out]
              exact hck
            · rw [HST.out j hjk]; exact hc.out j hj
          case measure => simp [intOf]; omega
      · have b1 : decide (65 ≤ (c.toNat : Int)) = false := decide_eq_false (by omega)
        rw [HOUT.out (by omega)] at HSK
        clear HIN HOUT h1
        go_wp2
        go_roundw
        case rel =>
          refine ⟨k + 1, by omega, by go_num, hb, ⟨fun j hj => ?_⟩, hf⟩
          by_cases hjk : j = k
          · subst hjk
            rw [HSK.out]
            exact hck
          · rw [HST.out j hjk]; exact hc.out j hj
        case measure => simp [intOf]; omega
    · have hge : decide ((k : Int) < (a0.size : Int)) = false := decide_eq_false (by omega)
      obtain rfl : k = a0.size := by omega
      have hcv := fun dst hd => run_convert_bytes_arg (P := Try.prog) wr 53 5 Try.underlying53 Try.underlying5 w.heap.size 0 a0.size cp (a0.data.toList.map fun b => ((dns_Fold.b b).toNat : Int)) (by rw [List.length_map]; exact HSZ.out) (fun i hi => by
        rw [Nat.zero_add, hc.out i hi]
        unfold dns_Fold.at_
        rw [if_pos hi]
        have hl : i < a0.data.toList.length := by rw [HSZ.out]; exact hi
        simp [List.getD, List.getElem?_eq_getElem hl]) dst hd
      have hcv2 := hcv 9 Try.underlying9
      clear hcv
      have hr : r = strOfNums (a0.data.toList.map fun b => ((dns_Fold.b b).toNat : Int)) := by
        have h := Option.some.inj H.out
        rw [← h]
        unfold strOfNums
        congr 2
        rw [List.map_map]
        refine List.map_congr_left fun b _ => ?_
        simp
      have HR := Aside0.mk hr
      clear hr H
      generalize strOfNums (a0.data.toList.map fun b => ((dns_Fold.b b).toNat : Int)) = rr at hcv2 HR
      obtain rfl := HR.out
      clear HR
      go_wp2
      go_ret
      exact ⟨rfl, hb.out⟩

/-! ### pairs_Same: function 20 -/
def pairs_Same.f (a0 : ByteArray) (a1 : ByteArray) : Option (Bool) := (dns_Fold.f a0).bind fun t110 => ((dns_Fold.f a1).bind fun t111 => (some (t110.toList == t111.toList)))
set_option maxHeartbeats 8000000 in
set_option maxRecDepth 100000 in
theorem pairs_Same.calls (a0 : ByteArray) (a1 : ByteArray) (r : Bool) (w : World) (h : pairs_Same.f a0 a1 = some r) :
    Calls Try.prog 20 #[.string a0, .string a1] w fun e w' => e = .returned (.bool r) ∧ Below w.heap.size w w' := by
  have HB := Aside0.mk (Below.refl w.heap.size w)
  have H : ((dns_Fold.f a0).bind fun t110 => ((dns_Fold.f a1).bind fun t111 => (some (t110.toList == t111.toList)))) = some r := h
  clear h
  replace H := Option.bind_eq_some_iff.mp H
  obtain ⟨t110, A30, H⟩ := H
  replace H : ((dns_Fold.f a1).bind fun t111 => (some (t110.toList == t111.toList))) = some r := H
  have A3 := Aside0.mk A30
  clear A30
  replace H := Option.bind_eq_some_iff.mp H
  obtain ⟨t111, A40, H⟩ := H
  replace H : (some (t110.toList == t111.toList)) = some r := H
  have A4 := Aside0.mk A40
  clear A40
  obtain rfl := Option.some.inj H
  go_enter Try.func20, Try.ntmps20
  go_wp2_with (first | ((with_reducible refine gate_callee (f := 32) rfl ?_); refine goesL_ (some 6) rfl rfl Try.func32 (by kernel_rfl) rfl #[.string a0] rfl (by (try simp only [List.map_toArray, List.map_cons, List.map_nil]); first | done | rfl | (simp only [List.length_drop, List.length_take]; rfl)) ?_; (with_reducible refine (dns_Fold.calls a0 t110 _ A3.out).mono ?_); rintro e w5 ⟨rfl, hb⟩; refine ⟨_, rfl, ?_⟩; have n0_ := Aside0.mk (below_step (by repeat (first | (with_reducible first | exact HB.out | apply below_alloc | apply pw_below_drewN | apply below_drew1) | exact HB.out)) hb); clear HB; have HB := n0_; clear n0_; (try clear hb); (try clear hb2); (try clear hk); (try clear hi)) | ((with_reducible refine gate_callee (f := 32) rfl ?_); refine goesL_ (some 8) rfl rfl Try.func32 (by kernel_rfl) rfl #[.string a1] rfl (by (try simp only [List.map_toArray, List.map_cons, List.map_nil]); first | done | rfl | (simp only [List.length_drop, List.length_take]; rfl)) ?_; (with_reducible refine (dns_Fold.calls a1 t111 _ A4.out).mono ?_); rintro e w6 ⟨rfl, hb⟩; refine ⟨_, rfl, ?_⟩; have n0_ := Aside0.mk (below_step (by repeat (first | (with_reducible first | exact HB.out | apply below_alloc | apply pw_below_drewN | apply below_drew1) | exact HB.out)) hb); clear HB; have HB := n0_; clear n0_; (try clear hb); (try clear hb2); (try clear hk); (try clear hi)))
  go_ret
  exact ⟨by first | rfl | (simp [errW_none, errW_some] <;> rfl) | (simp [*, errW_none, errW_some] <;> rfl), by repeat (first | (with_reducible first | exact HB.out | apply below_alloc | apply pw_below_drewN | apply below_drew1) | exact HB.out)⟩

-- NOT PRINTED: function 29 (pairs_Drop_1)

/-! ### pairs_finder: function 24 -/
/-- A function value that tells whether two texts are the same. -/
def SameAt (P : Program) (g : Nat) (q : ByteArray → ByteArray → Option Bool) : Prop :=
  ∀ (W : World) (a b : ByteArray) (r : Bool), q a b = some r → Calls P g #[.string a, .string b] W fun e w' => e = .returned (.bool r) ∧ Below W.heap.size W w'
def pOf (q : ByteArray → ByteArray → Option Bool) (name : ByteArray) (x : S29) : Bool := q x.f0 name == some true
def qAll (q : ByteArray → ByteArray → Option Bool) (l : List (S29)) (name : ByteArray) : Bool := l.all fun x => (q x.f0 name).isSome
def getI (q : ByteArray → ByteArray → Option Bool) (l : List (S29)) (name : ByteArray) : ByteArray × Bool := if idxI (pOf q name) l < 0 then ((⟨#[]⟩ : ByteArray), false) else ((rd_T29 l (idxI (pOf q name) l)).f1, true)
theorem idxI_lt {α : Type} (p : α → Bool) (l : List α) : idxI p l < l.length := by
  unfold idxI
  by_cases h : l.any p = true
  · rw [if_pos h]
    have := List.findIdx_lt_length_of_exists (p := p) (xs := l) (by obtain ⟨x, hx, hp⟩ := List.any_eq_true.1 h; exact ⟨x, hx, hp⟩)
    omega
  · rw [if_neg h]; omega
theorem same_at : SameAt Try.prog 20 pairs_Same.f := fun W a b r h => pairs_Same.calls a b r W h
set_option maxHeartbeats 8000000 in
set_option maxRecDepth 100000 in
theorem first1.pred (g : Nat) (q : ByteArray → ByteArray → Option Bool) (hs : SameAt Try.prog g q) (eg : ∀ args W, (callFunc g args).run Try.prog W = .ok (.enter g args) W) (fb nb : Nat) (name : ByteArray) (w : World) (l : List (S29))
    (hfb : fb < w.heap.size) (hnb : nb < w.heap.size) (hf : w.cell? ⟨fb, 0, none⟩ = some (.func (.func g) #[] #[])) (hn : w.cell? ⟨nb, 0, none⟩ = some (.string name)) (hq : qAll q l name = true) :
    PredK Try.prog 34 #[.pointer (some ⟨fb, 0, none⟩), .pointer (some ⟨nb, 0, none⟩)] k29 l (pOf q name) w := by
  intro W x cs hx hb hk
  obtain rfl := k29_open hk
  have hqx : q x.f0 name = some (pOf q name x) := by
    have := List.all_eq_true.1 hq x hx
    unfold pOf
    cases h : q x.f0 name with
    | none => rw [h] at this; cases this
    | some b => cases b <;> rfl
  have HQ := Aside0.mk hqx
  have HS := Aside0.mk hs
  have hf' : W.cell? ⟨fb, 0, none⟩ = some (.func (.func g) #[] #[]) := (hb.cell (p := ⟨fb, 0, none⟩) hfb).trans hf
  have hn' : W.cell? ⟨nb, 0, none⟩ = some (.string name) := (hb.cell (p := ⟨nb, 0, none⟩) hnb).trans hn
  have hf1 : fb ≠ W.heap.size := by have := hb.size; omega
  have hn1 : nb ≠ W.heap.size := by have := hb.size; omega
  have hfl : fb < W.heap.size := by have := hb.size; omega
  have hnl : nb < W.heap.size := by have := hb.size; omega
  have HB := Aside0.mk hb
  clear hqx hs hx hb hk hq hf hn hfb hnb
  show Calls Try.prog 34 #[.agg #[.string x.f0, .string x.f1], .pointer (some ⟨fb, 0, none⟩), .pointer (some ⟨nb, 0, none⟩)] W _
  generalize pOf q name x = b at HQ
  go_enter Try.func34, Try.ntmps34
  go_wp2_with (go_at_fn g; refine (HS.out _ x.f0 name b HQ.out).mono ?_; rintro e w' ⟨rfl, hb'⟩; have HB' := Aside0.mk hb'; clear hb')
  go_ret
  exact ⟨rfl, (HB.out.alloc HB.out.size _).trans (HB'.out.mono (by have := HB.out.size; simp; omega))⟩
set_option maxHeartbeats 8000000 in
set_option maxRecDepth 100000 in
theorem finder_first.calls (g : Nat) (q : ByteArray → ByteArray → Option Bool) (hs : SameAt Try.prog g q) (eg : ∀ args W, (callFunc g args).run Try.prog W = .ok (.enter g args) W) (A0 : Option Addr) (c0 : Nat) (l0 : List (S29)) (name : ByteArray) (w : World)
    (hr0 : Kd.C k29 w A0 l0.length l0) (hq : qAll q l0 name = true) :
    Calls Try.prog 24 #[.agg #[.func (.func g) #[] #[]], .slice A0 l0.length c0, .string name] w fun e w' => e = .returned (.int .i64 (idxI (pOf q name) l0)) ∧ Below w.heap.size w w' := by
  have eg1 : ∀ args W, (callFunc 34 args).run Try.prog W = .ok (.enter 34 args) W := enters_of Try.func34 (by kernel_rfl) rfl
  have EG1 := Aside0.mk eg1
  have HR := Aside0.mk hr0
  have HS := Aside0.mk hs
  have EG := Aside0.mk eg
  have HQ := Aside0.mk hq
  clear eg1 hr0 hs eg hq
  go_enter Try.func24, Try.ntmps24
  go_wp2_with (go_at_call 33; refine (api_Pair_33.calls A0 c0 l0 _ (by exact Kd.C_alloc (Kd.C_alloc HR.out _) _) (pOf q name) 34 _ EG1.out (by exact first1.pred g q HS.out EG.out w.heap.size (w.heap.size + 1) name _ l0 (by simp; omega) (by simp) (by simp [World.cell?_alloc_lt, World.cell?_alloc_new]) (by simp [World.cell?_alloc_new]) HQ.out)).mono ?_; rintro e w' ⟨rfl, hb'⟩; have HB' := Aside0.mk hb'; clear hb')
  go_ret
  exact ⟨rfl, (((Below.refl _ w).alloc (Nat.le_refl _) _).alloc (by simp) _).trans (HB'.out.mono (by simp; omega))⟩
set_option maxHeartbeats 8000000 in
set_option maxRecDepth 100000 in
theorem finder_get.calls (g : Nat) (q : ByteArray → ByteArray → Option Bool) (hs : SameAt Try.prog g q) (eg : ∀ args W, (callFunc g args).run Try.prog W = .ok (.enter g args) W) (A0 : Option Addr) (c0 : Nat) (l0 : List (S29)) (name : ByteArray) (w : World)
    (hr0 : Kd.C k29 w A0 l0.length l0) (hq : qAll q l0 name = true) :
    Calls Try.prog 31 #[.agg #[.func (.func g) #[] #[]], .slice A0 l0.length c0, .string name] w fun e w' => e = .returned (.tuple #[.string (getI q l0 name).1, .bool (getI q l0 name).2]) ∧ Below w.heap.size w w' := by
  have HR := Aside0.mk hr0
  have HS := Aside0.mk hs
  have EG := Aside0.mk eg
  have HQ := Aside0.mk hq
  have hlt := idxI_lt (pOf q name) l0
  clear hr0 hs eg hq
  unfold getI
  generalize hix : idxI (pOf q name) l0 = ix at hlt ⊢
  have HIX := Aside0.mk hix
  clear hix
  have hfs := fun W (hW : Kd.C k29 W A0 l0.length l0) => finder_first.calls g q HS.out EG.out A0 c0 l0 name W hW HQ.out
  rw [HIX.out] at hfs
  have HFS := Aside0.mk hfs
  clear hfs
  by_cases h0 : ix < 0
  · rw [if_pos h0]
    have h0b : decide (ix < 0) = true := decide_eq_true h0
    clear h0 hlt
    go_enter Try.func31, Try.ntmps31
    go_wp2_with (go_at_call 24; refine (HFS.out _ (by exact Kd.C_alloc HR.out _)).mono ?_; rintro e w' ⟨rfl, hb'⟩; have HB' := Aside0.mk hb'; clear hb')
    go_ret2
    exact ⟨rfl, ((Below.refl _ w).alloc (Nat.le_refl _) _).trans (HB'.out.mono (by simp))⟩
  · rw [if_neg h0]
    have h0b : decide (ix < 0) = false := decide_eq_false h0
    have h0p : 0 ≤ ix := by omega
    obtain ⟨ad, ea, hx_0, hx_1⟩ := at_T29 HR.out ix h0p hlt
    cases ea
    have hl0 := And.intro (World.block_lt_of_cell? w _ hx_0) (World.block_lt_of_cell? w _ hx_1)
    generalize hy : rd_T29 l0 ix = y at *
    clear hy
    have h0q := eq_true h0p
    have h1q := eq_true hlt
    have HZ := Aside0.mk hl0
    clear hl0
    clear h0 h0p hlt
    go_enter Try.func31, Try.ntmps31
    go_wp2_with (go_at_call 24; refine (HFS.out _ (by exact Kd.C_alloc HR.out _)).mono ?_; rintro e w' ⟨rfl, hb'⟩; have hz_1 := (hb'.cell (p := _) (Nat.lt_of_lt_of_le HZ.out.2 (by simp))).trans ((((Below.refl _ w).alloc (Nat.le_refl _) _).cell HZ.out.2).trans hx_1); have HB' := Aside0.mk hb'; clear hb')
    go_ret2
    exact ⟨rfl, ((Below.refl _ w).alloc (Nat.le_refl _) _).trans (HB'.out.mono (by simp))⟩

/-! ### pairs_Drop: function 14 -/
set_option maxHeartbeats 8000000 in
set_option maxRecDepth 100000 in
theorem drop1_at (nb : Nat) (name : ByteArray) (W : World) (x : S29) (b : Bool) (hn : W.cell? ⟨nb, 0, none⟩ = some (.string name)) (hnl : nb < W.heap.size) (hq : pairs_Same.f x.f0 name = some b) :
    Calls Try.prog 29 #[.agg #[.string x.f0, .string x.f1], .pointer (some ⟨nb, 0, none⟩)] W fun e w' => e = .returned (.bool b) ∧ Below W.heap.size W w' := by
  have HQ := Aside0.mk hq
  have hn1 : nb ≠ W.heap.size := by omega
  clear hq
  go_enter Try.func29, Try.ntmps29
  go_wp2_with (go_at_call 20; refine (pairs_Same.calls x.f0 name b _ HQ.out).mono ?_; rintro e w' ⟨rfl, hb'⟩; have HB' := Aside0.mk hb'; clear hb')
  go_ret
  exact ⟨rfl, ((Below.refl _ W).alloc (Nat.le_refl _) _).trans (HB'.out.mono (by simp))⟩
def pairs_Drop.f (l0 : List (S29)) (a1 : ByteArray) : Option (List (S29)) := if qAll pairs_Same.f l0 a1 = true ∧ l0.length * 32 ≤ 140737488355328 then some (l0.filter fun x => !pOf pairs_Same.f a1 x) else none
set_option maxHeartbeats 8000000 in
set_option maxRecDepth 100000 in
/-- Dropped in a row of its own; its room is no less than what there was. -/
theorem drop_at (A0 : Option Addr) (c0 : Nat) (l0 : List (S29)) (a1 : ByteArray) (r : List (S29)) (w : World) (hr0 : Kd.C k29 w A0 l0.length l0) (hc0 : l0.length ≤ c0) (h : pairs_Drop.f l0 a1 = some r) :
    Calls Try.prog 14 #[.slice A0 l0.length c0, .string a1] w fun e w' => ∃ v0_ : Value, e = .returned (v0_) ∧ (Kd.R k29 29 w' w.heap.size (fun _ => True) v0_ r ∧ ((∃ x ∈ l0, pOf pairs_Same.f a1 x = true) → ∃ g1 c, v0_ = .slice (some ⟨g1, 0, none⟩) r.length c ∧ l0.length ≤ c)) ∧ Below w.heap.size w w' := by
  obtain ⟨hq, hl⟩ : qAll pairs_Same.f l0 a1 = true ∧ l0.length * 32 ≤ 140737488355328 := by
    by_cases hx : qAll pairs_Same.f l0 a1 = true ∧ l0.length * 32 ≤ 140737488355328
    · exact hx
    · rw [pairs_Drop.f, if_neg hx] at h; cases h
  rw [pairs_Drop.f, if_pos ⟨hq, hl⟩] at h
  obtain rfl := Option.some.inj h
  clear h
  have eg : ∀ args W, (callFunc 29 args).run Try.prog W = .ok (.enter 29 args) W := enters_of Try.func29 (by kernel_rfl) rfl
  have hcl := fun (W : World) (hW : Kd.C k29 W A0 l0.length l0) => api_Pair_28.calls A0 c0 l0 l0 W hW hc0 (by rw [api_Pair_28.f, if_pos hl])
  have HCL := Aside0.mk hcl
  have HR := Aside0.mk hr0
  have HQ := Aside0.mk hq
  have EG := Aside0.mk eg
  clear hcl hr0 hq hl eg hc0
  go_enter Try.func14, Try.ntmps14
  go_wp2_with (first | (go_at_call 28; refine (HCL.out _ (by exact Kd.C_alloc HR.out _)).mono ?_; rintro e w2 ⟨v0, rfl, hR, hb⟩; have HV := Aside0.mk hR; have HB := Aside0.mk hb; clear hR hb) | (go_at_call 27; refine (api_Pair_27.calls _ v0 l0 w2 HV.out (pOf pairs_Same.f a1) 29 _ EG.out (fun W x hx hg => by (have hne : v0.ownBlock ≠ some w.heap.size := fun e => (by have := own_base (Kd.R_own HV.out).choose_spec _ e; simp at this; omega)); have hcell : W.cell? ⟨w.heap.size, 0, none⟩ = some (.string a1) := hg.cell ((HB.out.cell (p := ⟨w.heap.size, 0, none⟩) (by simp)).trans (by simp [World.cell?_alloc_new])) (fun e => hne e.symm); exact drop1_at w.heap.size a1 W x _ hcell (by have := hg.size; have := HB.out.size; simp at this; omega) (by have := List.all_eq_true.1 HQ.out x hx; unfold pOf; (cases h : pairs_Same.f x.f0 a1 with | none => (rw [h] at this; cases this) | some b => cases b <;> rfl)))).mono ?_; rintro e w3 ⟨v1, rfl, hR, hg, hcap⟩; have HG := Aside0.mk hg; have HV1 := Aside0.mk hR; have HCP := Aside0.mk hcap; clear hR hg hcap))
  go_ret
  have hB3 : Below w.heap.size w w3 := (((Below.refl _ w).alloc (Nat.le_refl _) _).trans (HB.out.mono (by simp))).trans (gb_out HG.out (by have := HB.out.size; simp at this; omega) (fun k hk => (by have := own_base (Kd.R_own HV.out).choose_spec _ hk; simp at this; omega)))
  refine ⟨_, rfl, ⟨Kd.R_lower HV1.out (by simp), fun hx => ?_⟩, hB3⟩
  obtain ⟨g1, c, e0, e1⟩ := HCP.out hx
  obtain ⟨A, c', e', hl', _⟩ := Kd.R_reads HV.out
  rw [e0] at e'
  injection e' with _ _ e'
  exact ⟨g1, c, e1, by rw [e']; exact hl'⟩
theorem pairs_Drop.calls (A0 : Option Addr) (c0 : Nat) (l0 : List (S29)) (a1 : ByteArray) (r : List (S29)) (w : World) (hr0 : Kd.C k29 w A0 l0.length l0) (hc0 : l0.length ≤ c0) (h : pairs_Drop.f l0 a1 = some r) :
    Calls Try.prog 14 #[.slice A0 l0.length c0, .string a1] w fun e w' => ∃ v0_ : Value, e = .returned (v0_) ∧ Kd.R k29 29 w' w.heap.size (fun _ => True) v0_ r ∧ Below w.heap.size w w' :=
  (drop_at A0 c0 l0 a1 r w hr0 hc0 h).mono fun _ _ ⟨v, e, h1, h2⟩ => ⟨v, e, h1.1, h2⟩

/-! ### pairs_Add: function 16 -/
def pairs_Add.f (l0 : List (S29)) (a1 : ByteArray) (a2 : ByteArray) : Option ((List (S29))) := (api_Pair_28.f l0).bind fun t112 => (if t112.length < 4398046511104 then (some (t112 ++ [(⟨a1, a2⟩ : S29)])) else (none))
set_option maxHeartbeats 8000000 in
set_option maxRecDepth 100000 in
theorem pairs_Add.calls (A0 : Option Addr) (c0 : Nat) (l0 : List (S29)) (a1 : ByteArray) (a2 : ByteArray) (r : List (S29)) (w : World) (hr0 : Kd.C k29 w A0 l0.length l0) (hc0 : l0.length ≤ c0) (h : pairs_Add.f l0 a1 a2 = some r) :
    Calls Try.prog 16 #[.slice A0 l0.length c0, .string a1, .string a2] w fun e w' => ∃ v0_ : Value, e = .returned (v0_) ∧ Kd.R k29 29 w' w.heap.size (fun _ => True) v0_ r ∧ Below w.heap.size w w' := by
  have hu29 := Try.underlying29
  have HR0 := Aside0.mk hr0
  have HC0 := Aside0.mk hc0
  clear hr0 hc0
  have HB := Aside0.mk (Below.refl w.heap.size w)
  have H : ((api_Pair_28.f l0).bind fun t112 => (if t112.length < 4398046511104 then (some (t112 ++ [(⟨a1, a2⟩ : S29)])) else (none))) = some r := h
  clear h
  replace H := Option.bind_eq_some_iff.mp H
  obtain ⟨t112, A40, H⟩ := H
  replace H : (if t112.length < 4398046511104 then (some (t112 ++ [(⟨a1, a2⟩ : S29)])) else (none)) = some r := H
  have A4 := Aside0.mk A40
  clear A40
  by_cases c5 : t112.length < 4398046511104
  · rw [if_pos c5] at H
    have LMc5 := Aside0.mk c5
    clear c5
    obtain ⟨y115, hy115⟩ : ∃ y_ : List (S29), y_ = (t112 ++ [(⟨a1, a2⟩ : S29)]) := ⟨_, rfl⟩
    replace H : (some y115) = some r := by first | (rw [hy115]; with_reducible exact H) | (have H2_ := (Option.bind_some _ _).symm.trans H; rw [hy115]; with_reducible exact H2_) | (have H2_ := (Option.bind_some _ _).symm.trans H; with_reducible exact H2_) | with_reducible exact H | (rw [hy115]; exact H) | exact H
    have Ny115 := Aside0.mk hy115
    clear hy115
    obtain rfl := Option.some.inj H
    go_enter Try.func16, Try.ntmps16
    go_wp2_with (first | ((with_reducible refine gate_callee (f := 28) rfl ?_); refine goesL_ (some 8) rfl rfl Try.func28 (by kernel_rfl) rfl #[.slice A0 l0.length c0] rfl (by (try simp only [List.map_toArray, List.map_cons, List.map_nil]); first | done | rfl | (simp only [List.length_drop, List.length_take]; rfl)) ?_; (with_reducible refine (api_Pair_28.calls _ _ l0 t112 _ ?side1 ?side2 A4.out).mono ?_); (case side1 => repeat (first | exact HR0.out | (with_reducible refine Kd.C_alloc ?_ _) | (with_reducible refine Kd.C_drewN ?_ _) | (with_reducible refine Kd.C_drew ?_))); (case side2 => exact HC0.out); rintro e w6 ⟨v113, rfl, ho0, hb⟩; refine ⟨_, rfl, ?_⟩; have n0_ := Aside0.mk (Kd.R_lower ho0 (below_size (by repeat (first | (with_reducible first | exact HB.out | apply below_alloc | apply pw_below_drewN | apply below_drew1) | exact HB.out)))); have n1_ := Aside0.mk (below_step (by repeat (first | (with_reducible first | exact HB.out | apply below_alloc | apply pw_below_drewN | apply below_drew1) | exact HB.out)) hb); clear HB; have HO114 := n0_; have HB := n1_; clear n0_ n1_; (try clear hb); (try clear hb2); (try clear hk); (try clear hi); (try clear ho0)) | ((with_reducible refine gate_builtin (b := .append) (xs := #[.tmp 8, .tmp 12]) rfl ?_); at_builtin; refine Kd.R_append k29 (w0 := w) w.heap.size rfl (.tmp 8) (.tmp 12) 22 29 (.agg #[(.string ⟨#[]⟩), (.string ⟨#[]⟩)]) 32 rfl Try.underlying22 info29 rfl (by decide) (by omega) v113 t112 (⟨a1, a2⟩ : S29) [.string a1, .string a2] (fun _ => True) (fun _ => False) rfl rfl ?aP (fun _ hk => hk.elim) ?aF ?aO ?aB ?aS ?aL ?_; (case aP => exact k29_mkM _ _ _ (⟨a1, a2⟩ : S29)); (case aB => exact (by repeat (first | (with_reducible first | exact HB.out | apply below_alloc | apply pw_below_drewN | apply below_drew1) | exact HB.out))); (case aF => exact (fun _ _ => trivial)); (case aO => exact (by (with_reducible repeat (first | apply Kd.R_alloc | apply Kd.R_drewN | apply Kd.R_drew)); exact HO114.out)); (case aS => exact (below_size (by repeat (first | (with_reducible first | exact HB.out | apply below_alloc | apply pw_below_drewN | apply below_drew1) | exact HB.out)))); (case aL => have := LMc5.out; omega); intro v116 w7 ho hb hg hat; rw [← Ny115.out] at ho; have n0_ := Aside0.mk (hb); have n1_ := Aside0.mk (ho); clear HB; clear HO114; have HB := n0_; have HO117 := n1_; clear n0_ n1_; clear ho hb hg hat))
    go_ret
    exact ⟨_, by first | rfl | (simp [errW_none, errW_some] <;> rfl) | (simp [*, errW_none, errW_some] <;> rfl), by (with_reducible repeat (first | apply Kd.R_alloc | apply Kd.R_drewN | apply Kd.R_drew)); exact HO117.out, by repeat (first | (with_reducible first | exact HB.out | apply below_alloc | apply pw_below_drewN | apply below_drew1) | exact HB.out)⟩
  · rw [if_neg c5] at H
    exact absurd H (by simp)

-- NOT PRINTED: function 34 (pairs_finder_first_1)

-- function 24: told where it is called

-- NOT PRINTED: function 35 (api_Pair_35)

-- function 39: told where it is called

-- function 38: told where it is called

-- function 36: told where it is called

/-! ### api_Pair_25: function 25 -/
/-- Cells copied into a row of cells: elements of any number of cells. -/
theorem run_copy_cells2 {P : Program} (w : World) (dT sT ty elem sz : Nat) (g o dLen dCap : Nat) (a : Addr) (sLen sCap : Nat) (cur : Array Value) (t : TypeId) (cs : List Value)
    (hu : P.underlying dT = some (.slice elem)) (hs : (P.info? elem).map (·.size) = some sz)
    (hg : w.heap[g]? = some (.cells cur t (0, 0))) (hn : cs.length = Nat.min sLen dLen * sz)
    (hsrc : ∀ j v, cs[j]? = some v → w.cell? (a.add j) = some v) (hfit : o + cs.length ≤ cur.size) (h1 : ∀ v ∈ cs, v.oneCell' = true) :
    (Builtin.copy_ #[dT, sT] ty #[.slice (some ⟨g, o, none⟩) dLen dCap, .slice (some a) sLen sCap]).run P w =
      .ok (goInt (Nat.min sLen dLen)) (w.setRow g (cur.toList.take o ++ cs ++ cur.toList.drop (o + cs.length)).toArray) := by
  have hl := run_loadCells_list (P := P) w a cs hsrc
  have hst := run_storeCells_at P g o t cs 0 cur w hg (by simpa using hfit) h1
  cases hq : P.info? elem with
  | none => simp [hq] at hs
  | some i =>
    have hi : i.size = sz := by simpa [hq] using hs
    simp [Builtin.copy_, run_underlying hu, Builtin.lenOf, Builtin.firstCells, sizeOf, typeInfo, hq, hi, ← hn, hl, hst]
theorem cells2_one {l : List S29} {cur : Array Value} (hc : ∀ j (hj : j < l.length), cur[j * 2]? = some (.string (l[j]'hj).f0) ∧ cur[j * 2 + 1]? = some (.string (l[j]'hj).f1)) (k : Nat) (hk : k < l.length * 2) (v : Value) (h : cur[k]? = some v) : v.oneCell' = true := by
  rcases Nat.mod_two_eq_zero_or_one k with e | e
  · have := (hc (k / 2) (by omega)).1
    rw [show k / 2 * 2 = k by omega, h] at this
    cases this; rfl
  · have := (hc (k / 2) (by omega)).2
    rw [show k / 2 * 2 + 1 = k by omega, h] at this
    cases this; rfl
theorem sizeE : (Try.prog.info? 29).map (·.size) = some 2 := by
  have := info29
  cases hq : Try.prog.info? 29 with
  | none => rw [hq] at this; cases this
  | some i =>
    rw [hq] at this
    simp only [Option.map_some, Option.some.injEq, Prod.mk.injEq] at this
    simp [this.2.1]
theorem run_sizeE (W : World) : (sizeOf 29).run Try.prog W = .ok 2 W := by
  have := sizeE
  cases hq : Try.prog.info? 29 with
  | none => rw [hq] at this; cases this
  | some i0 =>
    rw [hq] at this
    simp only [Option.map_some, Option.some.injEq] at this
    simp [sizeOf, typeInfo, hq, this]
theorem Row2.shift {w : World} {g c : Nat} {l : List S29} (h : Row2 w g c l) (i : Nat) (hi : i < l.length) (hroom : l.length + 1 ≤ c) :
    ∃ w1, (∀ ty dc sc, (Builtin.copy_ #[22, 22] ty #[.slice (some ⟨g, (i + 1) * 2, none⟩) (l.length - i) dc, .slice (some ⟨g, i * 2, none⟩) (l.length + 1 - i) sc]).run Try.prog w = .ok (goInt ((l.length - i : Nat) : Int)) w1) ∧ Row2 w1 g c (l.take (i + 1) ++ l.drop i) ∧ w.grownBy w1 (some g) := by
  obtain ⟨cur, hh, hs, hl, hc⟩ := h
  have hm : Nat.min (l.length + 1 - i) (l.length - i) = l.length - i := by simp only [Nat.min_def]; split <;> omega
  generalize hcs : (cur.toList.drop (i * 2)).take ((l.length - i) * 2) = cs
  have hcl : cs.length = (l.length - i) * 2 := by rw [← hcs]; simp only [List.length_take, List.length_drop, Array.length_toList]; omega
  have hce : ∀ k, k < (l.length - i) * 2 → cs[k]? = cur[i * 2 + k]? := fun k hk => by
    rw [← hcs, List.getElem?_take, if_pos hk, List.getElem?_drop, Array.getElem?_toList]
  refine ⟨w.setRow g (cur.toList.take ((i + 1) * 2) ++ cs ++ cur.toList.drop ((i + 1) * 2 + cs.length)).toArray, fun ty dc sc => ?_, ⟨_, setRow_heap w g cur _ 29 _ hh, ?_, ?_, fun j hj => ?_⟩, rfl, rfl, rfl, by simp [World.setRow], fun k _ hk => by simp [World.setRow, Array.getElem?_modify, show ¬ g = k from fun e => hk (by rw [e])]⟩
  · have := run_copy_cells2 (P := Try.prog) w 22 22 ty 29 2 g ((i + 1) * 2) (l.length - i) dc ⟨g, i * 2, none⟩ (l.length + 1 - i) sc cur 29 cs Try.underlying22 sizeE hh (by rw [hm, hcl]) (fun j v hj => by
      have hjl : j < (l.length - i) * 2 := by rw [← hcl]; exact (List.getElem?_eq_some_iff.1 hj).1
      rw [Addr.add_lit, blk_cell hh, ← hce j hjl]; exact hj) (by rw [hcl]; omega) (fun v hv => by
      obtain ⟨j, hj⟩ := List.getElem?_of_mem hv
      have hjl : j < (l.length - i) * 2 := by rw [← hcl]; exact (List.getElem?_eq_some_iff.1 hj).1
      rw [hce j hjl] at hj
      exact cells2_one hc _ (by omega) v hj)
    rw [this, hm]
  · simp only [List.size_toArray, List.length_append, List.length_take, List.length_drop, Array.length_toList, hcl]; omega
  · rw [List.length_append, List.length_take, List.length_drop]; omega
  · have hjl : j < l.length + 1 := by rw [List.length_append, List.length_take, List.length_drop] at hj; omega
    simp only [List.getElem?_toArray]
    have ht : (cur.toList.take ((i + 1) * 2)).length = (i + 1) * 2 := by rw [List.length_take, Array.length_toList]; omega
    have htl : (l.take (i + 1)).length = i + 1 := by rw [List.length_take]; omega
    have hA : ∀ k, k < (i + 1) * 2 → (cur.toList.take ((i + 1) * 2) ++ cs ++ cur.toList.drop ((i + 1) * 2 + cs.length))[k]? = cur[k]? := fun k hk => by
      rw [List.append_assoc, List.getElem?_append_left (by rw [ht]; exact hk), List.getElem?_take, if_pos hk, Array.getElem?_toList]
    have hB : ∀ k, k < (l.length - i) * 2 → (cur.toList.take ((i + 1) * 2) ++ cs ++ cur.toList.drop ((i + 1) * 2 + cs.length))[(i + 1) * 2 + k]? = cur[i * 2 + k]? := fun k hk => by
      rw [List.append_assoc, List.getElem?_append_right (by rw [ht]; omega), ht, List.getElem?_append_left (by rw [hcl]; omega), show (i + 1) * 2 + k - (i + 1) * 2 = k by omega, hce k hk]
    by_cases e : j < i + 1
    · rw [hA _ (by omega), hA _ (by omega), List.getElem_append_left (by rw [htl]; exact e), List.getElem_take]
      exact hc j (by omega)
    · have h1 := hB ((j - (i + 1)) * 2) (by omega)
      have h2 := hB ((j - (i + 1)) * 2 + 1) (by omega)
      rw [show (i + 1) * 2 + (j - (i + 1)) * 2 = j * 2 by omega, show i * 2 + (j - (i + 1)) * 2 = (j - 1) * 2 by omega] at h1
      rw [show (i + 1) * 2 + ((j - (i + 1)) * 2 + 1) = j * 2 + 1 by omega, show i * 2 + ((j - (i + 1)) * 2 + 1) = (j - 1) * 2 + 1 by omega] at h2
      have hg : (l.take (i + 1) ++ l.drop i)[j]'hj = l[j - 1]'(by omega) := by
        rw [List.getElem_append_right (by rw [htl]; omega), List.getElem_drop]
        congr 1
        rw [htl]; omega
      rw [h1, h2, hg]
      exact hc (j - 1) (by omega)
theorem Row2.copy1 {w : World} {g c : Nat} {l : List S29} (h : Row2 w g c l) (i : Nat) (hi : i < l.length) (vb : Nat) (x : S29) (hv : w.heap[vb]? = some (.cells #[.string x.f0, .string x.f1] 29 (0, 0))) :
    (∀ ty dl dc vc, 0 < dl → (Builtin.copy_ #[22, 22] ty #[.slice (some ⟨g, i * 2, none⟩) dl dc, .slice (some ⟨vb, 0, none⟩) 1 vc]).run Try.prog w = .ok (goInt 1) ((w.setCell ⟨g, i * 2, none⟩ (.string x.f0)).setCell ⟨g, i * 2 + 1, none⟩ (.string x.f1))) := by
  have h' := h
  obtain ⟨cur, hh, hs, hl, hc⟩ := h
  intro ty dl dc vc hdl
  have hm : Nat.min 1 dl = 1 := by simp only [Nat.min_def]; split <;> omega
  have hl0 : (loadCells ⟨vb, 0, none⟩ 2).run Try.prog w = .ok #[.string x.f0, .string x.f1] w :=
    run_loadCells_list (P := Try.prog) w ⟨vb, 0, none⟩ [.string x.f0, .string x.f1] (fun j v hj => by rw [Addr.add_lit, Nat.zero_add, blk_cell hv]; simpa using hj)
  have hq : ∃ i0, Try.prog.info? 29 = some i0 ∧ i0.size = 2 := by
    have := sizeE
    cases hq : Try.prog.info? 29 with
    | none => rw [hq] at this; cases this
    | some i0 => rw [hq] at this; exact ⟨i0, rfl, by simpa using this⟩
  obtain ⟨i0, hq, hi0⟩ := hq
  have h1 : ∀ v ∈ [Value.string x.f0, Value.string x.f1], v.oneCell' = true := fun v hv => by
    simp only [List.mem_cons, List.not_mem_nil, or_false] at hv
    cases hv with
    | inl e => rw [e]; rfl
    | inr e => rw [e]; rfl
  have hst := run_storeCells_cells (P := Try.prog) g (i * 2) [.string x.f0, .string x.f1] 0 w (fun j hj => h'.room _ (by simp at hj; omega)) (fun j hj => h'.frozen _) h1
  simp only [Nat.add_zero, World.setCells] at hst
  simp [Builtin.copy_, run_underlying Try.underlying22, Builtin.lenOf, Builtin.firstCells, sizeOf, typeInfo, hq, hi0, hm, hl0, hst]
/-- THE OPERATION 'copy(d, s)' where its run is known by an equation. -/
theorem wp_copy_run2 {P : Program} (w : World) {ops : Array Oper} {rest : List Oper} {o : Oper} {a : Act} {Q : Exit → Act → World → Prop} (hgd : o.guard = none) (d s : Operand) (t t' : TypeId)
    (ho : o.op = .call { callee := .builtin .copy, args := #[d, s], argTypes := #[t, t'] }) (v u : Value) (hd : a.eval d = v) (hs : a.eval s = u) {v' : Value} {w' : World}
    (hr : (Builtin.copy_ #[t, t'] o.type #[v, u]).run P w = .ok v' w') (h : wpList P ops Q rest (a.put o.dst v') w') : wpList P ops Q (o :: rest) a w :=
  wpList_plain hgd fun K hK => by
    have := hK _ _ h
    unfold Oper.wp execOp
    simp only [ho, resolve, invoke, builtin, Sem.run_bind, Sem.run_pure, Result.andThen_ok, List.map_toArray, List.map_cons, List.map_nil, hd, hs, hr]
    exact this
theorem step_copy_run2 {P : Program} {ops : Array Oper} {o : Oper} {a : Act} {w : World} {K : Act → World → Prop} {Q : Exit → Act → World → Prop} {E : Prop}
    (hg : o.guard = none) (d x : Operand) (dT sT : TypeId) (hop : o.op = Op.call { callee := Callee.builtin Builtin.copy, args := #[d, x], argTypes := #[dT, sT] })
    (v u : Value) (hd : a.eval d = v) (hx : a.eval x = u) {v' : Value} {w' : World} (hr : (Builtin.copy_ #[dT, sT] o.type #[v, u]).run P w = .ok v' w') (hK : K (a.put o.dst v') w') :
    if Region.wanted o (yielded ops a.tmps) = true then Oper.wp P o a w K Q else E := by
  have hw : Region.wanted o (yielded ops a.tmps) = true := by simp [Region.wanted, hg]
  rw [if_pos hw]
  unfold Oper.wp
  simp [execOp, hop, resolve, invoke, builtin, hd, hx, hr, Result.andThen]
  exact hK
set_option maxHeartbeats 8000000 in
set_option maxRecDepth 100000 in
theorem insert_end (base g1 c : Nat) (l : List S29) (w : World) (hR : Kd.R k29 29 w base (fun _ => True) (.slice (some ⟨g1, 0, none⟩) l.length c) l) (hb : base ≤ w.heap.size) (hroom : l.length + 1 ≤ c) (hlim : (l.length + 1) * 32 ≤ 140737488355328) (vb vc : Nat) (x : S29) (hv : w.heap[vb]? = some (.cells #[.string x.f0, .string x.f1] 29 (0, 0))) :
    Calls Try.prog 25 #[.slice (some ⟨g1, 0, none⟩) l.length c, .int .i64 (l.length : Int), .slice (some ⟨vb, 0, none⟩) 1 vc] w fun e w' => ∃ v1, e = .returned v1 ∧ Kd.R k29 29 w' base (fun _ => True) v1 (l ++ [x]) ∧ Below base w w' := by
  have hlc : l.length ≤ c := by
    obtain ⟨A, c', e, h, _⟩ := Kd.R_reads hR
    injection e with _ _ e
    omega
  have hn0 : ¬ ((1 : Int) = 0) := by omega
  have hlc2 : (l.length : Int) ≤ (c : Int) := by omega
  have hb4 : ¬ (c = l.length) := by omega
  have hl0 : (0 : Int) ≤ (l.length : Int) := by omega
  have HR := Aside0.mk hR
  have HB := Aside0.mk hb
  have HL := Aside0.mk hlim
  have HV := Aside0.mk hv
  clear hR hb hlim hv hlc hroom
  go_enter Try.func25, Try.ntmps25
  go_wp2_with (at_builtin; refine Kd.R_append_rows k29 (Rr := k29.K w) (w0 := w) base rfl (.tmp 23) (.tmp 24) 22 29 (.agg #[(.string ⟨#[]⟩), (.string ⟨#[]⟩)]) 32 rfl Try.underlying22 info29 rfl (by decide) (by decide) _ l [x] (some ⟨vb, 0, none⟩) 1 vc (fun _ => True) (fun _ => False) rfl rfl HR.out ?aR (fun y cs h => (by obtain rfl := k29_open h; exact k29_mkM _ _ _ _)) (fun _ h => h.elim) (fun _ _ => trivial) (Below.refl _ w) HB.out HL.out ?_; (case aR => exact ⟨rfl, by decide, fun _ => ⟨_, rfl, fun j p hj => by (cases j with | zero => (cases hj; exact ⟨[.string x.f0, .string x.f1], rfl, k29_mk _ _, fun i u hi => by rw [Addr.add_lit, blk_cell HV.out]; simpa using hi⟩) | succ j => simp at hj)⟩⟩); intro v1 w1 ho hb hg hat; have n0_ := Aside0.mk ho; have n1_ := Aside0.mk hb; clear ho hb hg hat)
  go_ret
  exact ⟨_, rfl, n0_.out, n1_.out⟩
set_option maxHeartbeats 8000000 in
set_option maxRecDepth 100000 in
theorem insert_shift (base g1 c : Nat) (l : List S29) (w : World) (hR : Kd.R k29 29 w base (fun _ => True) (.slice (some ⟨g1, 0, none⟩) l.length c) l) (hb : base ≤ w.heap.size) (hroom : l.length + 1 ≤ c) (i : Nat) (hi : i < l.length) (vb vc : Nat) (hvb : vb ≠ g1) (x : S29) (hv : w.heap[vb]? = some (.cells #[.string x.f0, .string x.f1] 29 (0, 0))) :
    Calls Try.prog 25 #[.slice (some ⟨g1, 0, none⟩) l.length c, .int .i64 (i : Int), .slice (some ⟨vb, 0, none⟩) 1 vc] w fun e w' => ∃ v1, e = .returned v1 ∧ Kd.R k29 29 w' base (fun _ => True) v1 (l.take i ++ x :: l.drop i) ∧ Below base w w' := by
  obtain ⟨g, e, -, hgb, hcm, hrow⟩ := row2_of hR
  obtain rfl : g1 = g := by cases e; rfl
  clear e
  have hov : ∀ lb cb, (callFunc 35 #[.slice (some ⟨vb, 0, none⟩) 1 vc, .slice (some ⟨g1, (i + 1) * 2, none⟩) lb cb]).run Try.prog w = .ok (.value (.bool false)) w := fun lb cb => by
    obtain ⟨cur, hh, hs, hl, hc⟩ := hrow
    rw [run_callFunc_extern Try.func35 (by kernel_rfl) (by kernel_rfl) (by kernel_rfl) (e := Extern.SlicesOverlaps.overlaps #[22, 22] #[4]) (by kernel_rfl),
      Lib.run_overlaps_apart w 22 4 29 Try.underlying22 2 run_sizeE ⟨vb, 0, none⟩ ⟨g1, (i + 1) * 2, none⟩ 1 vc lb cb hvb 29 29 2 cur.size (by simp [World.shape?, hv]) (by simp [World.shape?, hh]) (by omega) (blk_frozen hv _) (blk_frozen hv _)]
    rfl
  have hrd : Row2 w.drew g1 c l := hrow.move rfl
  obtain ⟨w1, hcp1, hr1, hg1⟩ := hrd.shift i hi hroom
  have hv1 : w1.heap[vb]? = some (.cells #[.string x.f0, .string x.f1] 29 (0, 0)) := (hg1.block vb (blk_lt (show w.drew.heap[vb]? = _ from hv)) (fun e => hvb (Option.some.inj e))).trans hv
  have hcp2 := hr1.copy1 i (by rw [List.length_append, List.length_take, List.length_drop]; omega) vb x hv1
  have hr2 := hr1.put i (by rw [List.length_append, List.length_take, List.length_drop]; omega) x
  rw [show (l.take (i + 1) ++ l.drop i).set i x = l.take i ++ x :: l.drop i from by
    rw [List.take_succ_eq_append_getElem hi, List.append_assoc, List.set_append_right _ _ (by rw [List.length_take]; omega)]
    rw [show i - (l.take i).length = 0 by rw [List.length_take]; omega]
    rfl] at hr2
  have hg2 : w.grownBy ((w1.setCell ⟨g1, i * 2, none⟩ (.string x.f0)).setCell ⟨g1, i * 2 + 1, none⟩ (.string x.f1)) (some g1) := gb_set (gb_set (gb_trans (show w.grownBy w.drew (some g1) from ⟨rfl, rfl, rfl, Nat.le_refl _, fun _ _ _ => rfl⟩) hg1) _ _) _ _
  have hfin := hr2.R hgb hcm
  have hlen : (l.take i ++ x :: l.drop i).length = l.length + 1 := by rw [List.length_append, List.length_cons, List.length_take, List.length_drop]; omega
  rw [hlen] at hfin
  have hbel : Below base w _ := gb_out hg2 hb (fun k hk => by cases hk; exact hgb)
  have FIN := Aside0.mk hfin
  have BEL := Aside0.mk hbel
  have hm63 : c ≤ 9223372036854775807 := hcm
  have hz1 : ¬ ((1 : Int) = 0) := by omega
  have hz2 : ¬ ((i : Int) = (l.length : Int)) := by omega
  have hw0 : IntKind.i64.wrap ((l.length : Int) + 1) = (l.length : Int) + 1 := by rw [IntKind.wrap_i64]; omega
  have hw1 : IntKind.i64.wrap ((i : Int) + 1) = (i : Int) + 1 := by rw [IntKind.wrap_i64]; omega
  have hc1 : ¬ ((c : Int) < (l.length : Int) + 1) := by omega
  have hb1 : (0 : Int) ≤ (i : Int) + 1 := by omega
  have hb0 : (0 : Int) ≤ (i : Int) := by omega
  have hin : (i : Int) ≤ (l.length : Int) := by omega
  have htn : ((i : Int) + 1).toNat = i + 1 := by omega
  have htl : ((l.length : Int) + 1).toNat = l.length + 1 := by omega
  have hb2 : ¬ (c = i + 1) := by omega
  have hb3 : (i : Int) ≤ (l.length : Int) + 1 := by omega
  have hb5 : (i : Int) + 1 ≤ (l.length : Int) + 1 := by omega
  have hb6 : (l.length : Int) + 1 ≤ (c : Int) := by omega
  have hb7 : (0 : Int) ≤ (l.length : Int) + 1 := by omega
  have hb4 : ¬ (c = i) := by omega
  have hdl : 0 < l.length + 1 - i := by omega
  have HH := Aside0.mk (And.intro hcp1 hcp2)
  clear hR hrow hrd hr1 hg1 hr2 hg2 hfin hbel hv hv1 hcp1 hcp2 hlen
  go_enter Try.func25, Try.ntmps25
  go_wp2_with (simp only [hov])
  have mixed : Try.prog.follows Departure.mixedOrders = true := by kernel_rfl
  have hcp1 := HH.out.1
  go_region_law_o (refine step_copy_run2 rfl _ _ 22 22 rfl _ _ (by simp [Act.eval, Act.put]) (by simp [Act.eval, Act.put]) (hcp1 _ _ _) ?_)
  have hcp2 := fun ty dc => HH.out.2 ty (l.length + 1 - i) dc vc hdl
  go_wp2_with (simp only [hcp2])
  go_ret
  exact ⟨_, rfl, FIN.out, BEL.out⟩
theorem insert_at (base g1 c : Nat) (l : List S29) (w : World) (hR : Kd.R k29 29 w base (fun _ => True) (.slice (some ⟨g1, 0, none⟩) l.length c) l) (hb : base ≤ w.heap.size) (hroom : l.length + 1 ≤ c) (hlim : (l.length + 1) * 32 ≤ 140737488355328) (i : Nat) (hi : i ≤ l.length) (vb vc : Nat) (hvb : vb ≠ g1) (x : S29) (hv : w.heap[vb]? = some (.cells #[.string x.f0, .string x.f1] 29 (0, 0))) :
    Calls Try.prog 25 #[.slice (some ⟨g1, 0, none⟩) l.length c, .int .i64 (i : Int), .slice (some ⟨vb, 0, none⟩) 1 vc] w fun e w' => ∃ v1, e = .returned v1 ∧ Kd.R k29 29 w' base (fun _ => True) v1 (l.take i ++ x :: l.drop i) ∧ Below base w w' := by
  rcases Nat.lt_or_ge i l.length with h | h
  · exact insert_shift base g1 c l w hR hb hroom i h vb vc hvb x hv
  · obtain rfl : i = l.length := by omega
    rw [List.take_length, List.drop_length]
    exact insert_end base g1 c l w hR hb hroom hlim vb vc x hv

/-! ### pairs_Set: function 12 -/
def pairs_Set.f (l0 : List (S29)) (a1 : ByteArray) (a2 : ByteArray) : Option (List (S29)) :=
  if qAll pairs_Same.f l0 a1 = true then (if idxI (pOf pairs_Same.f a1) l0 < 0 then pairs_Add.f l0 a1 a2 else (pairs_Drop.f l0 a1).map fun d => d.take (idxI (pOf pairs_Same.f a1) l0).toNat ++ (⟨a1, a2⟩ : S29) :: d.drop (idxI (pOf pairs_Same.f a1) l0).toNat) else none
theorem set_room {α : Type} (p : α → Bool) (l : List α) (k : Nat) (hk : k < l.length) (h1 : p (l[k]'hk) = true) (h0 : ∀ j (hj : j < k), p (l[j]'(by omega)) = false) : (l.filter fun x => !p x).length + 1 ≤ l.length ∧ k ≤ (l.filter fun x => !p x).length := by
  have e : l = l.take k ++ l[k]'hk :: l.drop (k + 1) := by rw [List.getElem_cons_drop, List.take_append_drop]
  have hf : (l.take k).filter (fun x => !p x) = l.take k := List.filter_eq_self.2 fun x hx => by
    obtain ⟨j, hj, rfl⟩ := List.getElem_of_mem hx
    rw [List.length_take] at hj
    rw [List.getElem_take, h0 j (by omega)]; rfl
  have h2 : (l.filter fun x => !p x) = l.take k ++ (l.drop (k + 1)).filter (fun x => !p x) := by
    conv => lhs; rw [e]
    rw [List.filter_append, List.filter_cons, h1, hf]; simp
  have h3 := List.length_filter_le (fun x => !p x) (l.drop (k + 1))
  rw [h2, List.length_append, List.length_take]
  rw [List.length_drop] at h3
  omega
set_option maxHeartbeats 8000000 in
set_option maxRecDepth 100000 in
theorem pairs_Set.calls (A0 : Option Addr) (c0 : Nat) (l0 : List (S29)) (a1 : ByteArray) (a2 : ByteArray) (r : List (S29)) (w : World) (hr0 : Kd.C k29 w A0 l0.length l0) (hc0 : l0.length ≤ c0) (h : pairs_Set.f l0 a1 a2 = some r) :
    Calls Try.prog 12 #[.slice A0 l0.length c0, .string a1, .string a2] w fun e w' => ∃ v0_ : Value, e = .returned (v0_) ∧ Kd.R k29 29 w' w.heap.size (fun _ => True) v0_ r ∧ Below w.heap.size w w' := by
  have hq : qAll pairs_Same.f l0 a1 = true := by
    by_cases hx : qAll pairs_Same.f l0 a1 = true
    · exact hx
    · rw [pairs_Set.f, if_neg hx] at h; cases h
  rw [pairs_Set.f, if_pos hq] at h
  have eg : ∀ args W, (callFunc 20 args).run Try.prog W = .ok (.enter 20 args) W := enters_of Try.func20 (by kernel_rfl) rfl
  have hfs := fun W (hW : Kd.C k29 W A0 l0.length l0) => finder_first.calls 20 pairs_Same.f same_at eg A0 c0 l0 a1 W hW hq
  rcases idxI_spec (pOf pairs_Same.f a1) l0 with ⟨e0, hall⟩ | ⟨k0, hk0, e0, hpk, hbef⟩
  · rw [if_pos (by rw [e0]; decide)] at h
    rw [e0] at hfs
    have HFS := Aside0.mk hfs
    have HA := Aside0.mk (fun W (hW : Kd.C k29 W A0 l0.length l0) => pairs_Add.calls A0 c0 l0 a1 a2 r W hW hc0 h)
    have HR := Aside0.mk hr0
    clear hfs h hr0 hq eg hall e0 hc0
    go_enter Try.func12, Try.ntmps12
    go_wp2_with (first | (go_at_call 24; refine (HFS.out _ HR.out).mono ?_; rintro e w2 ⟨rfl, hb⟩; have HB := Aside0.mk hb; clear hb) | (go_at_call 16; refine (HA.out _ (by exact Kd.C_below HR.out HB.out)).mono ?_; rintro e w3 ⟨v0, rfl, hR, hb⟩; have HV := Aside0.mk hR; have HB3 := Aside0.mk hb; clear hR hb))
    go_ret
    exact ⟨_, rfl, Kd.R_lower HV.out HB.out.size, HB.out.trans (HB3.out.mono HB.out.size)⟩
  · rw [if_neg (by rw [e0]; omega)] at h
    rw [e0] at hfs h
    simp only [Int.toNat_natCast] at h
    obtain ⟨d, hd, rfl⟩ := Option.map_eq_some_iff.1 h
    clear h
    have hdl : d = l0.filter (fun x => !pOf pairs_Same.f a1 x) ∧ l0.length * 32 ≤ 140737488355328 := by
      by_cases hx : qAll pairs_Same.f l0 a1 = true ∧ l0.length * 32 ≤ 140737488355328
      · rw [pairs_Drop.f, if_pos hx] at hd
        exact ⟨(Option.some.inj hd).symm, hx.2⟩
      · rw [pairs_Drop.f, if_neg hx] at hd; cases hd
    obtain ⟨hr1, hr2⟩ := set_room (pOf pairs_Same.f a1) l0 k0 hk0 hpk hbef
    rw [← hdl.1] at hr1 hr2
    have hlim : (d.length + 1) * 32 ≤ 140737488355328 := Nat.le_trans (Nat.mul_le_mul_right _ hr1) hdl.2
    have HFS := Aside0.mk hfs
    have HD := Aside0.mk (fun W (hW : Kd.C k29 W A0 l0.length l0) => drop_at A0 c0 l0 a1 d W hW hc0 hd)
    have HR := Aside0.mk hr0
    have HM := Aside0.mk (show ∃ x ∈ l0, pOf pairs_Same.f a1 x = true from ⟨_, List.getElem_mem hk0, hpk⟩)
    have HN := Aside0.mk (And.intro hr1 (And.intro hr2 hlim))
    have hk1 : ¬ ((k0 : Int) < 0) := by omega
    clear hfs hr0 hq eg hbef hpk e0 hc0 hd hdl hr1 hr2 hlim hk0
    go_enter Try.func12, Try.ntmps12
    go_wp2_with (first | (go_at_call 24; refine (HFS.out _ HR.out).mono ?_; rintro e w2 ⟨rfl, hb⟩; have HB := Aside0.mk hb; clear hb) | (go_at_call 14; refine (HD.out _ (by exact Kd.C_below HR.out HB.out)).mono ?_; rintro e w3 ⟨v0, rfl, ⟨hR, hcap⟩, hb⟩; obtain ⟨g1, c, rfl, hcc⟩ := hcap HM.out; have HV := Aside0.mk hR; have HB3 := Aside0.mk hb; have HC := Aside0.mk hcc; clear hR hb hcap hcc))
    have hg1 : g1 < w3.heap.size := by
      obtain ⟨g, e, -, -, -, hrow⟩ := row2_of HV.out
      cases e
      exact hrow.lt
    refine (insert_at w.heap.size g1 c d _ (by exact Kd.R_lower (Kd.R_below HV.out ((Below.refl _ w3).alloc (Nat.le_refl _) _)) HB.out.size) (by have := HB.out.size; have := HB3.out.size; simp; omega) (Nat.le_trans HN.out.1 HC.out) HN.out.2.2 k0 HN.out.2.1 _ _ (by omega) (⟨a1, a2⟩ : S29) (by unfold World.alloc; exact Array.getElem?_push_size)).mono ?_
    rintro e w4 ⟨v1, rfl, hR, hb⟩
    have HV4 := Aside0.mk hR
    have HB4 := Aside0.mk (Below.trans (((HB.out.trans (HB3.out.mono HB.out.size)).alloc (by have := HB.out.size; have := HB3.out.size; omega) _)) hb)
    clear hR hb
    go_wp2
    go_ret
    exact ⟨_, rfl, HV4.out, HB4.out⟩

end Go.Proofs.Ytnldeohdojemlaa.P
