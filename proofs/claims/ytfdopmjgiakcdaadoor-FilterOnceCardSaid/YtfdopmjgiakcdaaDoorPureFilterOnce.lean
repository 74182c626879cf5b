/- FilterOnce: filters that may be, all together, are each one that may be, no two alike; so in any order, and any of them alone; then the examples. -/
import Derived.Test.YtfdopmjgiakcdaaDoorKFilterOnce
import Derived.Test.YtfdopmjgiakcdaaDoorPx0
import Derived.Test.YtfdopmjgiakcdaaDoorPx11
namespace Go.Proofs.YtfdopmjgiakcdaaDoor.Pure
open Go Go.RowKit Go.Proofs.YtfdopmjgiakcdaaDoor.P Go.Proofs.YtfdopmjgiakcdaaDoor.L Go.Proofs.YtfdopmjgiakcdaaDoorW.PrintWords Go.Proofs.YtfdopmjgiakcdaaDoorW.PrintLast
theorem eqN_comm (a b : ByteArray) : eqN a b = eqN b a := by unfold eqN; exact Bool.beq_comm
theorem like_comm (y x : FT) : likeB y x = likeB x y := by
  unfold likeB sameB
  rw [Bool.and_comm (turnerF x), eqN_comm x.f1]
  congr 2
  exact decide_eq_decide.2 eq_comm
theorem like_self (x : FT) : likeB x x = true := by
  unfold likeB sameB
  rw [eqN_refl, decide_eq_true rfl]
  simp
/-- None of one list is like one of the other. -/
noncomputable def Apart (pre r : List FT) : Prop := ∀ y ∈ r, ∀ x ∈ pre, likeB y x = false
noncomputable def Each (l : List FT) : Prop := (∀ x ∈ l, mayF x = true) ∧ l.Pairwise (fun x y => likeB y x = false)
theorem any_none (y : FT) (l : List FT) : (!l.any (likeB y)) = true ↔ ∀ x ∈ l, likeB y x = false := by
  rw [Bool.not_eq_true', List.any_eq_false]
  exact ⟨fun h x hx => by simpa using h x hx, fun h x hx => by simpa using h x hx⟩
theorem go_iff : ∀ (r pre : List FT), goB pre r = true ↔ (Each r ∧ Apart pre r ∧ pre.length + r.length ≤ 8) := by
  intro r
  induction r with
  | nil =>
    intro pre
    unfold goB
    rw [decide_eq_true_iff]
    exact ⟨fun h => ⟨⟨fun x hx => (by cases hx), List.Pairwise.nil⟩, fun y hy => (by cases hy), by simpa using h⟩, fun h => by simpa using h.2.2⟩
  | cons y r ih =>
    intro pre
    unfold goB
    rw [Bool.and_eq_true, Bool.and_eq_true, any_none, ih]
    constructor
    · rintro ⟨hm, ha, ⟨he1, he2⟩, hp, hl⟩
      refine ⟨⟨fun x hx => ?_, List.pairwise_cons.2 ⟨fun z hz => hp z hz y (List.mem_append_right _ List.mem_cons_self), he2⟩⟩, fun z hz x hx => ?_, ?_⟩
      · rcases List.mem_cons.1 hx with rfl | hx
        · exact hm
        · exact he1 x hx
      · rcases List.mem_cons.1 hz with rfl | hz
        · exact ha x hx
        · exact hp z hz x (List.mem_append_left _ hx)
      · rw [List.length_append] at hl; simp only [List.length_cons, List.length_nil] at hl ⊢; omega
    · rintro ⟨⟨he1, he2⟩, hp, hl⟩
      have he3 := List.pairwise_cons.1 he2
      refine ⟨he1 y List.mem_cons_self, hp y List.mem_cons_self, ⟨fun x hx => he1 x (List.mem_cons_of_mem _ hx), he3.2⟩, fun z hz x hx => ?_, ?_⟩
      · rcases List.mem_append.1 hx with hx | hx
        · exact hp z (List.mem_cons_of_mem _ hz) x hx
        · rw [List.mem_singleton.1 hx]; exact he3.1 z hz
      · rw [List.length_append]; simp only [List.length_cons, List.length_nil] at hl ⊢; omega
theorem all_iff (l : List FT) : allF l = true ↔ Each l ∧ l.length ≤ 8 := by
  unfold allF
  rw [go_iff]
  exact ⟨fun h => ⟨h.1, by simpa using h.2.2⟩, fun h => ⟨h.1, fun y _ x hx => (by cases hx), by simpa using h.2⟩⟩
theorem all_perm {l m : List FT} (hp : l.Perm m) (h : allF l = true) : allF m = true := by
  rw [all_iff] at h ⊢
  exact ⟨⟨fun x hx => h.1.1 x (hp.mem_iff.2 hx), (hp.pairwise_iff (fun {x y} (hxy : likeB y x = false) => by rw [like_comm]; exact hxy)).1 h.1.2⟩, by rw [← hp.length_eq]; exact h.2⟩
theorem all_sub {l m : List FT} (hs : m.Sublist l) (h : allF l = true) : allF m = true := by
  rw [all_iff] at h ⊢
  exact ⟨⟨fun x hx => h.1.1 x (hs.subset hx), h.1.2.sublist hs⟩, Nat.le_trans hs.length_le h.2⟩
theorem all_twice (l : List FT) (x : FT) (hx : x ∈ l) : allF (l ++ [x]) = false := by
  cases h : allF (l ++ [x]) with
  | false => rfl
  | true =>
    rw [all_iff] at h
    have := (List.pairwise_append.1 h.1.2).2.2 x hx x (List.mem_singleton.2 rfl)
    rw [like_self] at this
    cases this
theorem once_j0 (l : List FT) (a : Int) (ha : 0 ≤ a ∧ a ≤ 255) (hl : l.length ≤ 9) (hs : ∀ x ∈ l, SF x) (b : Bool) (hb : b = false → l ≠ [] ∧ allF l = true) (k : Nat) (hk : 4000 ≤ k) : tolllaw07_FilterOnce.j0 (k + 1) l a b = some true := by
  rw [tolllaw07_FilterOnce.j0]
  cases b with
  | true =>
    rw [if_pos rfl, all_f [] k (by omega) (fun x hx => by cases hx), Option.bind_some, show allF [] = true from rfl, if_pos rfl, filter_awake k (by omega), Option.bind_some]
  | false =>
    obtain ⟨hne, hall⟩ := hb rfl
    obtain ⟨i, rfl⟩ : ∃ i : Nat, a = (i : Int) := ⟨a.toNat, by omega⟩
    have hpos : 0 < l.length := List.length_pos_iff.2 hne
    obtain ⟨c, hc⟩ : ∃ c : Nat, Int.tmod (wrap64 (i : Int)) (l.length : Int) = (c : Int) ∧ c < l.length := ⟨i % l.length, by
      rw [wrap64_id (by omega) (by omega)]
      exact Int.ofNat_tmod i l.length |>.symm, Nat.mod_lt _ hpos⟩
    obtain ⟨hc, hcl⟩ := hc
    have hn : wrap64 ((c : Int) + 1) = ((c + 1 : Nat) : Int) := wrapF (by omega)
    have hx := hs _ (List.getElem_mem hcl)
    have hmem : l[c] ∈ l := List.getElem_mem hcl
    have hm : mayF l[c] = true := ((all_iff l).1 hall).1.1 _ hmem
    have h1 : (l.take (c + 1)).drop c = [l[c]] := by
      rw [List.take_succ_eq_append_getElem hcl, List.drop_append_of_le_length (by rw [List.length_take]; omega), List.drop_of_length_le (by rw [List.length_take]; omega), List.nil_append]
    have hone : allF [l[c]] = true := all_sub (List.singleton_sublist.2 hmem) hall
    have hturn : allF (l.drop c ++ l.take c) = true := by
      have hp : (l.take c ++ l.drop c).Perm (l.drop c ++ l.take c) := List.perm_append_comm
      rw [List.take_append_drop] at hp
      exact all_perm hp hall
    have hless : allF (l.take c ++ l.drop (c + 1)) = true := all_sub (by
      have h2 := (List.Sublist.refl (l.take c)).append (List.drop_sublist 1 (l.drop c))
      rw [List.drop_drop, List.take_append_drop] at h2
      exact h2) hall
    have htw := all_twice l l[c] hmem
    have sub : ∀ {m : List FT}, (∀ x ∈ m, x ∈ l) → ∀ x ∈ m, SF x := fun h x hx => hs x (h x hx)
    have ht : ∀ n, ∀ x ∈ l.take n, x ∈ l := fun n x hx => List.mem_of_mem_take hx
    have hd : ∀ n, ∀ x ∈ l.drop n, x ∈ l := fun n x hx => List.mem_of_mem_drop hx
    have happ : ∀ {u v : List FT}, (∀ x ∈ u, x ∈ l) → (∀ x ∈ v, x ∈ l) → ∀ x ∈ u ++ v, x ∈ l := fun hu hv x hx => (List.mem_append.1 hx).elim (hu x) (hv x)
    rw [if_neg (by decide), if_neg (by omega)]
    rw [hc, hn]
    simp only [Option.bind_some, List.nil_append, Int.toNat_natCast, rdF l c hcl]
    rw [if_pos (by omega), if_pos (by omega), if_pos (by simp only [List.length_nil, List.length_drop]; omega), if_pos (by simp only [List.length_take, List.length_drop]; omega), if_pos (by simp only [List.length_nil, List.length_take]; omega), if_pos (by omega), if_pos (by omega), if_pos (by simp only [List.length_take, List.length_drop]; omega), if_pos (by simp only [List.length_nil]; omega), if_pos (by omega), if_pos (by simp only [List.length_cons, List.length_nil]; omega)]
    rw [may_p _ hx k (by omega), Option.bind_some, if_pos hm, if_pos (by omega), h1, all_f _ k (by omega) (fun x hx' => by rw [List.mem_singleton.1 hx']; exact hx), Option.bind_some, if_pos hone,
      all_f _ k (by omega) (sub (happ (hd c) (ht c))), Option.bind_some, if_pos hturn, all_f _ k (by omega) (sub (happ (ht c) (hd (c + 1)))), Option.bind_some, if_pos hless,
      all_f _ k (by omega) (sub (happ (fun x h => h) (fun x h => by rw [List.mem_singleton.1 h]; exact hmem))), Option.bind_some, if_neg (by rw [htw]; decide), filter_awake k (by omega), Option.bind_some]
theorem FilterOnce : tolllaw07_FilterOnce.Pure := fun l a _ ha => by
  have h8 : 0 ≤ a ∧ a ≤ 255 := by
    have h : IntKind.u8.min ≤ a ∧ a ≤ IntKind.u8.max := by simpa [Lit.wf] using ha
    exact h
  have hs := fewF_small l
  refine ⟨5001, ?_⟩
  unfold tolllaw07_FilterOnce.f
  rw [fewF_eq l _ (by omega), Option.bind_some]
  by_cases h0 : ((fewF l).length : Int) = 0
  · rw [if_pos h0]
    exact once_j0 _ a h8 hs.1 hs.2 true (fun h => by cases h) 5000 (by omega)
  · rw [if_neg h0, all_f _ _ (by omega) hs.2, Option.bind_some]
    refine once_j0 _ a h8 hs.1 hs.2 _ (fun h => ⟨fun e => h0 (by rw [e]; rfl), by simpa using h⟩) 5000 (by omega)
end Go.Proofs.YtfdopmjgiakcdaaDoor.Pure
