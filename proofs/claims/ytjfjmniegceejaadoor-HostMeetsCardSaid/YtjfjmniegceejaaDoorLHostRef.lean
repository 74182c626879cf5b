/- What the reference's names, and patterns, answer, as the plain functions. -/
import Derived.Test.YtjfjmniegceejaaDoorPx0
import Derived.Test.YtjfjmniegceejaaDoorPx3
import Derived.Test.YtjfjmniegceejaaDoorPx4
import Derived.Test.YtjfjmniegceejaaDoorPx5
import Derived.Test.YtjfjmniegceejaaDoorLHostOrd
namespace Go.Proofs.YtjfjmniegceejaaDoor.L
open Go Go.RowKit Go.Proofs.YtjfjmniegceejaaDoor.P Go.Proofs.YtjfjmniegceejaaDoorW.PrintWords Go.Proofs.YtjfjmniegceejaaDoorW.PrintLast

theorem bt_n {s : ByteArray} {i : Nat} (h : i < (os s).length) : bt s (i : Int) = (((os s)[i]'h).toNat : Int) := by
  rw [bt_os, List.getElem?_eq_getElem h]; rfl
/-! #### labels -/
noncomputable def okP (c i n : Nat) : Prop := (97 ≤ c ∧ c ≤ 122) ∨ (48 ≤ c ∧ c ≤ 57) ∨ (c = 45 ∧ i ≠ 0 ∧ i + 1 ≠ n)
instance (c i n : Nat) : Decidable (okP c i n) := by unfold okP; exact inferInstance
theorem label_step (s : ByteArray) (hs : (os s).length ≤ 1000) (i k : Nat) (hi : i < (os s).length) : tollref01_Label.l0 (k + 1) s (i : Int) = if okP ((os s)[i]'hi).toNat i (os s).length then tollref01_Label.l0 k s ((i + 1 : Nat) : Int) else some false := by
  have hz := size_os s
  rw [tollref01_Label.l0, if_pos (by omega), if_pos (by omega), bt_n hi, wrapN (by omega), wrap64_id (x := (s.size : Int) - 1) (by omega) (by omega)]
  generalize tollref01_Label.l0 k s ((i + 1 : Nat) : Int) = X
  generalize ((os s)[i]'hi).toNat = c
  by_cases hok : okP c i (os s).length
  · rw [if_pos hok]
    unfold okP at hok
    repeat' split
    all_goals first | rfl | (exfalso; omega)
  · rw [if_neg hok]
    unfold okP at hok
    repeat' split
    all_goals first | rfl | (exfalso; omega)
theorem label_loop (s : ByteArray) (hs : (os s).length ≤ 1000) : ∀ (n i k : Nat), (os s).length - i = n → i ≤ (os s).length → n + 1 ≤ k → ∃ b, tollref01_Label.l0 k s (i : Int) = some b ∧ (b = true ↔ (1 ≤ (os s).length ∧ (os s).length ≤ 20) ∧ ∀ j (hj : j < (os s).length), i ≤ j → okP ((os s)[j]'hj).toNat j (os s).length) := by
  have hz := size_os s
  intro n
  induction n with
  | zero =>
    intro i k h1 h2 h3
    obtain ⟨k, rfl⟩ : ∃ m, k = m + 1 := ⟨k - 1, by omega⟩
    obtain rfl : i = (os s).length := by omega
    rw [tollref01_Label.l0, if_neg (by omega)]
    by_cases c : 1 ≤ (os s).length
    · rw [if_pos (by omega)]
      exact ⟨_, rfl, by rw [decide_eq_true_iff]; exact ⟨fun h => ⟨⟨c, by omega⟩, fun j hj hij => by omega⟩, fun h => by omega⟩⟩
    · rw [if_neg (by omega)]
      exact ⟨_, rfl, ⟨fun h => (by cases h), fun h => absurd h.1.1 c⟩⟩
  | succ n ih =>
    intro i k h1 h2 h3
    obtain ⟨k, rfl⟩ : ∃ m, k = m + 1 := ⟨k - 1, by omega⟩
    have hi : i < (os s).length := by omega
    rw [label_step s hs i k hi]
    by_cases hok : okP ((os s)[i]'hi).toNat i (os s).length
    · rw [if_pos hok]
      obtain ⟨b, h4, h5⟩ := ih (i + 1) k (by omega) (by omega) (by omega)
      refine ⟨b, h4, h5.trans ⟨fun h => ⟨h.1, fun j hj hij => ?_⟩, fun h => ⟨h.1, fun j hj hij => h.2 j hj (by omega)⟩⟩⟩
      rcases Nat.lt_or_ge i j with c | c
      · exact h.2 j hj (by omega)
      · obtain rfl : j = i := by omega
        exact hok
    · rw [if_neg hok]
      exact ⟨false, rfl, ⟨fun h => (by cases h), fun h => absurd (h.2 i hi (Nat.le_refl _)) hok⟩⟩
theorem labL_iff (l : List UInt8) : labL l = true ↔ (1 ≤ l.length ∧ l.length ≤ 20) ∧ ∀ j (hj : j < l.length), okP (l[j]'hj).toNat j l.length := by
  unfold labL
  simp only [Bool.and_eq_true, decide_eq_true_eq, List.all_eq_true]
  have h45 : ∀ c : UInt8, c.toNat = 45 ↔ c = 45 := fun c => ⟨fun h => UInt8.toNat_inj.1 h, fun h => by rw [h]; rfl⟩
  constructor
  · rintro ⟨h1, h2, h3, h4, h5⟩
    have hl : 0 < l.length := by cases l with | nil => exact absurd rfl h1 | cons => simp
    refine ⟨⟨hl, h2⟩, fun j hj => ?_⟩
    have ho := h3 _ (List.getElem_mem hj)
    unfold octL at ho
    simp only [Bool.or_eq_true, Bool.and_eq_true, decide_eq_true_eq, beq_iff_eq] at ho
    unfold okP
    rcases ho with h | h | h
    · exact .inl h
    · exact .inr (.inl h)
    · refine .inr (.inr ⟨h, fun e => ?_, fun e => ?_⟩)
      · subst e
        rw [List.head?_eq_getElem?, List.getElem?_eq_getElem hj] at h4
        exact h4 (by rw [(h45 _).1 h])
      · rw [List.getLast?_eq_getElem?, show l.length - 1 = j by omega, List.getElem?_eq_getElem hj] at h5
        exact h5 (by rw [(h45 _).1 h])
  · rintro ⟨⟨h1, h2⟩, h3⟩
    refine ⟨fun e => by rw [e] at h1; exact absurd h1 (by decide), h2, fun c hc => ?_, fun e => ?_, fun e => ?_⟩
    · obtain ⟨j, hj, rfl⟩ := List.getElem_of_mem hc
      have := h3 j hj
      unfold okP at this
      unfold octL
      simp only [Bool.or_eq_true, Bool.and_eq_true, decide_eq_true_eq, beq_iff_eq]
      rcases this with h | h | h
      · exact .inl h
      · exact .inr (.inl h)
      · exact .inr (.inr h.1)
    · rw [List.head?_eq_getElem?, List.getElem?_eq_getElem (show 0 < l.length by omega)] at e
      have := h3 0 (by omega)
      rw [Option.some.inj e] at this
      unfold okP at this
      revert this; show (97 ≤ 45 ∧ 45 ≤ 122) ∨ (48 ≤ 45 ∧ 45 ≤ 57) ∨ (45 = 45 ∧ 0 ≠ 0 ∧ _) → False
      omega
    · rw [List.getLast?_eq_getElem?, List.getElem?_eq_getElem (show l.length - 1 < l.length by omega)] at e
      have := h3 (l.length - 1) (by omega)
      rw [Option.some.inj e] at this
      unfold okP at this
      revert this; show (97 ≤ 45 ∧ 45 ≤ 122) ∨ (48 ≤ 45 ∧ 45 ≤ 57) ∨ (45 = 45 ∧ _ ∧ l.length - 1 + 1 ≠ l.length) → False
      omega
theorem label_r (s : ByteArray) (hs : (os s).length ≤ 1000) (k : Nat) (hk : 1100 ≤ k) : tollref01_Label.f k s = some (labL (os s)) := by
  obtain ⟨b, h1, h2⟩ := label_loop s hs (os s).length 0 k (by omega) (by omega) (by omega)
  refine Eq.trans h1 ?_
  congr 1
  rw [Bool.eq_iff_iff, h2, labL_iff]
  exact ⟨fun h => ⟨h.1, fun j hj => h.2 j hj (by omega)⟩, fun h => ⟨h.1, fun j hj _ => h.2 j hj⟩⟩

/-! #### parts -/
theorem splitL_snoc (c x : UInt8) : ∀ p : List UInt8, splitL c (p ++ [x]) = if x = c then splitL c p ++ [[]] else (splitL c p).dropLast ++ [(splitL c p).getLastD [] ++ [x]]
  | [] => by
    have e : splitL c [x] = if x = c then [[], []] else [[x]] := rfl
    rw [List.nil_append, e]
    rfl
  | y :: r => by
    obtain ⟨a, t, e⟩ := splitL_cons (c := c) (l := r)
    have ih := splitL_snoc c x r
    rw [List.cons_append, splitL, splitL, ih, e]
    by_cases h : x = c
    · rw [if_pos h, if_pos h]
      by_cases hy : y = c
      · rw [if_pos hy, if_pos hy]; rfl
      · rw [if_neg hy, if_neg hy]; rfl
    · rw [if_neg h, if_neg h]
      by_cases hy : y = c
      · rw [if_pos hy, if_pos hy]
        cases t <;> rfl
      · rw [if_neg hy, if_neg hy]
        cases t <;> rfl
theorem set_last {α : Type} (l : List α) (h : l ≠ []) (v : α) : l.set (l.length - 1) v = l.dropLast ++ [v] := by
  have e : l.dropLast ++ [l.getLast h] = l := List.dropLast_concat_getLast h
  conv => lhs; rw [← e]
  have hl : (l.dropLast ++ [l.getLast h]).length - 1 = l.dropLast.length := by rw [List.length_append, List.length_singleton]; omega
  rw [hl, List.set_append_right _ _ (Nat.le_refl _), Nat.sub_self]; rfl
theorem split_loop (s : ByteArray) (c : UInt8) (hs : (os s).length ≤ 1000) : ∀ (n i k : Nat) (out : List ByteArray), (os s).length - i = n → i ≤ (os s).length → n + 1 ≤ k → out.map os = splitL c ((os s).take i) → (∀ x ∈ out, (os x).length ≤ i) → out.length ≤ i + 1 →
    ∃ L, tollref01_Split.l0 k s (c.toNat : Int) out (i : Int) = some L ∧ L.map os = splitL c (os s) ∧ (∀ x ∈ L, (os x).length ≤ 1000) ∧ L.length ≤ 1001 := by
  have hz := size_os s
  intro n
  induction n with
  | zero =>
    intro i k out h1 h2 h3 h4 h5 h6
    obtain ⟨k, rfl⟩ : ∃ m, k = m + 1 := ⟨k - 1, by omega⟩
    obtain rfl : i = (os s).length := by omega
    rw [List.take_length] at h4
    exact ⟨out, by rw [tollref01_Split.l0, if_neg (by omega)], h4, fun x hx => by have := h5 x hx; omega, by omega⟩
  | succ n ih =>
    intro i k out h1 h2 h3 h4 h5 h6
    obtain ⟨k, rfl⟩ : ∃ m, k = m + 1 := ⟨k - 1, by omega⟩
    have hi : i < (os s).length := by omega
    have hne : out ≠ [] := fun e => by rw [e] at h4; exact splitL_ne c _ h4.symm
    have hlen : 0 < out.length := by cases out with | nil => exact absurd rfl hne | cons => simp
    have et : (os s).take (i + 1) = (os s).take i ++ [(os s)[i]'hi] := by rw [List.take_append_getElem hi]
    rw [tollref01_Split.l0, if_pos (by omega), if_pos (by omega), bt_n hi, wrapN (by omega)]
    by_cases hc : (os s)[i]'hi = c
    · rw [if_pos (by rw [hc]), if_pos (by omega)]
      refine ih (i + 1) k _ (by omega) (by omega) (by omega) ?_ ?_ (by rw [List.length_append, List.length_singleton]; omega)
      · rw [et, splitL_snoc, if_pos hc, List.map_append, h4]; rfl
      · intro x hx
        rcases List.mem_append.1 hx with hx | hx
        · have := h5 x hx; omega
        · rw [List.mem_singleton.1 hx]; show 0 ≤ _; omega
    · have hcn : ¬ (((os s)[i]'hi).toNat : Int) = (c.toNat : Int) := fun h => hc (UInt8.toNat_inj.1 (by omega))
      have hw : wrap64 ((out.length : Int) - 1) = ((out.length - 1 : Nat) : Int) := by rw [wrap64_id (by omega) (by omega)]; omega
      have hlast : out.length - 1 < out.length := by omega
      have hx := h5 _ (List.getElem_mem hlast)
      have hxs := size_os (out[out.length - 1]'hlast)
      have he : os (s.extract (i : Int).toNat ((i + 1 : Nat) : Int).toNat) = [(os s)[i]'hi] := by
        rw [Int.toNat_natCast, Int.toNat_natCast, os_extract, List.drop_eq_getElem_cons hi, show i + 1 - i = 1 by omega]; rfl
      have hes := size_os (s.extract (i : Int).toNat ((i + 1 : Nat) : Int).toNat)
      rw [he] at hes
      rw [if_neg hcn, hw, if_pos (by omega), if_pos (by omega), if_pos (by omega), if_pos (by omega), rdB out _ hlast, if_pos (by rw [hes]; simp; omega), Int.toNat_natCast (out.length - 1)]
      refine ih (i + 1) k _ (by omega) (by omega) (by omega) ?_ ?_ (by rw [List.length_set]; omega)
      · rw [et, splitL_snoc, if_neg hc, ← h4, set_last out hne, List.map_append, List.map_dropLast]
        congr 1
        show [os (_ ++ _)] = _
        rw [os_append, he]
        congr 2
        rw [List.getLastD_eq_getLast?, List.getLast?_map, List.getLast?_eq_getElem?, List.getElem?_eq_getElem hlast]; rfl
      · intro x hx2
        rw [set_last out hne] at hx2
        rcases List.mem_append.1 hx2 with hx2 | hx2
        · have := h5 x (List.dropLast_subset _ hx2); omega
        · rw [List.mem_singleton.1 hx2, os_append, he, List.length_append, List.length_singleton]; omega
theorem split_r (s : ByteArray) (hs : (os s).length ≤ 1000) (k : Nat) (hk : 1100 ≤ k) : ∃ L, tollref01_Split.f k s 46 = some L ∧ L.map os = splitL 46 (os s) ∧ (∀ x ∈ L, (os x).length ≤ 1000) ∧ L.length ≤ 1001 :=
  split_loop s 46 hs (os s).length 0 k [⟨#[]⟩] (by omega) (by omega) (by omega) rfl (fun x hx => by rw [List.mem_singleton.1 hx]; show 0 ≤ 0; omega) (by show 1 ≤ 1; omega)
theorem name_loop (L : List ByteArray) (hL : ∀ x ∈ L, (os x).length ≤ 1000) (hn : L.length ≤ 1001) : ∀ (n i k : Nat), L.length - i = n → i ≤ L.length → n + 1101 ≤ k → tollref01_Name.l0 k L (i : Int) = some (((L.drop i).map os).all labL) := by
  intro n
  induction n with
  | zero =>
    intro i k h1 h2 h3
    obtain ⟨k, rfl⟩ : ∃ m, k = m + 1 := ⟨k - 1, by omega⟩
    rw [tollref01_Name.l0, if_neg (by omega), List.drop_eq_nil_of_le (by omega)]; rfl
  | succ n ih =>
    intro i k h1 h2 h3
    obtain ⟨k, rfl⟩ : ∃ m, k = m + 1 := ⟨k - 1, by omega⟩
    have hi : i < L.length := by omega
    rw [tollref01_Name.l0, if_pos (by omega), if_pos (by omega), rdB L i hi, label_r _ (hL _ (List.getElem_mem hi)) k (by omega), Option.bind_some, wrapN (by omega), ih (i + 1) k (by omega) (by omega) (by omega), List.drop_eq_getElem_cons hi, List.map_cons, List.all_cons]
    cases labL (os (L[i]'hi)) <;> rfl
theorem name_r (s : ByteArray) (hs : (os s).length ≤ 1000) (k : Nat) (hk : 2300 ≤ k) : tollref01_Name.f k s = some (nm (os s)) := by
  have hz := size_os s
  rw [nm_eq]
  unfold tollref01_Name.f nameL
  by_cases c : (os s).length ≤ 60
  · obtain ⟨L, h1, h2, h3, h4⟩ := split_r s hs k (by omega)
    have := name_loop L h3 h4 L.length 0 k (by omega) (by omega) (by omega)
    rw [List.drop_zero, h2] at this
    rw [if_neg (by omega), h1, Option.bind_some, decide_eq_true c, Bool.true_and]
    exact this
  · rw [if_pos (by omega), decide_eq_false c]; rfl

/-! #### names under names -/
theorem splitL_append (c : UInt8) : ∀ (u v : List UInt8), splitL c (u ++ c :: v) = splitL c u ++ splitL c v
  | [], v => by rw [List.nil_append]; show splitL c (c :: v) = [[]] ++ splitL c v; conv => lhs; rw [splitL, if_pos rfl]
                rfl
  | x :: r, v => by
    obtain ⟨a, t, e⟩ := splitL_cons (c := c) (l := r)
    rw [List.cons_append, splitL, splitL_append c r v, splitL, e]
    by_cases h : x = c
    · rw [if_pos h, if_pos h]; rfl
    · rw [if_neg h, if_neg h]; rfl
noncomputable def joinL (c : UInt8) : List (List UInt8) → List UInt8
  | [] => []
  | [x] => x
  | x :: y :: r => x ++ c :: joinL c (y :: r)
theorem join_split (c : UInt8) : ∀ l, joinL c (splitL c l) = l
  | [] => rfl
  | x :: r => by
    obtain ⟨a, t, e⟩ := splitL_cons (c := c) (l := r)
    have ih := join_split c r
    rw [splitL]
    rw [e] at ih ⊢
    by_cases h : x = c
    · rw [if_pos h, joinL, ih, h]; rfl
    · rw [if_neg h]
      cases t with
      | nil => rw [joinL] at ih; show joinL c [x :: a] = _; rw [joinL, ih]
      | cons b t => rw [joinL] at ih; show joinL c ((x :: a) :: b :: t) = _; rw [joinL, List.cons_append, ih]
theorem join_append (c : UInt8) : ∀ (P Q : List (List UInt8)), P ≠ [] → Q ≠ [] → joinL c (P ++ Q) = joinL c P ++ c :: joinL c Q
  | [], _, h, _ => absurd rfl h
  | [x], [], _, h => absurd rfl h
  | [x], q :: Q, _, _ => rfl
  | x :: y :: P, Q, _, h => by
    have := join_append c (y :: P) Q (by simp) h
    show joinL c (x :: y :: (P ++ Q)) = _
    rw [joinL, joinL, show y :: (P ++ Q) = (y :: P) ++ Q from rfl, this, List.append_assoc]; rfl
theorem under_split (h a : List UInt8) : (46 :: a) <:+ h ↔ splitL 46 a <:+ splitL 46 h ∧ (splitL 46 a).length < (splitL 46 h).length := by
  constructor
  · rintro ⟨u, rfl⟩
    rw [splitL_append]
    refine ⟨List.suffix_append _ _, ?_⟩
    rw [List.length_append]
    have : 0 < (splitL 46 u).length := by cases e : splitL 46 u with | nil => exact absurd e (splitL_ne 46 u) | cons => simp
    omega
  · rintro ⟨⟨P, hP⟩, hl⟩
    have hPn : P ≠ [] := fun e => by rw [e, List.nil_append] at hP; rw [hP] at hl; exact Nat.lt_irrefl _ hl
    refine ⟨joinL 46 P, ?_⟩
    have := join_append 46 P (splitL 46 a) hPn (splitL_ne 46 a)
    rw [hP, join_split, join_split] at this
    exact this.symm
theorem under_loop (A B : List ByteArray) (hA : A.length ≤ 1001) (hBA : B.length < A.length) : ∀ (n i k : Nat), B.length - i = n → i ≤ B.length → n + 1 ≤ k →
    ∃ b, tollref01_Under.l0 k A B (i : Int) = some b ∧ (b = true ↔ ∀ j, i ≤ j → j < B.length → (A.map os)[A.length - 1 - j]? = (B.map os)[B.length - 1 - j]?) := by
  intro n
  induction n with
  | zero =>
    intro i k h1 h2 h3
    obtain ⟨k, rfl⟩ : ∃ m, k = m + 1 := ⟨k - 1, by omega⟩
    rw [tollref01_Under.l0, if_neg (by omega)]
    exact ⟨true, rfl, fun _ j h4 h5 => by omega, fun _ => rfl⟩
  | succ n ih =>
    intro i k h1 h2 h3
    obtain ⟨k, rfl⟩ : ∃ m, k = m + 1 := ⟨k - 1, by omega⟩
    have wa : wrap64 (wrap64 ((A.length : Int) - 1) - (i : Int)) = ((A.length - 1 - i : Nat) : Int) := by rw [wrap64_id (x := (A.length : Int) - 1) (by omega) (by omega), wrap64_id (by omega) (by omega)]; omega
    have wb : wrap64 (wrap64 ((B.length : Int) - 1) - (i : Int)) = ((B.length - 1 - i : Nat) : Int) := by rw [wrap64_id (x := (B.length : Int) - 1) (by omega) (by omega), wrap64_id (by omega) (by omega)]; omega
    have ia : A.length - 1 - i < A.length := by omega
    have ib : B.length - 1 - i < B.length := by omega
    have e1 : (A.map os)[A.length - 1 - i]? = some (os (A[A.length - 1 - i]'ia)) := by rw [List.getElem?_map, List.getElem?_eq_getElem ia]; rfl
    have e2 : (B.map os)[B.length - 1 - i]? = some (os (B[B.length - 1 - i]'ib)) := by rw [List.getElem?_map, List.getElem?_eq_getElem ib]; rfl
    rw [tollref01_Under.l0, if_pos (by omega), wa, wb, if_pos (by omega), if_pos (by omega), if_pos (by omega), if_pos (by omega), rdB A _ ia, rdB B _ ib, toList_os, toList_os, wrapN (by omega)]
    by_cases c : os (A[A.length - 1 - i]'ia) = os (B[B.length - 1 - i]'ib)
    · rw [if_pos c]
      obtain ⟨b, h4, h5⟩ := ih (i + 1) k (by omega) (by omega) (by omega)
      refine ⟨b, h4, h5.trans ⟨fun h j hj1 hj2 => ?_, fun h j hj1 hj2 => h j (by omega) hj2⟩⟩
      rcases Nat.lt_or_ge i j with d | d
      · exact h j (by omega) hj2
      · obtain rfl : j = i := by omega
        rw [e1, e2, c]
    · rw [if_neg c]
      refine ⟨false, rfl, ⟨fun h => (by cases h), fun h => ?_⟩⟩
      have := h i (Nat.le_refl _) (by omega)
      rw [e1, e2] at this
      exact absurd (Option.some.inj this) c
theorem suffix_iff {α : Type} (P Q : List α) (h : Q.length ≤ P.length) : Q <:+ P ↔ ∀ j, j < Q.length → P[P.length - 1 - j]? = Q[Q.length - 1 - j]? := by
  rw [List.suffix_iff_eq_drop]
  constructor
  · intro e j hj
    rw [e, List.getElem?_drop]
    congr 1
    rw [← e]; omega
  · intro hh
    apply List.ext_getElem?
    intro i
    rw [List.getElem?_drop]
    rcases Nat.lt_or_ge i Q.length with c | c
    · have := hh (Q.length - 1 - i) (by omega)
      rw [show Q.length - 1 - (Q.length - 1 - i) = i by omega, show P.length - 1 - (Q.length - 1 - i) = P.length - Q.length + i by omega] at this
      exact this.symm
    · rw [List.getElem?_eq_none c, List.getElem?_eq_none (by omega)]
theorem under_r (h a : ByteArray) (hh : (os h).length ≤ 1000) (ha : (os a).length ≤ 1000) (k : Nat) (hk : 3000 ≤ k) : tollref01_Under.f k h a = some (under (os h) (os a)) := by
  obtain ⟨k, rfl⟩ : ∃ m, k = m + 1 := ⟨k - 1, by omega⟩
  unfold tollref01_Under.f under
  rw [name_r h hh _ (by omega), Option.bind_some]
  cases nm (os h) with
  | false => rw [if_neg (by decide), tollref01_Under.j0, if_pos rfl]; rfl
  | true =>
    rw [if_pos rfl, name_r a ha _ (by omega), Option.bind_some, tollref01_Under.j0]
    cases nm (os a) with
    | false => rfl
    | true =>
      obtain ⟨A, a1, a2, a3, a4⟩ := split_r h hh k (by omega)
      obtain ⟨B, b1, b2, b3, b4⟩ := split_r a ha k (by omega)
      have la : (splitL 46 (os h)).length = A.length := by rw [← a2, List.length_map]
      have lb : (splitL 46 (os a)).length = B.length := by rw [← b2, List.length_map]
      rw [if_neg (by decide), a1, Option.bind_some, b1, Option.bind_some]
      by_cases c : A.length ≤ B.length
      · rw [if_pos (by omega)]
        congr 1
        symm
        rw [Bool.true_and, Bool.true_and, Bool.eq_false_iff]
        intro hc
        have := ((under_split _ _).1 (List.isSuffixOf_iff_suffix.1 hc)).2
        omega
      · rw [if_neg (by omega)]
        obtain ⟨b, h1, h2⟩ := under_loop A B a4 (by omega) B.length 0 k (by omega) (by omega) (by omega)
        refine Eq.trans h1 ?_
        congr 1
        rw [Bool.eq_iff_iff, h2, Bool.true_and, Bool.true_and, List.isSuffixOf_iff_suffix, under_split, suffix_iff _ _ (by omega), la, lb, ← a2, ← b2]
        exact ⟨fun hx => ⟨fun j hj => hx j (by omega) hj, by omega⟩, fun hx j _ hj => hx.1 j hj⟩

/-! #### patterns -/
theorem wide_r (s : ByteArray) (hs : (os s).length ≤ 1000) : ∃ t, tollref02_wide.f s = some (t, wide (os s)) ∧ os t = tl (os s) := by
  have hz := size_os s
  have hw : wide (os s) = (decide (2 ≤ (os s).length) && ((os s)[0]?.getD 0 == 42 && (os s)[1]?.getD 0 == 46)) := by
    unfold wide star
    cases h : os s with
    | nil => rfl
    | cons a r =>
      cases r with
      | nil => simp [List.isPrefixOf]
      | cons b r =>
        simp only [List.isPrefixOf, Bool.and_true]
        show _ = (true && (a == 42 && b == 46))
        rw [Bool.true_and, BEq.comm (a := a), BEq.comm (a := b)]
  unfold tollref02_wide.f
  by_cases c : 2 ≤ (os s).length
  · have b0 : bt s 0 = (((os s)[0]'(by omega)).toNat : Int) := bt_n (i := 0) (by omega)
    have b1 : bt s 1 = (((os s)[1]'(by omega)).toNat : Int) := bt_n (i := 1) (by omega)
    rw [List.getElem?_eq_getElem (show 0 < (os s).length by omega), List.getElem?_eq_getElem (show 1 < (os s).length by omega), decide_eq_true c, Bool.true_and, Option.getD_some, Option.getD_some] at hw
    rw [if_pos (by omega), if_pos (by omega), b0]
    have e42 : ∀ x : UInt8, ((x.toNat : Int) = 42) ↔ x = 42 := fun x => ⟨fun h => UInt8.toNat_inj.1 (show x.toNat = 42 by omega), fun h => by rw [h]; rfl⟩
    have e46 : ∀ x : UInt8, ((x.toNat : Int) = 46) ↔ x = 46 := fun x => ⟨fun h => UInt8.toNat_inj.1 (show x.toNat = 46 by omega), fun h => by rw [h]; rfl⟩
    by_cases c0 : (os s)[0]'(by omega) = 42
    · rw [if_pos ((e42 _).2 c0), if_pos (by omega), b1]
      by_cases c1 : (os s)[1]'(by omega) = 46
      · rw [if_pos ((e46 _).2 c1), if_pos (by omega)]
        have hwt : wide (os s) = true := by rw [hw, c0, c1]; rfl
        refine ⟨_, by rw [hwt], ?_⟩
        unfold tl
        rw [hwt, if_pos rfl, os_extract, List.take_of_length_le (by rw [List.length_drop]; omega)]
      · rw [if_neg (fun h => c1 ((e46 _).1 h))]
        have hwt : wide (os s) = false := by rw [hw, beq_eq_false_iff_ne.2 c1, Bool.and_false]
        exact ⟨s, by rw [hwt], (tl_plain hwt).symm⟩
    · rw [if_neg (fun h => c0 ((e42 _).1 h))]
      have hwt : wide (os s) = false := by rw [hw, beq_eq_false_iff_ne.2 c0, Bool.false_and]
      exact ⟨s, by rw [hwt], (tl_plain hwt).symm⟩
  · rw [if_neg (by omega)]
    have hwt : wide (os s) = false := by rw [hw, decide_eq_false c]; rfl
    exact ⟨s, by rw [hwt], (tl_plain hwt).symm⟩
theorem tl_len {p : List UInt8} (h : p.length ≤ 1000) : (tl p).length ≤ 1000 := by
  unfold tl; split
  · rw [List.length_drop]; omega
  · exact h
theorem may_r (s : ByteArray) (hs : (os s).length ≤ 1000) (k : Nat) (hk : 2300 ≤ k) : tollref02_May.f k s = some (mayH (os s)) := by
  obtain ⟨t, h1, h2⟩ := wide_r s hs
  have hz := size_os s
  unfold tollref02_May.f mayH
  rw [h1, Option.bind_some, toList_os]
  by_cases c : os s = []
  · rw [if_pos c, decide_eq_true c]; rfl
  · rw [if_neg c, decide_eq_false c, Bool.false_or]
    by_cases c2 : (os s).length ≤ 60
    · rw [if_pos (by omega), decide_eq_true c2, name_r t (by rw [h2]; exact tl_len hs) k hk, Option.bind_some, h2]; rfl
    · rw [if_neg (by omega), decide_eq_false c2]; rfl
theorem holds_r (p h : ByteArray) (hp : (os p).length ≤ 1000) (hh : (os h).length ≤ 1000) (k : Nat) (hk : 3100 ≤ k) : tollref02_Holds.f k p h = some (holdsH (os p) (os h)) := by
  obtain ⟨t, h1, h2⟩ := wide_r p hp
  obtain ⟨k, rfl⟩ : ∃ m, k = m + 1 := ⟨k - 1, by omega⟩
  unfold tollref02_Holds.f holdsH
  rw [may_r p hp _ (by omega), Option.bind_some]
  cases mayH (os p) with
  | false => rw [if_neg (by decide), tollref02_Holds.j0, if_pos rfl]; rfl
  | true =>
    rw [if_pos rfl, name_r h hh _ (by omega), Option.bind_some, tollref02_Holds.j0]
    cases nm (os h) with
    | false => rfl
    | true =>
      rw [if_neg (by decide), h1, Option.bind_some, toList_os, toList_os]
      cases hw : wide (os p) with
      | true =>
        have hn : os p ≠ [] := fun e => by rw [e, wide_nil] at hw; cases hw
        rw [if_pos (by rfl), under_r h t hh (by rw [h2]; exact tl_len hp) k (by omega), Option.bind_some, h2, decide_eq_false hn]; rfl
      | false =>
        rw [if_neg (by simp)]
        by_cases c : os p = []
        · rw [if_pos c, decide_eq_true c]; rfl
        · rw [if_neg c, decide_eq_false c]; rfl
end Go.Proofs.YtjfjmniegceejaaDoor.L
