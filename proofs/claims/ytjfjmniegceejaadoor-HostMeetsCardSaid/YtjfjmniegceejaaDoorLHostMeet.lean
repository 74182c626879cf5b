/- What the reference's patterns meet in, and the host of a text, as the plain functions. -/
import Derived.Test.YtjfjmniegceejaaDoorPx0
import Derived.Test.YtjfjmniegceejaaDoorPx12
import Derived.Test.YtjfjmniegceejaaDoorPx13
import Derived.Test.YtjfjmniegceejaaDoorPx4
import Derived.Test.YtjfjmniegceejaaDoorPx6
import Derived.Test.YtjfjmniegceejaaDoorLHostRef2
namespace Go.Proofs.YtjfjmniegceejaaDoor.L
open Go Go.RowKit Go.Proofs.YtjfjmniegceejaaDoor.P Go.Proofs.YtjfjmniegceejaaDoorW.PrintWords Go.Proofs.YtjfjmniegceejaaDoorW.PrintLast
theorem meet_r (a b : ByteArray) (ha : (os a).length ≤ 1000) (hb : (os b).length ≤ 1000) (k : Nat) (hk : 4000 ≤ k) : ∃ t, tollref02_Meet.f k a b = some (t, (meetO (os a) (os b)).isSome) ∧ os t = (meetO (os a) (os b)).getD [] := by
  obtain ⟨k, rfl⟩ : ∃ m, k = m + 3 := ⟨k - 3, by omega⟩
  obtain ⟨x, x1, x2⟩ := wide_r a ha
  obtain ⟨y, y1, y2⟩ := wide_r b hb
  have hx : (os x).length ≤ 1000 := by rw [x2]; exact tl_len ha
  have hy : (os y).length ≤ 1000 := by rw [y2]; exact tl_len hb
  unfold tollref02_Meet.f
  rw [may_r a ha _ (by omega), may_r b hb _ (by omega), Option.bind_some, Option.bind_some]
  cases ma : mayH (os a) with
  | false =>
    have e : meetO (os a) (os b) = none := by unfold meetO; rw [ma]; rfl
    rw [if_neg (by decide), tollref02_Meet.j0, if_pos rfl, e]; exact ⟨_, rfl, rfl⟩
  | true =>
    rw [if_pos rfl, tollref02_Meet.j0]
    cases mb : mayH (os b) with
    | false =>
      have e : meetO (os a) (os b) = none := by unfold meetO; rw [ma, mb]; rfl
      rw [if_pos (by rfl), e]; exact ⟨_, rfl, rfl⟩
    | true =>
      rw [if_neg (by decide), toList_os, toList_os]
      have yes : ∀ {z : List UInt8}, (z = os a ∨ z = os b) → below z (os a) = true → below z (os b) = true → meetO (os a) (os b) = some z := fun {z} h1 h2 h3 => meetO_iff.2 ⟨ma, mb, h1, h2, h3⟩
      by_cases c1 : os a = []
      · rw [if_pos c1, yes (.inr rfl) (below_iff.2 (.inl c1)) (below_refl _)]
        exact ⟨b, rfl, rfl⟩
      · rw [if_neg c1]
        by_cases c2 : os b = []
        · rw [if_pos c2, tollref02_Meet.j1, if_pos rfl, yes (.inl rfl) (below_refl _) (below_iff.2 (.inl c2))]
          exact ⟨a, rfl, rfl⟩
        · rw [if_neg c2, tollref02_Meet.j1]
          by_cases c3 : os a = os b
          · rw [if_pos (beq_iff_eq.2 c3), yes (.inl rfl) (below_refl _) (below_iff.2 (.inr (.inl c3)))]
            exact ⟨a, rfl, rfl⟩
          · rw [if_neg (fun h => c3 (eq_of_beq h)), x1, Option.bind_some, y1, Option.bind_some]
            have fin : ∀ q : Bool, q = (wide (os b) && under (tl (os a)) (tl (os b))) → ∃ t, tollref02_Meet.j2 (k + 1) a b x (wide (os a)) y q = some (t, (meetO (os a) (os b)).isSome) ∧ os t = (meetO (os a) (os b)).getD [] := fun q hq => by
              rw [tollref02_Meet.j2]
              cases q with
              | true =>
                have h2 := hq.symm
                rw [Bool.and_eq_true] at h2
                rw [if_pos rfl, yes (.inl rfl) (below_refl _) (below_iff.2 (.inr (.inr ⟨c1, h2.1, h2.2⟩)))]
                exact ⟨a, rfl, rfl⟩
              | false =>
                have hab : ¬ below (os a) (os b) = true := fun h => by
                  rcases below_iff.1 h with e | e | ⟨_, e1, e2⟩
                  · exact c2 e
                  · exact c3 e
                  · rw [e1, e2] at hq; cases hq
                rw [if_neg (by decide)]
                cases wa : wide (os a) with
                | true =>
                  rw [if_pos rfl, under_r y x hy hx _ (by omega), Option.bind_some, x2, y2]
                  cases hu : under (tl (os b)) (tl (os a)) with
                  | true =>
                    rw [if_pos rfl, yes (.inr rfl) (below_iff.2 (.inr (.inr ⟨c2, wa, hu⟩))) (below_refl _)]
                    exact ⟨b, rfl, rfl⟩
                  | false =>
                    have e : meetO (os a) (os b) = none := by
                      unfold meetO
                      rw [ma, mb, if_pos (by rfl), if_neg hab, if_neg]
                      intro h
                      rcases below_iff.1 h with e | e | ⟨_, _, e2⟩
                      · exact c1 e
                      · exact c3 e.symm
                      · rw [hu] at e2; cases e2
                    rw [if_neg (by decide), e]; exact ⟨_, rfl, rfl⟩
                | false =>
                  have e : meetO (os a) (os b) = none := by
                    unfold meetO
                    rw [ma, mb, if_pos (by rfl), if_neg hab, if_neg]
                    intro h
                    rcases below_iff.1 h with e | e | ⟨_, e1, _⟩
                    · exact c1 e
                    · exact c3 e.symm
                    · rw [wa] at e1; cases e1
                  rw [if_neg (by decide), e]; exact ⟨_, rfl, rfl⟩
            cases wb : wide (os b) with
            | true => rw [if_pos rfl, under_r x y hx hy _ (by omega), Option.bind_some, x2, y2]; exact fin _ (by rw [wb, Bool.true_and])
            | false => rw [if_neg (by simp)]; exact fin _ (by rw [wb, Bool.false_and])
theorem nums1 (c : Int) : os (strOfNums [c]) = [UInt8.ofNat c.toNat] := rfl
theorem foldR_loop (s : ByteArray) (hs : (os s).length ≤ 1000) : ∀ (n i k : Nat) (acc : ByteArray), (os s).length - i ≤ n → i ≤ (os s).length → (os acc).length ≤ 1000 + i → n + 1 ≤ k → ∃ t, tollref01_Fold.l0 k s acc (i : Int) = some t ∧ os t = os acc ++ ((os s).drop i).map dns_Fold.b := by
  have hsz := size_os s
  intro n
  induction n with
  | zero =>
    intro i k acc h1 h2 h3 h4
    obtain ⟨k, rfl⟩ : ∃ m, k = m + 1 := ⟨k - 1, by omega⟩
    rw [tollref01_Fold.l0, if_neg (by omega)]
    refine ⟨_, rfl, ?_⟩
    rw [List.drop_eq_nil_of_le (by omega)]; simp
  | succ n ih =>
    intro i k acc h1 h2 h3 h4
    obtain ⟨k, rfl⟩ : ∃ m, k = m + 1 := ⟨k - 1, by omega⟩
    by_cases hi : i < (os s).length
    · have hacc := size_os acc
      have hb : bt s (i : Int) = (((os s)[i]'hi).toNat : Int) := by rw [bt_os, List.getElem?_eq_getElem hi]; rfl
      have hlt := ((os s)[i]'hi).toNat_lt
      have step : ∀ c : Int, UInt8.ofNat c.toNat = dns_Fold.b ((os s)[i]'hi) → ∃ t, ((some (([c] : List Int) : List Int)).bind fun y => (if acc.size + (strOfNums y).size ≤ 9223372036854775807 then (tollref01_Fold.l0 k s (acc ++ (strOfNums y)) (wrap64 ((i : Int) + 1))) else (none))) = some t ∧ os t = os acc ++ ((os s).drop i).map dns_Fold.b := by
        intro c hc
        rw [Option.bind_some, if_pos (by rw [strOfNums_size]; simp; omega), wrap64_id (by omega) (by omega), show (i : Int) + 1 = ((i + 1 : Nat) : Int) by omega]
        obtain ⟨t, e, ht⟩ := ih (i + 1) k (acc ++ strOfNums [c]) (by omega) (by omega) (by rw [os_append, nums1, List.length_append, List.length_singleton]; omega) (by omega)
        refine ⟨t, e, ?_⟩
        rw [ht, os_append, nums1, List.drop_eq_getElem_cons hi, List.map_cons, hc, List.append_assoc]
        rfl
      rw [tollref01_Fold.l0, if_pos (by omega), if_pos (by omega)]
      rw [hb]
      by_cases c1 : (65 : Int) ≤ (((os s)[i]'hi).toNat : Int)
      · rw [if_pos c1]
        by_cases c2 : (((os s)[i]'hi).toNat : Int) ≤ 90
        · rw [if_pos c2]
          refine step _ ?_
          unfold dns_Fold.b
          rw [if_pos (by omega)]
          congr 1
          omega
        · rw [if_neg c2]
          refine step _ ?_
          unfold dns_Fold.b
          rw [if_neg (by omega), Int.toNat_natCast, UInt8.ofNat_toNat]
      · rw [if_neg c1]
        refine step _ ?_
        unfold dns_Fold.b
        rw [if_neg (by omega), Int.toNat_natCast, UInt8.ofNat_toNat]
    · rw [tollref01_Fold.l0, if_neg (by omega)]
      refine ⟨_, rfl, ?_⟩
      rw [List.drop_eq_nil_of_le (by omega)]; simp
theorem fold_r (s : ByteArray) (hs : (os s).length ≤ 1000) (k : Nat) (hk : 1100 ≤ k) : ∃ t, tollref01_Fold.f k s = some t ∧ os t = (os s).map dns_Fold.b := by
  obtain ⟨t, h1, h2⟩ := foldR_loop s hs (os s).length 0 k ⟨#[]⟩ (by omega) (by omega) (by show 0 ≤ 1000 + 0; omega) (by omega)
  exact ⟨t, h1, by rw [h2, List.drop_zero]; rfl⟩
/-! #### the host of a text -/
noncomputable def dig (c : UInt8) : Prop := 48 ≤ c.toNat ∧ c.toNat ≤ 57
instance (c : UInt8) : Decidable (dig c) := by unfold dig; exact inferInstance
theorem dig_all : ∀ n : Fin 256, digits.contains (UInt8.ofNat n) = (decide (48 ≤ (n : Nat)) && decide ((n : Nat) ≤ 57)) := by decide +kernel
theorem dig_eq (c : UInt8) : digits.contains c = decide (dig c) := by
  have := dig_all ⟨c.toNat, c.toNat_lt⟩
  rw [show UInt8.ofNat ((⟨c.toNat, c.toNat_lt⟩ : Fin 256) : Nat) = c from UInt8.ofNat_toNat] at this
  rw [this]
  unfold dig
  by_cases h1 : 48 ≤ c.toNat <;> by_cases h2 : c.toNat ≤ 57 <;> simp [h1, h2]
theorem dropWhile_nil {α : Type} (p : α → Bool) : ∀ l : List α, l.dropWhile p = [] ↔ ∀ x ∈ l, p x = true
  | [] => by simp
  | a :: r => by
    rw [List.dropWhile_cons]
    cases h : p a with
    | true => rw [if_pos rfl, dropWhile_nil p r]; simp [h]
    | false => rw [if_neg (by decide)]; simp [h]
theorem trim_nil (l : List UInt8) : Go.Lib.trimS l digits = [] ↔ ∀ c ∈ l, dig c := by
  unfold Go.Lib.trimS Go.Lib.trimLeftS Go.Lib.trimRightS
  rw [dropWhile_nil]
  constructor
  · intro h
    have h2 : l.reverse.dropWhile (digits.contains ·) = [] := by
      cases he : l.reverse.dropWhile (digits.contains ·) with
      | nil => rfl
      | cons a r =>
        have h3 := List.head?_dropWhile_not (digits.contains ·) l.reverse
        rw [he] at h3
        simp only [List.head?_cons] at h3
        have h4 := h a (by rw [he]; simp)
        rw [h4] at h3
        cases h3
    rw [dropWhile_nil] at h2
    intro c hc
    have := h2 c (List.mem_reverse.2 hc)
    rw [dig_eq] at this
    exact of_decide_eq_true this
  · intro h c hc
    have : c ∈ l := List.mem_reverse.1 ((List.dropWhile_suffix _).subset (List.mem_reverse.1 hc))
    rw [dig_eq]
    exact decide_eq_true (h c this)
theorem port_iff (l : List UInt8) : portL l = true ↔ 1 ≤ l.length ∧ l.length ≤ 5 ∧ ∀ c ∈ l, dig c := by
  unfold portL
  rw [Bool.and_eq_true, Bool.and_eq_true, decide_eq_true_eq, decide_eq_true_eq, beq_iff_eq, trim_nil]
/-- A colon, and n digits to the end. -/
noncomputable def PortAt (f : List UInt8) (n : Nat) : Prop := n + 1 ≤ f.length ∧ f[f.length - n - 1]? = some 58 ∧ ∀ c ∈ f.drop (f.length - n), dig c
theorem lastN_at {f : List UInt8} {i : Nat} (h1 : f[i]? = some 58) : ∀ n, i < n → n ≤ f.length → (∀ j, i < j → j < n → f[j]? ≠ some 58) → lastN 58 f n = (i : Int)
  | 0, h, _, _ => by omega
  | n + 1, h, hn, h2 => by
    have h58 : ∀ c : UInt8, ((c.toNat : Int) = 58) ↔ c = 58 := fun c => ⟨fun h => UInt8.toNat_inj.1 (show c.toNat = 58 by omega), fun h => by rw [h]; rfl⟩
    have hx : f[n]? = some (f[n]'(by omega)) := List.getElem?_eq_getElem (by omega)
    rw [lastN, hx, Option.getD_some]
    by_cases c : i = n
    · subst c
      rw [hx] at h1
      rw [if_pos ((h58 _).2 (Option.some.inj h1))]
    · rw [if_neg (fun h3 => h2 n (by omega) (by omega) (by rw [hx, (h58 _).1 h3])), lastN_at h1 n (by omega) (by omega) (fun j hj1 hj2 => h2 j hj1 (by omega))]
theorem lastN_is {f : List UInt8} : ∀ n, n ≤ f.length → 0 ≤ lastN 58 f n → f[(lastN 58 f n).toNat]? = some 58
  | 0, _, h => by rw [lastN] at h; omega
  | n + 1, hn, h => by
    have hx : f[n]? = some (f[n]'(by omega)) := List.getElem?_eq_getElem (by omega)
    rw [lastN, hx, Option.getD_some] at h ⊢
    by_cases c : ((f[n]'(by omega)).toNat : Int) = 58
    · rw [if_pos c, Int.toNat_natCast, hx]
      congr 1
      exact UInt8.toNat_inj.1 (show (f[n]'(by omega)).toNat = 58 by omega)
    · rw [if_neg c] at h ⊢
      exact lastN_is n (by omega) h
theorem noPort_yes {f : List UInt8} {n : Nat} (h1 : 1 ≤ n) (h5 : n ≤ 5) (h : PortAt f n) : noPort f = f.take (f.length - n - 1) := by
  obtain ⟨ha, hb, hc⟩ := h
  have hl : lastN 58 f f.length = ((f.length - n - 1 : Nat) : Int) := lastN_at hb f.length (by omega) (Nat.le_refl _) (fun j hj1 hj2 e => by
    have : (58 : UInt8) ∈ f.drop (f.length - n) := by
      refine List.mem_iff_getElem?.2 ⟨j - (f.length - n), ?_⟩
      rw [List.getElem?_drop, show f.length - n + (j - (f.length - n)) = j by omega]; exact e
    have := hc _ this
    unfold dig at this
    revert this; decide)
  unfold noPort
  rw [hl, Int.toNat_natCast, if_pos]
  rw [Bool.and_eq_true, decide_eq_true_eq, port_iff]
  refine ⟨by omega, by rw [List.length_drop]; omega, by rw [List.length_drop]; omega, ?_⟩
  rw [show f.length - n - 1 + 1 = f.length - n by omega]
  exact hc
theorem noPort_no {f : List UInt8} (h : ∀ n, 1 ≤ n → n ≤ 5 → ¬ PortAt f n) : noPort f = f := by
  have hb := lastN_bound 58 f f.length
  unfold noPort
  rw [if_neg]
  rw [Bool.and_eq_true, decide_eq_true_eq, port_iff]
  rintro ⟨h1, h2, h3, h4⟩
  rw [List.length_drop] at h2 h3
  refine h (f.length - ((lastN 58 f f.length).toNat + 1)) h2 h3 ⟨by omega, ?_, ?_⟩
  · rw [show f.length - (f.length - ((lastN 58 f f.length).toNat + 1)) - 1 = (lastN 58 f f.length).toNat by omega]
    exact lastN_is f.length (Nat.le_refl _) h1
  · rw [show f.length - (f.length - ((lastN 58 f f.length).toNat + 1)) = (lastN 58 f f.length).toNat + 1 by omega]
    exact h4
theorem of_j3 (x : ByteArray) (hx : (os x).length ≤ 100) (k : Nat) (hk : 2400 ≤ k) : ∃ t, tollref02_Of.j3 k x = some (t, nm (noDot (os x))) ∧ os t = if nm (noDot (os x)) = true then noDot (os x) else [] := by
  obtain ⟨k, rfl⟩ : ∃ m, k = m + 2 := ⟨k - 2, by omega⟩
  have hz := size_os x
  have fin : ∀ (y : ByteArray), os y = noDot (os x) → (os y).length ≤ 100 → ∃ t, ((tollref01_Name.f k y).bind fun t => if t = true then some (y, true) else some ((⟨#[]⟩ : ByteArray), false)) = some (t, nm (noDot (os x))) ∧ os t = if nm (noDot (os x)) = true then noDot (os x) else [] := fun y hy hl => by
    rw [name_r y (by omega) k (by omega), Option.bind_some, hy]
    cases nm (noDot (os x)) with
    | true => exact ⟨y, rfl, hy⟩
    | false => exact ⟨_, rfl, rfl⟩
  have hnd : ∀ l : List UInt8, [46].isSuffixOf l = (l.getLast? == some 46) := fun l => by
    rw [Bool.eq_iff_iff, List.isSuffixOf_iff_suffix, beq_iff_eq]
    constructor
    · rintro ⟨r, rfl⟩; rw [List.getLast?_append]; rfl
    · intro h
      obtain ⟨ys, rfl⟩ := List.getLast?_eq_some_iff.1 h
      exact List.suffix_append _ _
  rw [tollref02_Of.j3, toList_os]
  by_cases c : os x = []
  · rw [if_pos c, tollref02_Of.j4, if_neg (by decide)]
    exact fin x (by rw [c]; rfl) hx
  · have hl : 0 < (os x).length := by cases h : os x with | nil => exact absurd h c | cons => simp
    have hb : bt x ((x.size : Int) - 1) = (((os x)[(os x).length - 1]'(by omega)).toNat : Int) := by
      rw [show (x.size : Int) - 1 = (((os x).length - 1 : Nat) : Int) by omega]
      exact bt_n (by omega)
    have hg : (os x).getLast? = some ((os x)[(os x).length - 1]'(by omega)) := by rw [List.getLast?_eq_getElem?, List.getElem?_eq_getElem (by omega)]
    have h46 : ∀ c : UInt8, ((c.toNat : Int) == 46) = (c == 46) := fun c => by
      rw [Bool.eq_iff_iff, beq_iff_eq, beq_iff_eq]
      exact ⟨fun h => UInt8.toNat_inj.1 (show c.toNat = 46 by omega), fun h => by rw [h]; rfl⟩
    rw [if_neg c, wrap64_id (by omega) (by omega), if_pos (by omega), if_pos (by omega), hb, h46, tollref02_Of.j4]
    cases hd : ((os x)[(os x).length - 1]'(by omega) == 46) with
    | true =>
      have e : noDot (os x) = (os x).take ((os x).length - 1) := by
        unfold noDot
        rw [hnd, hg, eq_of_beq hd]; rfl
      rw [if_pos rfl, wrap64_id (by omega) (by omega), if_pos (by omega), if_pos (by omega)]
      refine fin _ ?_ (by rw [os_extract, List.length_take, List.length_drop]; omega)
      rw [e, os_extract, List.drop_zero, Nat.sub_zero]
      congr 1; omega
    | false =>
      have e : noDot (os x) = os x := by
        unfold noDot
        rw [hnd, hg, if_neg]
        intro h
        rw [Option.some.inj (eq_of_beq h)] at hd
        cases hd
      rw [if_neg (by decide)]
      exact fin x e.symm hx
theorem of_l1 (F : ByteArray) (hF : (os F).length ≤ 100) (x4 : Int) (i : Nat) (hi : i < (os F).length) : ∀ (c j k : Nat) (b : Bool), (os F).length - j = c → j ≤ (os F).length →
    tollref02_Of.l1 (c + 1 + k) F x4 (i : Int) b (j : Int) = if b = true ∧ ∀ d ∈ (os F).drop j, dig d then tollref02_Of.j3 k (F.extract 0 i) else tollref02_Of.l0 k F (wrap64 (x4 + 1)) := by
  have hz := size_os F
  intro c
  induction c with
  | zero =>
    intro j k b h1 h2
    obtain rfl : j = (os F).length := by omega
    rw [show 0 + 1 + k = k + 1 by omega, tollref02_Of.l1, if_neg (by omega), List.drop_length]
    cases b with
    | true => rw [if_pos rfl, if_pos (by omega), if_pos (by omega), if_pos ⟨rfl, fun d hd => (by cases hd)⟩, Int.toNat_natCast]
    | false => rw [if_neg (by decide), if_neg (fun h => by cases h.1)]
  | succ c ih =>
    intro j k b h1 h2
    have hj : j < (os F).length := by omega
    have hd : (os F).drop j = (os F)[j]'hj :: (os F).drop (j + 1) := List.drop_eq_getElem_cons hj
    have st := fun b => ih (j + 1) k b (by omega) (by omega)
    rw [show c + 1 + 1 + k = (c + 1 + k) + 1 by omega, tollref02_Of.l1, if_pos (by omega), wrapN (by omega), st, st, hd]
    cases b with
    | false =>
      rw [if_neg (by decide), if_neg (fun h => by cases h.1), if_neg (fun h => by cases h.1)]
    | true =>
      rw [if_pos rfl, if_pos (by omega), bt_n hj]
      by_cases c1 : 48 ≤ ((os F)[j]'hj).toNat
      · rw [if_pos (by omega)]
        by_cases c2 : ((os F)[j]'hj).toNat ≤ 57
        · rw [decide_eq_true (by omega)]
          by_cases c3 : ∀ d ∈ (os F).drop (j + 1), dig d
          · rw [if_pos ⟨rfl, c3⟩, if_pos ⟨rfl, fun d h => by
              rcases List.mem_cons.1 h with rfl | h
              · exact ⟨c1, c2⟩
              · exact c3 d h⟩]
          · rw [if_neg (fun h => c3 h.2), if_neg (fun h => c3 (fun d hd => h.2 d (List.mem_cons_of_mem _ hd)))]
        · rw [decide_eq_false (by omega), if_neg (fun h => by cases h.1), if_neg (fun h => c2 (h.2 _ (List.mem_cons_self ..)).2)]
      · rw [if_neg (by omega), if_neg (fun h => by cases h.1), if_neg (fun h => c1 (h.2 _ (List.mem_cons_self ..)).1)]
theorem of_l0 (F : ByteArray) (hF : (os F).length ≤ 100) : ∀ (c n k : Nat), 6 - n = c → 1 ≤ n → n ≤ 6 → c * 110 + 2500 ≤ k → (∀ m, 1 ≤ m → m < n → ¬ PortAt (os F) m) → ∃ x k', tollref02_Of.l0 k F (n : Int) = tollref02_Of.j3 k' x ∧ os x = noPort (os F) ∧ 2400 ≤ k' := by
  have hz := size_os F
  intro c
  induction c with
  | zero =>
    intro n k h1 h2 h3 h4 h5
    obtain ⟨k, rfl⟩ : ∃ m, k = m + 1 := ⟨k - 1, by omega⟩
    obtain rfl : n = 6 := by omega
    rw [tollref02_Of.l0, if_neg (by omega)]
    exact ⟨F, k, rfl, (noPort_no fun m hm1 hm2 => h5 m hm1 (by omega)).symm, by omega⟩
  | succ c ih =>
    intro n k h1 h2 h3 h4 h5
    rw [Nat.succ_mul] at h4
    have go : ∀ k, c * 110 + 2500 ≤ k → ¬ PortAt (os F) n → ∃ x k', tollref02_Of.l0 k F ((n + 1 : Nat) : Int) = tollref02_Of.j3 k' x ∧ os x = noPort (os F) ∧ 2400 ≤ k' := fun k hk hn => ih (n + 1) k (by omega) (by omega) (by omega) hk (fun m hm1 hm2 => by
      rcases Nat.lt_or_ge m n with d | d
      · exact h5 m hm1 d
      · obtain rfl : m = n := by omega
        exact hn)
    have h58 : ∀ c : UInt8, ((c.toNat : Int) != 58) = (c != 58) := fun c => by
      rw [Bool.eq_iff_iff, bne_iff_ne, bne_iff_ne]
      exact ⟨fun h e => h (by rw [e]; rfl), fun h e => h (UInt8.toNat_inj.1 (show c.toNat = 58 by omega))⟩
    rw [show k = (k - 2) + 2 by omega, tollref02_Of.l0, if_pos (by omega), wrap64_id (x := (F.size : Int) - (n : Int)) (by omega) (by omega), wrap64_id (by omega) (by omega)]
    by_cases c1 : n + 1 ≤ (os F).length
    · have hi : (os F).length - n - 1 < (os F).length := by omega
      rw [if_neg (by omega), if_pos (by omega), if_pos (by omega), show (F.size : Int) - (n : Int) - 1 = (((os F).length - n - 1 : Nat) : Int) by omega, bt_n hi, h58, tollref02_Of.j1]
      by_cases c2 : (os F)[(os F).length - n - 1]'hi = 58
      · rw [c2, if_neg (by decide), wrapN (by omega)]
        have e := of_l1 F hF (n : Int) ((os F).length - n - 1) hi n ((os F).length - n - 1 + 1) (k - 2 - (n + 1)) true (by omega) (by omega)
        rw [show k - 2 = n + 1 + (k - 2 - (n + 1)) by omega, e, show (os F).length - n - 1 + 1 = (os F).length - n by omega]
        by_cases c3 : ∀ d ∈ (os F).drop ((os F).length - n), dig d
        · rw [if_pos ⟨rfl, c3⟩]
          refine ⟨_, _, rfl, ?_, by omega⟩
          rw [noPort_yes h2 (by omega) ⟨c1, by rw [List.getElem?_eq_getElem hi, c2], c3⟩, os_extract, List.drop_zero, Nat.sub_zero]
        · rw [if_neg (fun h => c3 h.2), wrapN (by omega)]
          exact go _ (by omega) (fun h => c3 h.2.2)
      · rw [if_pos (bne_iff_ne.2 c2), wrapN (by omega)]
        exact go _ (by omega) (fun h => c2 (by have := h.2.1; rw [List.getElem?_eq_getElem hi] at this; exact Option.some.inj this))
    · rw [if_pos (by omega), tollref02_Of.j1, if_pos rfl, wrapN (by omega)]
      exact go _ (by omega) (fun h => c1 h.1)
theorem of_r (s : ByteArray) (hs : (os s).length ≤ 100) (k : Nat) (hk : 4000 ≤ k) : ∃ t, tollref02_Of.f k s = some (t, decide ((ofH (os s)).2 = 0)) ∧ os t = (ofH (os s)).1 := by
  obtain ⟨F, h1, h2⟩ := fold_r s (by omega) k (by omega)
  have hF : (os F).length ≤ 100 := by rw [h2, List.length_map]; exact hs
  obtain ⟨x, k', e1, e2, e3⟩ := of_l0 F hF 5 1 k (by omega) (by omega) (by omega) (by omega) (fun m _ _ => by omega)
  have hx : (os x).length ≤ 100 := by
    rw [e2]; unfold noPort; split
    · rw [List.length_take]; omega
    · exact hF
  obtain ⟨t, t1, t2⟩ := of_j3 x hx k' e3
  unfold tollref02_Of.f
  rw [h1, Option.bind_some]
  refine ⟨t, ?_, ?_⟩
  · refine (show tollref02_Of.l0 k F ((1 : Nat) : Int) = _ from e1).trans (t1.trans ?_)
    rw [e2, h2]
    unfold ofH
    split
    · next h => rw [h]; rfl
    · next h => rw [Bool.eq_false_iff.2 h]; rfl
  · rw [t2, e2, h2]
    unfold ofH
    split <;> rfl
end Go.Proofs.YtjfjmniegceejaaDoor.L
