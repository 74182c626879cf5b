/- What a name is, as a plain function on lists of octets. -/
import Derived.Test.YtjfjmniegceejaaDoorPx0
import Derived.Test.YtjfjmniegceejaaDoorPx2
import Derived.Test.YtjfjmniegceejaaDoorPx3
import Derived.Test.YtjfjmniegceejaaDoorLHost
namespace Go.Proofs.YtjfjmniegceejaaDoor.L
open Go Go.RowKit Go.Proofs.YtjfjmniegceejaaDoor.P Go.Proofs.YtjfjmniegceejaaDoorW.PrintWords Go.Proofs.YtjfjmniegceejaaDoorW.PrintLast

/-- A list's parts between an octet. -/
noncomputable def splitL (c : UInt8) : List UInt8 → List (List UInt8)
  | [] => [[]]
  | x :: r => if x = c then [] :: splitL c r else (x :: (splitL c r).headD []) :: (splitL c r).tail
theorem splitL_ne (c : UInt8) : ∀ l, splitL c l ≠ []
  | [] => by rw [splitL]; simp
  | x :: r => by rw [splitL]; split <;> simp
theorem splitL_cons {c : UInt8} {l : List UInt8} : ∃ h t, splitL c l = h :: t := by
  cases h : splitL c l with
  | nil => exact absurd h (splitL_ne c l)
  | cons a b => exact ⟨a, b, rfl⟩
theorem splitL_free {c : UInt8} : ∀ {u : List UInt8}, c ∉ u → splitL c u = [u]
  | [], _ => rfl
  | x :: r, h => by
    have hx : x ≠ c := fun e => h (by rw [e]; simp)
    rw [splitL, if_neg hx, splitL_free (u := r) (fun hm => h (List.mem_cons_of_mem _ hm))]; rfl
theorem splitL_at {c : UInt8} : ∀ {u : List UInt8} (v : List UInt8), c ∉ u → splitL c (u ++ c :: v) = u :: splitL c v
  | [], v, _ => by rw [List.nil_append, splitL, if_pos rfl]
  | x :: r, v, h => by
    have hx : x ≠ c := fun e => h (by rw [e]; simp)
    rw [List.cons_append, splitL, if_neg hx, splitL_at v (fun hm => h (List.mem_cons_of_mem _ hm))]; rfl
theorem get_bang (s : ByteArray) (i : Nat) (h : i < (os s).length) : s[i]! = (os s)[i]'h := by
  have hs := size_os s
  rw [getElem!_pos s i (by omega)]
  rfl
theorem firstIdx_two (s : ByteArray) (c : UInt8) : (firstIdx s c = -1 ∧ c ∉ os s) ∨ ∃ i : Nat, firstIdx s c = (i : Int) ∧ ∃ h : i < (os s).length, c ∉ (os s).take i ∧ (os s)[i] = c := by
  have hs := size_os s
  unfold firstIdx
  cases hf : (List.range s.size).find? (fun i => s[i]! == c) with
  | none =>
    left
    refine ⟨rfl, fun hm => ?_⟩
    obtain ⟨i, hi, hc⟩ := List.getElem_of_mem hm
    have := List.find?_eq_none.1 hf i (List.mem_range.2 (by omega))
    rw [get_bang s i hi, hc] at this
    simp at this
  | some i =>
    right
    have hi := List.mem_range.1 (List.mem_of_find?_eq_some hf)
    have hil : i < (os s).length := by omega
    refine ⟨i, rfl, hil, fun hm => ?_, ?_⟩
    · obtain ⟨j, hj, hc⟩ := List.getElem_of_mem hm
      rw [List.length_take] at hj
      rw [List.getElem_take] at hc
      have h1 := (List.find?_eq_some_iff_getElem.1 hf).2
      obtain ⟨k, hk, hki, hlt⟩ := h1
      rw [List.length_range] at hk
      rw [List.getElem_range] at hki
      subst hki
      have := hlt j (by omega)
      rw [List.getElem_range, get_bang s j (by omega), hc] at this
      simp at this
    · have := List.find?_some hf
      rw [get_bang s i hil] at this
      exact eq_of_beq this
theorem pieces_p (c : UInt8) : ∀ (n : Nat) (s : ByteArray), (os s).length ≤ n → (pieces c s).map os = splitL c (os s) := by
  intro n
  induction n with
  | zero =>
    intro s h
    rcases firstIdx_two s c with ⟨h1, h2⟩ | ⟨i, _, h2, _⟩
    · unfold pieces
      rw [cuts_neg (by rw [h1]; decide), splitL_free h2]; rfl
    · omega
  | succ n ih =>
    intro s h
    have hs := size_os s
    rcases firstIdx_two s c with ⟨h1, h2⟩ | ⟨i, h1, h2, h3, h4⟩
    · unfold pieces
      rw [cuts_neg (by rw [h1]; decide), splitL_free h2]; rfl
    · have e := cuts_cons (fun t => firstIdx t c) 1 (Nat.le_refl _) (fun t h => firstIdx_fit c t h) (s := s) (i := i) h1
      have e2 : os s = (os s).take i ++ c :: (os s).drop (i + 1) := by
        conv => lhs; rw [← List.take_append_drop i (os s), List.drop_eq_getElem_cons h2, h4]
      have e3 : os (s.extract (i + 1) s.size) = (os s).drop (i + 1) := by rw [os_extract, List.take_of_length_le (by rw [List.length_drop]; omega)]
      have e4 : os (s.extract 0 i) = (os s).take i := by rw [os_extract, List.drop_zero, Nat.sub_zero]
      have := ih (s.extract (i + 1) s.size) (by rw [e3, List.length_drop]; omega)
      unfold pieces at this ⊢
      rw [e, List.map_cons, this, e3, e4]
      conv => rhs; rw [e2]
      rw [splitL_at _ h3]
/-- Is a list a label? -/
noncomputable def octL (c : UInt8) : Bool := (decide (97 ≤ c.toNat) && decide (c.toNat ≤ 122)) || ((decide (48 ≤ c.toNat) && decide (c.toNat ≤ 57)) || c.toNat == 45)
noncomputable def labL (l : List UInt8) : Bool := decide (l ≠ []) && (decide (l.length ≤ 20) && (l.all octL && (decide (l.head? ≠ some 45) && decide (l.getLast? ≠ some 45))))
theorem lab_p (s : ByteArray) : labB s = labL (os s) := by
  have hs := size_os s
  have h0 : dns_Label.f s = some (labL (os s)) := by
    unfold dns_Label.f labL strings_IndexFunc_with_dns_Label_1.f
    rw [Option.bind_some, toList_os]
    have hi := idxRune_neg strings_IndexFunc_with_dns_Label_1.p (fun r hr => by
      unfold strings_IndexFunc_with_dns_Label_1.p octB
      rw [decide_eq_false (show ¬ r ≤ 122 by omega), decide_eq_false (show ¬ r ≤ 57 by omega), beq_eq_false_iff_ne.2 (show r ≠ 45 by omega)]
      simp) s
    have hall : (s.data.toList.all fun c => !strings_IndexFunc_with_dns_Label_1.p c.toNat) = (os s).all octL := by
      congr 1
      funext c
      unfold strings_IndexFunc_with_dns_Label_1.p octB octL
      rw [Bool.not_not]
    rw [hall] at hi
    by_cases c1 : os s = []
    · rw [if_pos c1, c1]; rfl
    · rw [if_neg c1, decide_eq_true (show os s ≠ [] from c1), Bool.true_and]
      have hl : 0 < (os s).length := by cases h : os s with | nil => exact absurd h c1 | cons => simp
      by_cases c2 : (os s).length ≤ 20
      · rw [if_pos (by omega), decide_eq_true c2, Bool.true_and, wrap64_id (by omega) (by omega)]
        by_cases c3 : idxRune strings_IndexFunc_with_dns_Label_1.p s < 0
        · rw [if_pos c3, if_pos (by omega)]
          rw [decide_eq_true c3] at hi
          rw [← hi, Bool.true_and]
          have b0 : bt s 0 = (((os s)[0]'hl).toNat : Int) := by
            have := bt_os s 0
            rw [List.getElem?_eq_getElem hl] at this
            exact this
          have b1 : bt s ((s.size : Int) - 1) = (((os s)[(os s).length - 1]'(by omega)).toNat : Int) := by
            have := bt_os s ((os s).length - 1)
            rw [List.getElem?_eq_getElem (show (os s).length - 1 < (os s).length by omega)] at this
            rw [show (s.size : Int) - 1 = (((os s).length - 1 : Nat) : Int) by omega]
            exact this
          have g0 : (os s).head? = some ((os s)[0]'hl) := by rw [List.head?_eq_getElem?, List.getElem?_eq_getElem hl]
          have g1 : (os s).getLast? = some ((os s)[(os s).length - 1]'(by omega)) := by rw [List.getLast?_eq_getElem?, List.getElem?_eq_getElem (by omega)]
          have hb : ∀ c : UInt8, ((c.toNat : Int) = 45) ↔ c = 45 := fun c => ⟨fun h => by
            apply UInt8.toNat_inj.1
            show c.toNat = 45
            omega, fun h => by rw [h]; rfl⟩
          rw [b0, g0]
          by_cases c4 : (os s)[0]'hl = 45
          · rw [if_pos ((hb _).2 c4), c4, decide_eq_false (show ¬ some (45 : UInt8) ≠ some 45 by decide)]; rfl
          · rw [if_neg (fun h => c4 ((hb _).1 h)), if_pos (by omega), if_pos (by omega), b1, g1, decide_eq_true (show some ((os s)[0]'hl) ≠ some 45 from fun h => c4 (Option.some.inj h)), Bool.true_and]
            congr 1
            rw [Bool.eq_iff_iff, bne_iff_ne, decide_eq_true_iff]
            exact ⟨fun h h2 => h ((hb _).2 (Option.some.inj h2)), fun h h2 => h (by rw [(hb _).1 h2])⟩
        · rw [if_neg c3]
          rw [decide_eq_false c3] at hi
          rw [← hi]; rfl
      · rw [if_neg (by omega), decide_eq_false c2]; rfl
  unfold labB
  rw [h0]
  cases labL (os s) <;> rfl
/-- Is a list a name? -/
noncomputable def nameL (l : List UInt8) : Bool := decide (l.length ≤ 60) && (splitL 46 l).all labL
theorem nm_eq (l : List UInt8) : nm l = nameL l := by
  unfold nm nameL
  have := pieces_p 46 l.length ⟨l.toArray⟩ (Nat.le_refl _)
  rw [show os (⟨l.toArray⟩ : ByteArray) = l from rfl] at this
  rw [← this, List.all_map]
  congr 1
  congr 1
  funext s
  exact lab_p s
end Go.Proofs.YtjfjmniegceejaaDoor.L
