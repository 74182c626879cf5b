/- Which pattern comes first, as a plain function: by rows of numbers. -/
import Derived.Test.YtjfjmniegceejaaDoorPx0
import Derived.Test.YtjfjmniegceejaaDoorPx13
import Derived.Test.YtjfjmniegceejaaDoorPx14
import Derived.Test.YtjfjmniegceejaaDoorLHostOf
namespace Go.Proofs.YtjfjmniegceejaaDoor.L
open Go Go.RowKit Go.Proofs.YtjfjmniegceejaaDoor.P Go.Proofs.YtjfjmniegceejaaDoorW.PrintWords Go.Proofs.YtjfjmniegceejaaDoorW.PrintLast

noncomputable def lexI : List Int → List Int → Int
  | [], [] => 0
  | [], _ :: _ => -1
  | _ :: _, [] => 1
  | a :: x, b :: y => if a < b then -1 else if b < a then 1 else lexI x y
theorem lexI_anti : ∀ x y : List Int, lexI y x = -lexI x y
  | [], [] => rfl
  | [], _ :: _ => rfl
  | _ :: _, [] => rfl
  | a :: x, b :: y => by
    rw [lexI, lexI]
    by_cases h : a < b
    · rw [if_neg (by omega), if_pos h, if_pos h]; rfl
    · by_cases h2 : b < a
      · rw [if_pos h2, if_neg h, if_pos h2]
      · rw [if_neg h2, if_neg h, if_neg h, if_neg h2, lexI_anti x y]
theorem lexI_range : ∀ x y : List Int, lexI x y = -1 ∨ lexI x y = 0 ∨ lexI x y = 1
  | [], [] => .inr (.inl rfl)
  | [], _ :: _ => .inl rfl
  | _ :: _, [] => .inr (.inr rfl)
  | a :: x, b :: y => by
    rw [lexI]
    by_cases h : a < b
    · rw [if_pos h]; exact .inl rfl
    · rw [if_neg h]
      by_cases h2 : b < a
      · rw [if_pos h2]; exact .inr (.inr rfl)
      · rw [if_neg h2]; exact lexI_range x y
theorem lexI_refl : ∀ x : List Int, lexI x x = 0
  | [] => rfl
  | a :: x => by rw [lexI, if_neg (by omega), if_neg (by omega), lexI_refl x]
theorem lexI_zero : ∀ x y : List Int, lexI x y = 0 → x = y
  | [], [], _ => rfl
  | [], _ :: _, h => by cases h
  | _ :: _, [], h => by cases h
  | a :: x, b :: y, h => by
    rw [lexI] at h
    by_cases h1 : a < b
    · rw [if_pos h1] at h; cases h
    · rw [if_neg h1] at h
      by_cases h2 : b < a
      · rw [if_pos h2] at h; cases h
      · rw [if_neg h2] at h
        rw [lexI_zero x y h, show a = b by omega]
theorem lexI_lt : ∀ x y z : List Int, lexI x y < 0 → lexI y z < 0 → lexI x z < 0
  | [], [], _, h, _ => absurd h (by decide)
  | _ :: _, [], _, h, _ => absurd h (by show ¬ (1 : Int) < 0; decide)
  | _, _ :: _, [], _, h => absurd h (by show ¬ (1 : Int) < 0; decide)
  | [], _ :: _, _ :: _, _, _ => by show (-1 : Int) < 0; decide
  | a :: x, b :: y, c :: z, h1, h2 => by
    rw [lexI] at h1 h2 ⊢
    by_cases p : a < b
    · by_cases q : b < c
      · rw [if_pos (by omega)]; decide
      · rw [if_neg q] at h2
        by_cases q2 : c < b
        · rw [if_pos q2] at h2; exact absurd h2 (by decide)
        · rw [if_pos (by omega)]; decide
    · rw [if_neg p] at h1
      by_cases p2 : b < a
      · rw [if_pos p2] at h1; exact absurd h1 (by decide)
      · rw [if_neg p2] at h1
        by_cases q : b < c
        · rw [if_pos (by omega)]; decide
        · rw [if_neg q] at h2
          by_cases q2 : c < b
          · rw [if_pos q2] at h2; exact absurd h2 (by decide)
          · rw [if_neg q2] at h2
            rw [if_neg (by omega), if_neg (by omega)]
            exact lexI_lt x y z h1 h2
theorem lexI_le {x y z : List Int} (h1 : lexI x y ≤ 0) (h2 : lexI y z ≤ 0) : lexI x z ≤ 0 := by
  rcases lexI_range x y with e | e | e
  · rcases lexI_range y z with e' | e' | e'
    · have := lexI_lt x y z (by omega) (by omega); omega
    · rw [← lexI_zero _ _ e']; omega
    · omega
  · rw [lexI_zero _ _ e]; exact h2
  · omega
theorem lexI_lt_le {x y z : List Int} (h1 : lexI x y < 0) (h2 : lexI y z ≤ 0) : lexI x z < 0 := by
  rcases lexI_range y z with e' | e' | e'
  · exact lexI_lt x y z h1 (by omega)
  · rw [← lexI_zero _ _ e']; exact h1
  · omega
noncomputable def nums (l : List UInt8) : List Int := l.map fun c => (c.toNat : Int)
theorem nums_inj {a b : List UInt8} (h : nums a = nums b) : a = b := by
  unfold nums at h
  refine List.map_inj_right (f := fun c : UInt8 => (c.toNat : Int)) (fun x y h => UInt8.toNat_inj.1 (by omega)) |>.1 h
theorem compare_lex : ∀ a b : List UInt8, Go.Lib.compareBytes a b = lexI (nums a) (nums b)
  | [], [] => rfl
  | [], _ :: _ => rfl
  | _ :: _, [] => rfl
  | a :: x, b :: y => by
    rw [Go.Lib.compareBytes, show nums (a :: x) = (a.toNat : Int) :: nums x from rfl, show nums (b :: y) = (b.toNat : Int) :: nums y from rfl, lexI, compare_lex x y]
    have e1 : a < b ↔ (a.toNat : Int) < (b.toNat : Int) := by rw [UInt8.lt_iff_toNat_lt]; omega
    have e2 : b < a ↔ (b.toNat : Int) < (a.toNat : Int) := by rw [UInt8.lt_iff_toNat_lt]; omega
    by_cases h : a < b
    · rw [if_pos h, if_pos (e1.1 h)]
    · rw [if_neg h, if_neg (fun h2 => h (e1.2 h2))]
      by_cases h2 : b < a
      · rw [if_pos h2, if_pos (e2.1 h2)]
      · rw [if_neg h2, if_neg (fun h3 => h2 (e2.2 h3))]
/-- A pattern's rank. -/
noncomputable def rk (p : List UInt8) : Int × Int := if p = [] then (2, 0) else if wide p = true then (1, -(p.length : Int)) else (0, 0)
noncomputable def keyH (p : List UInt8) : List Int := (rk p).1 :: (rk p).2 :: nums p
theorem keyH_inj {a b : List UInt8} (h : keyH a = keyH b) : a = b := nums_inj (List.cons.inj (List.cons.inj h).2).2
noncomputable def sgnH (a b : Int) : Int := if a < b then -1 else if b < a then 1 else 0
theorem cmp_h (a b : Int) : cmp_Compare_int.f a b = some (sgnH a b) := by
  unfold cmp_Compare_int.f cmp_isNaN_int.f sgnH
  rw [Option.bind_some, Option.bind_some, show (a != a) = false by simp, show (b != b) = false by simp, if_neg (by decide), if_neg (by decide)]
  split
  · rfl
  · by_cases h : a > b
    · rw [if_pos h, if_pos (by omega)]
    · rw [if_neg h, if_neg (by omega)]
theorem or_h (x y : Int) (k : Nat) (hk : 3 ≤ k) : cmp_Or_int.f k [x, y] = some (if x = 0 then y else x) := by
  obtain ⟨k, rfl⟩ : ∃ m, k = m + 3 := ⟨k - 3, by omega⟩
  have r0 : rd [x, y] 0 = x := rfl
  have r1 : rd [x, y] 1 = y := rfl
  have w0 : wrap64 ((0 : Int) + 1) = 1 := by unfold wrap64; omega
  have w1 : wrap64 ((1 : Int) + 1) = 2 := by unfold wrap64; omega
  unfold cmp_Or_int.f
  rw [show (([x, y] : List Int).length : Int) = 2 from rfl, cmp_Or_int.l0, if_pos (by decide), if_pos (by decide), if_pos (by show (0 : Int) < 2; decide), r0, w0]
  by_cases h : x = 0
  · rw [if_pos h, if_pos h, cmp_Or_int.l0, if_pos (by decide), if_pos (by decide), if_pos (by show (1 : Int) < 2; decide), r1, w1]
    by_cases h2 : y = 0
    · rw [if_pos h2, cmp_Or_int.l0, if_neg (by decide), h2]
    · rw [if_neg h2]
  · rw [if_neg h, if_neg h]
theorem ranked_h (s : ByteArray) (hs : (os s).length ≤ 1000) : host_ranked.f s = some (rk (os s)) := by
  have hz := size_os s
  unfold host_ranked.f rk
  rw [toList_os]
  by_cases c : os s = []
  · rw [if_pos c, if_pos c]
  · rw [if_neg c, if_neg c]
    have h : strings_HasPrefix.f s ⟨#[42, 46]⟩ = some (wide (os s)) := by
      have := hasPrefix0 s ⟨#[42, 46]⟩
      unfold strings_HasPrefix.f
      rw [this, Option.bind_some]; rfl
    rw [h, Option.bind_some, wrap64_id (by omega) (by omega), hz]
    cases wide (os s) <;> rfl
theorem order_h (a b : ByteArray) (ha : (os a).length ≤ 1000) (hb : (os b).length ≤ 1000) (k : Nat) (hk : 3 ≤ k) : host_Order.f k a b = some (lexI (keyH (os a)) (keyH (os b))) := by
  unfold host_Order.f keyH
  rw [ranked_h a ha, Option.bind_some, ranked_h b hb, Option.bind_some, lexI, lexI]
  by_cases c : rk (os a) = rk (os b)
  · rw [if_pos (by rw [c]; simp), c, if_neg (by omega), if_neg (by omega), if_neg (by omega), if_neg (by omega), show strings_Compare.f a b = some (Go.Lib.compareBytes (os a) (os b)) from rfl, Option.bind_some, compare_lex]
  · rw [if_neg (by intro h; simp only [Bool.and_eq_true, beq_iff_eq] at h; exact c (Prod.ext h.1 h.2)), cmp_h, Option.bind_some, cmp_h, Option.bind_some, or_h _ _ _ hk, Option.bind_some]
    congr 1
    unfold sgnH
    by_cases h1 : (rk (os a)).1 < (rk (os b)).1
    · rw [if_pos h1, if_pos h1, if_neg (by decide)]
    · rw [if_neg h1, if_neg h1]
      by_cases h2 : (rk (os b)).1 < (rk (os a)).1
      · rw [if_pos h2, if_pos h2, if_neg (by decide)]
      · rw [if_neg h2, if_neg h2, if_pos rfl]
        by_cases h3 : (rk (os a)).2 < (rk (os b)).2
        · rw [if_pos h3, if_pos h3]
        · rw [if_neg h3, if_neg h3]
          by_cases h4 : (rk (os b)).2 < (rk (os a)).2
          · rw [if_pos h4, if_pos h4]
          · exact absurd (Prod.ext (by omega) (by omega)) c
/-- What is below another one comes ahead of it. -/
theorem below_first {a b : List UInt8} (h : below a b = true) (hn : a ≠ b) : lexI (keyH a) (keyH b) < 0 := by
  unfold keyH
  rw [lexI]
  rcases below_iff.1 h with e | e | ⟨e1, e2, e3⟩
  · have ha : a ≠ [] := fun h => hn (by rw [h, e])
    have h2 : (rk b).1 = 2 := by unfold rk; rw [if_pos e]
    have h1 : (rk a).1 < 2 := by
      unfold rk; rw [if_neg ha]; split
      · show (1 : Int) < 2; decide
      · show (0 : Int) < 2; decide
    rw [h2, if_pos h1]; decide
  · exact absurd e hn
  · have hb : b ≠ [] := fun h => by rw [h, wide_nil] at e2; cases e2
    have h2 : rk b = (1, -(b.length : Int)) := by unfold rk; rw [if_neg hb, if_pos e2]
    rw [h2]
    cases hw : wide a with
    | false =>
      have h1 : (rk a).1 = 0 := by unfold rk; rw [if_neg e1, hw]; rfl
      rw [h1, if_pos (show (0 : Int) < 1 by decide)]; decide
    | true =>
      have h1 : rk a = (1, -(a.length : Int)) := by unfold rk; rw [if_neg e1, if_pos hw]
      have hl := under_len e3
      have la : a.length = 2 + (tl a).length := by have := congrArg List.length (wide_eq hw); rw [List.length_append] at this; exact this
      have lb : b.length = 2 + (tl b).length := by have := congrArg List.length (wide_eq e2); rw [List.length_append] at this; exact this
      rw [h1, if_neg (by omega), if_neg (by omega), lexI, if_pos (by show -(a.length : Int) < -(b.length : Int); omega)]; decide
end Go.Proofs.YtjfjmniegceejaaDoor.L
