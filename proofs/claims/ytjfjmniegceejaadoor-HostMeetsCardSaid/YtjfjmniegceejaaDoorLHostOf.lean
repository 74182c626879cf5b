/- A host as it is asked for, which pattern comes first, and the chapter's examples, as plain functions. -/
import Derived.Test.YtjfjmniegceejaaDoorPx0
import Derived.Test.YtjfjmniegceejaaDoorPx4
import Derived.Test.YtjfjmniegceejaaDoorPx5
import Derived.Test.YtjfjmniegceejaaDoorPx6
import Derived.Test.YtjfjmniegceejaaDoorPx7
import Derived.Test.YtjfjmniegceejaaDoorLName
namespace Go.Proofs.YtjfjmniegceejaaDoor.L
open Go Go.RowKit Go.Proofs.YtjfjmniegceejaaDoor.P Go.Proofs.YtjfjmniegceejaaDoorW.PrintWords Go.Proofs.YtjfjmniegceejaaDoorW.PrintLast

noncomputable def nb (s : ByteArray) : List UInt8 := (os s).map dns_Fold.b
theorem fold_p (s : ByteArray) (h : (os s).length ≤ 1000) : dns_Fold.f s = some ⟨(nb s).toArray⟩ := by
  unfold dns_Fold.f
  have hs := size_os s
  rw [if_pos (by omega)]; rfl
/-- The last place of an octet ahead of n, or -1. -/
noncomputable def lastN (c : Int) (l : List UInt8) : Nat → Int
  | 0 => -1
  | n + 1 => if ((l[n]?.getD 0).toNat : Int) = c then (n : Int) else lastN c l n
theorem lastN_bound (c : Int) (l : List UInt8) : ∀ n, -1 ≤ lastN c l n ∧ lastN c l n < n
  | 0 => by rw [lastN]; omega
  | n + 1 => by
    have := lastN_bound c l n
    rw [lastN]; split <;> omega
theorem last_loop (s : ByteArray) (c : Int) (hs : (os s).length ≤ 1000) : ∀ (n k : Nat), n ≤ (os s).length → n + 1 ≤ k → bytealg_LastIndexByteString.l0 k s c ((n : Int) - 1) = some (lastN c (os s) n) := by
  have hz := size_os s
  intro n
  induction n with
  | zero =>
    intro k h1 h2
    obtain ⟨k, rfl⟩ : ∃ m, k = m + 1 := ⟨k - 1, by omega⟩
    rw [bytealg_LastIndexByteString.l0, if_neg (by omega), lastN]
  | succ n ih =>
    intro k h1 h2
    obtain ⟨k, rfl⟩ : ∃ m, k = m + 1 := ⟨k - 1, by omega⟩
    rw [bytealg_LastIndexByteString.l0, if_pos (by omega), if_pos (by omega), if_pos (by omega), show ((n + 1 : Nat) : Int) - 1 = (n : Int) by omega, bt_os, lastN, wrap64_id (by omega) (by omega), ih k (by omega) (by omega)]
    split <;> rfl
theorem last_p (s : ByteArray) (c : Int) (hs : (os s).length ≤ 1000) (k : Nat) (hk : 1002 ≤ k) : strings_LastIndexByte.f k s c = some (lastN c (os s) (os s).length) := by
  have hz := size_os s
  unfold strings_LastIndexByte.f bytealg_LastIndexByteString.f
  rw [wrap64_id (by omega) (by omega), hz, last_loop s c hs _ k (Nat.le_refl _) (by omega), Option.bind_some]
noncomputable def digits : List UInt8 := [48, 49, 50, 51, 52, 53, 54, 55, 56, 57]
/-- Is a list a port's number? -/
noncomputable def portL (l : List UInt8) : Bool := decide (1 ≤ l.length) && (decide (l.length ≤ 5) && (Go.Lib.trimS l digits == []))
theorem port_p (s : ByteArray) (hs : (os s).length ≤ 1000) : host_port.f s = some (portL (os s)) := by
  have hz := size_os s
  have ht : strings_Trim.f s ⟨#[48, 49, 50, 51, 52, 53, 54, 55, 56, 57]⟩ = some ⟨(Go.Lib.trimS (os s) digits).toArray⟩ := by
    unfold strings_Trim.f
    rw [if_pos (by omega), if_pos (by decide), if_pos (by decide)]; rfl
  unfold host_port.f portL
  by_cases c1 : 1 ≤ (os s).length
  · rw [if_pos (by omega), decide_eq_true c1]
    by_cases c2 : (os s).length ≤ 5
    · rw [if_pos (by omega), decide_eq_true c2, ht, Option.bind_some, toList_os]; rfl
    · rw [if_neg (by omega), decide_eq_false c2]; rfl
  · rw [if_neg (by omega), decide_eq_false c1]; rfl
theorem suffix_p (s p : ByteArray) (hl : s.size ≤ 9223372036854775807) : stringslite_HasSuffix.f s p = some ((os p).isSuffixOf (os s)) := by
  have h := hasSuffix s p hl
  unfold strings_HasSuffix.f at h
  cases hh : stringslite_HasSuffix.f s p with
  | none => rw [hh] at h; cases h
  | some b => rw [hh, Option.bind_some] at h; exact h
theorem trimSuffix_p (s p : ByteArray) (hs : (os s).length ≤ 1000) : ∃ t, strings_TrimSuffix.f s p = some t ∧ os t = if (os p).isSuffixOf (os s) = true then (os s).take ((os s).length - (os p).length) else os s := by
  have hz := size_os s
  have hz2 := size_os p
  unfold strings_TrimSuffix.f stringslite_TrimSuffix.f
  rw [suffix_p s p (by omega), Option.bind_some]
  cases hp : (os p).isSuffixOf (os s) with
  | true =>
    have := (List.isSuffixOf_iff_suffix.1 hp).length_le
    have hw : wrap64 ((s.size : Int) - (p.size : Int)) = ((s.size - p.size : Nat) : Int) := by rw [wrap64_id (by omega) (by omega)]; omega
    rw [if_pos rfl, if_pos rfl, hw, if_pos (by omega), if_pos (by omega), Option.bind_some, Int.toNat_natCast]
    exact ⟨_, rfl, by rw [os_extract, List.drop_zero, Nat.sub_zero, hz, hz2]⟩
  | false =>
    rw [if_neg (by decide), if_neg (by decide), Option.bind_some]
    exact ⟨_, rfl, rfl⟩
/-- What is behind the last colon, struck, if it is a port. -/
noncomputable def noPort (f : List UInt8) : List UInt8 := if (decide (0 ≤ lastN 58 f f.length) && portL (f.drop ((lastN 58 f f.length).toNat + 1))) = true then f.take (lastN 58 f f.length).toNat else f
noncomputable def noDot (g : List UInt8) : List UInt8 := if [46].isSuffixOf g = true then g.take (g.length - 1) else g
noncomputable def ofH (l : List UInt8) : List UInt8 × Int := if nm (noDot (noPort (l.map dns_Fold.b))) = true then (noDot (noPort (l.map dns_Fold.b)), 0) else ([], 2)
theorem of_j1 (x : ByteArray) (hx : (os x).length ≤ 1000) (k : Nat) : ∃ t, host_Of.j1 (k + 1) x = some (t, if nm (noDot (os x)) = true then 0 else 2) ∧ os t = if nm (noDot (os x)) = true then noDot (os x) else [] := by
  obtain ⟨t, h1, h2⟩ := trimSuffix_p x ⟨#[46]⟩ hx
  have h3 : os t = noDot (os x) := h2
  rw [host_Of.j1, h1, Option.bind_some, name_p, Option.bind_some, h3]
  cases nm (noDot (os x)) with
  | true => exact ⟨_, rfl, h3⟩
  | false => exact ⟨_, rfl, rfl⟩
theorem of_h (s : ByteArray) (hs : (os s).length ≤ 100) (k : Nat) (hk : 1010 ≤ k) : ∃ t, host_Of.f k s = some (t, (ofH (os s)).2) ∧ os t = (ofH (os s)).1 := by
  obtain ⟨k, rfl⟩ : ∃ m, k = m + 2 := ⟨k - 2, by omega⟩
  obtain ⟨F, hF⟩ : ∃ F : ByteArray, F = ⟨(nb s).toArray⟩ := ⟨_, rfl⟩
  have hF1 : os F = (os s).map dns_Fold.b := by rw [hF]; rfl
  have hF2 : (os F).length ≤ 100 := by rw [hF1, List.length_map]; exact hs
  have hz := size_os F
  have hb := lastN_bound 58 (os F) (os F).length
  have fin : ∀ x : ByteArray, (os x).length ≤ 1000 → os x = noPort (os F) → ∃ t, host_Of.j1 (k + 1) x = some (t, (ofH (os s)).2) ∧ os t = (ofH (os s)).1 := fun x hx e => by
    obtain ⟨t, h1, h2⟩ := of_j1 x hx k
    refine ⟨t, ?_, ?_⟩
    · rw [h1, e, hF1]; unfold ofH; split <;> rfl
    · rw [h2, e, hF1]; unfold ofH; split <;> rfl
  unfold host_Of.f
  rw [fold_p s (by omega), ← hF, Option.bind_some, last_p F 58 (by omega) _ (by omega), Option.bind_some]
  by_cases c : 0 ≤ lastN 58 (os F) (os F).length
  · have e1 : os (F.extract (wrap64 (lastN 58 (os F) (os F).length + 1)).toNat F.size) = (os F).drop ((lastN 58 (os F) (os F).length).toNat + 1) := by
      rw [wrap64_id (by omega) (by omega), os_extract, List.take_of_length_le (by rw [List.length_drop]; omega)]
      congr 1; omega
    rw [if_pos c, if_pos (by rw [wrap64_id (by omega) (by omega)]; omega), if_pos (by rw [wrap64_id (by omega) (by omega)]; omega), port_p _ (by rw [e1, List.length_drop]; omega), e1, Option.bind_some, host_Of.j0]
    cases hp : portL ((os F).drop ((lastN 58 (os F) (os F).length).toNat + 1)) with
    | true =>
      rw [if_pos rfl, if_pos c, if_pos (by omega)]
      refine fin _ (by rw [os_extract, List.length_take]; omega) ?_
      unfold noPort
      rw [decide_eq_true c, hp, if_pos (show (true && true) = true from rfl), os_extract, List.drop_zero, Nat.sub_zero]
    | false =>
      rw [if_neg (by decide)]
      refine fin F (by omega) ?_
      unfold noPort
      rw [hp, Bool.and_false, if_neg (by decide)]
  · rw [if_neg c, host_Of.j0, if_neg (by decide)]
    refine fin F (by omega) ?_
    unfold noPort
    rw [decide_eq_false c, Bool.false_and, if_neg (by decide)]
theorem host_awake (k : Nat) (hk : 1100 ≤ k) : tolllaw02_awake.f k = some true := by
  obtain ⟨t1, a1, b1, _⟩ := meet_h ⟨#[42, 46, 97, 46, 98]⟩ ⟨#[42, 46, 98]⟩ (by decide) (by decide) k (by omega)
  obtain ⟨t2, a2, b2, _⟩ := meet_h ⟨#[120, 46, 97, 46, 98]⟩ ⟨#[42, 46, 98]⟩ (by decide) (by decide) k (by omega)
  obtain ⟨t3, a3, b3, _⟩ := meet_h ⟨#[42, 46, 97]⟩ ⟨#[42, 46, 98]⟩ (by decide) (by decide) k (by omega)
  obtain ⟨t4, a4, b4⟩ := of_h ⟨#[87, 101, 98, 46, 84, 101, 115, 116, 46, 58, 56, 48, 56, 48]⟩ (by decide) k (by omega)
  have e1 : meetO [42, 46, 97, 46, 98] [42, 46, 98] = some [42, 46, 97, 46, 98] := by
    unfold meetO mayH below under; simp only [nm_eq]; decide +kernel
  have e2 : meetO [120, 46, 97, 46, 98] [42, 46, 98] = some [120, 46, 97, 46, 98] := by
    unfold meetO mayH below under; simp only [nm_eq]; decide +kernel
  have e3 : meetO [42, 46, 97] [42, 46, 98] = none := by
    unfold meetO mayH below under; simp only [nm_eq]; decide +kernel
  have e4 : ofH [87, 101, 98, 46, 84, 101, 115, 116, 46, 58, 56, 48, 56, 48] = ([119, 101, 98, 46, 116, 101, 115, 116], 0) := by
    unfold ofH; simp only [nm_eq]; decide +kernel
  have e5 : holdsH [42, 46, 98] [98] = false := by
    unfold holdsH mayH under; simp only [nm_eq]; decide +kernel
  have c1 : os t1 = [42, 46, 97, 46, 98] := by rw [b1, show os (⟨#[42, 46, 97, 46, 98]⟩ : ByteArray) = [42, 46, 97, 46, 98] from rfl, show os (⟨#[42, 46, 98]⟩ : ByteArray) = [42, 46, 98] from rfl, e1]; rfl
  have c2 : os t2 = [120, 46, 97, 46, 98] := by rw [b2, show os (⟨#[120, 46, 97, 46, 98]⟩ : ByteArray) = [120, 46, 97, 46, 98] from rfl, show os (⟨#[42, 46, 98]⟩ : ByteArray) = [42, 46, 98] from rfl, e2]; rfl
  rw [show os (⟨#[42, 46, 97, 46, 98]⟩ : ByteArray) = [42, 46, 97, 46, 98] from rfl, show os (⟨#[42, 46, 98]⟩ : ByteArray) = [42, 46, 98] from rfl, e1] at a1
  rw [show os (⟨#[120, 46, 97, 46, 98]⟩ : ByteArray) = [120, 46, 97, 46, 98] from rfl, show os (⟨#[42, 46, 98]⟩ : ByteArray) = [42, 46, 98] from rfl, e2] at a2
  rw [show os (⟨#[42, 46, 97]⟩ : ByteArray) = [42, 46, 97] from rfl, show os (⟨#[42, 46, 98]⟩ : ByteArray) = [42, 46, 98] from rfl, e3] at a3
  rw [show os (⟨#[87, 101, 98, 46, 84, 101, 115, 116, 46, 58, 56, 48, 56, 48]⟩ : ByteArray) = [87, 101, 98, 46, 84, 101, 115, 116, 46, 58, 56, 48, 56, 48] from rfl, e4] at a4 b4
  unfold tolllaw02_awake.f
  rw [a1, Option.bind_some, a2, Option.bind_some, a3, Option.bind_some, a4, Option.bind_some]
  dsimp only [Option.isSome]
  rw [toList_os, toList_os, toList_os, c1, c2, b4, if_pos rfl, if_pos rfl, if_pos rfl, if_pos rfl, if_neg (by decide), holds_h _ _ (by decide) (by decide) k (by omega), Option.bind_some, show os (⟨#[42, 46, 98]⟩ : ByteArray) = [42, 46, 98] from rfl, show os (⟨#[98]⟩ : ByteArray) = [98] from rfl, e5, if_neg (by decide), if_pos rfl]
  rfl
end Go.Proofs.YtjfjmniegceejaaDoor.L
