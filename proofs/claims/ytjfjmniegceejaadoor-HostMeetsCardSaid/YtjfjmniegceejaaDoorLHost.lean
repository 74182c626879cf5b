/- Hosts' patterns, as plain functions on lists of octets: whatever names are. -/
import Derived.Test.YtjfjmniegceejaaDoorPx0
import Derived.Test.YtjfjmniegceejaaDoorPx2
import Derived.Test.YtjfjmniegceejaaDoorPx3
import Derived.Test.YtjfjmniegceejaaDoorPx4
import Derived.Test.YtjfjmniegceejaaDoorPx5
import Derived.Test.YtjfjmniegceejaaDoorPx6
import Derived.Test.YtjfjmniegceejaaDoorLBytes
namespace Go.Proofs.YtjfjmniegceejaaDoor.L
open Go Go.RowKit Go.Proofs.YtjfjmniegceejaaDoor.P Go.Proofs.YtjfjmniegceejaaDoorW.PrintWords Go.Proofs.YtjfjmniegceejaaDoorW.PrintLast

noncomputable def few (s : ByteArray) : ByteArray := if s.size > 100 then s.extract 0 100 else s
theorem few_eq (s : ByteArray) : tolllaw01_Few.f s = some (few s) := by
  unfold tolllaw01_Few.f few
  by_cases h : s.size > 100
  · rw [if_pos (by omega), if_pos (by decide), if_pos (by omega), if_pos h]
  · rw [if_neg (by omega), if_neg h]
theorem few_len (s : ByteArray) : (os (few s)).length ≤ 100 := by
  have hs := size_os s
  unfold few
  by_cases h : s.size > 100
  · rw [if_pos h, os_extract, List.length_take]; omega
  · rw [if_neg h]; omega
theorem few_id {s : ByteArray} (h : (os s).length ≤ 100) : few s = s := by
  have hs := size_os s
  unfold few
  rw [if_neg (by omega)]
theorem hasSuffix (s p : ByteArray) (hl : s.size ≤ 9223372036854775807) : strings_HasSuffix.f s p = some ((os p).isSuffixOf (os s)) := by
  have hs := size_os s
  have hp := size_os p
  unfold strings_HasSuffix.f stringslite_HasSuffix.f
  by_cases h : (s.size : Int) ≥ (p.size : Int)
  · have hw : wrap64 ((s.size : Int) - (p.size : Int)) = ((s.size - p.size : Nat) : Int) := by rw [wrap64_id (by omega) (by omega)]; omega
    rw [if_pos h, hw, if_pos (by omega), if_pos (by omega), Option.bind_some]
    congr 1
    rw [toList_os, toList_os, os_extract, Int.toNat_natCast, Bool.eq_iff_iff, beq_iff_eq, List.isSuffixOf_iff_suffix, List.take_of_length_le (by simp)]
    rw [List.suffix_iff_eq_drop, ← hs, ← hp]
    exact eq_comm
  · rw [if_neg h, Option.bind_some]
    congr 1
    symm
    rw [Bool.eq_false_iff]
    intro hc
    have := (List.isSuffixOf_iff_suffix.1 hc).length_le
    omega
theorem wrapN {i : Nat} (h : i ≤ 100000) : wrap64 ((i : Int) + 1) = ((i + 1 : Nat) : Int) := by rw [wrap64_id (by omega) (by omega)]; omega
theorem rdB (l : List ByteArray) (i : Nat) (h : i < l.length) : rdOf ByteArray.empty l (i : Int) = l[i]'h := by
  unfold rdOf
  rw [Int.toNat_natCast, List.getD_eq_getElem?_getD, List.getElem?_eq_getElem h]; rfl
/-! #### patterns -/
/-- Is a text a name? (What the program answers.) -/
noncomputable def nm (l : List UInt8) : Bool := decide (l.length ≤ 60) && (pieces 46 ⟨l.toArray⟩).all labB
theorem name_p (s : ByteArray) : dns_Name.f s = some (nm (os s)) := by
  unfold dns_Name.f nm
  rw [size_os s]
noncomputable def star : List UInt8 := [42, 46]
/-- Does a pattern begin with a star? -/
noncomputable def wide (p : List UInt8) : Bool := star.isPrefixOf p
/-- What is behind the star, if there is one. -/
noncomputable def tl (p : List UInt8) : List UInt8 := if wide p = true then p.drop 2 else p
noncomputable def mayH (p : List UInt8) : Bool := decide (p = []) || (decide (p.length ≤ 60) && nm (tl p))
noncomputable def under (h a : List UInt8) : Bool := nm h && (nm a && (46 :: a).isSuffixOf h)
noncomputable def holdsH (p h : List UInt8) : Bool := mayH p && (nm h && (decide (p = []) || (if wide p = true then under h (tl p) else p == h)))
noncomputable def below (p q : List UInt8) : Bool := decide (q = []) || (p == q || (!decide (p = []) && (wide q && under (tl p) (tl q))))
noncomputable def meetO (a b : List UInt8) : Option (List UInt8) := if (mayH a && mayH b) = true then (if below a b = true then some a else if below b a = true then some b else none) else none
theorem wide_eq {p : List UInt8} (h : wide p = true) : p = star ++ tl p := by
  unfold tl
  rw [if_pos h]
  unfold wide at h
  obtain ⟨r, hr⟩ := List.isPrefixOf_iff_prefix.1 h
  rw [← hr]; rfl
theorem tl_plain {p : List UInt8} (h : wide p = false) : tl p = p := by unfold tl; rw [h]; rfl
theorem wide_nil : wide [] = false := rfl
theorem under_iff {h a : List UInt8} : under h a = true ↔ nm h = true ∧ nm a = true ∧ (46 :: a) <:+ h := by
  unfold under
  rw [Bool.and_eq_true, Bool.and_eq_true, List.isSuffixOf_iff_suffix]
theorem under_trans {x y z : List UInt8} (h1 : under x y = true) (h2 : under y z = true) : under x z = true := by
  rw [under_iff] at *
  exact ⟨h1.1, h2.2.1, (h2.2.2.trans (List.suffix_cons _ _)).trans h1.2.2⟩
theorem under_len {x y : List UInt8} (h : under x y = true) : y.length < x.length := by
  have := (under_iff.1 h).2.2.length_le
  rw [List.length_cons] at this; omega
/-- Two names above one name: the same, or one is above the other. -/
theorem under_two {h x y : List UInt8} (h1 : under h x = true) (h2 : under h y = true) : x = y ∨ under x y = true ∨ under y x = true := by
  rw [under_iff] at h1 h2
  have aux : ∀ {x y : List UInt8}, nm x = true → nm y = true → (46 :: x) <:+ h → (46 :: y) <:+ h → x.length ≤ y.length → x = y ∨ under y x = true := fun {x y} nx ny sx sy hl => by
    have := List.suffix_of_suffix_length_le sx sy (by simpa using hl)
    rcases List.suffix_cons_iff.1 this with e | e
    · exact .inl (List.cons.inj e).2
    · exact .inr (under_iff.2 ⟨ny, nx, e⟩)
  rcases Nat.le_total x.length y.length with c | c
  · rcases aux h1.2.1 h2.2.1 h1.2.2 h2.2.2 c with e | e
    · exact .inl e
    · exact .inr (.inr e)
  · rcases aux h2.2.1 h1.2.1 h2.2.2 h1.2.2 c with e | e
    · exact .inl e.symm
    · exact .inr (.inl e)
theorem below_iff {p q : List UInt8} : below p q = true ↔ q = [] ∨ p = q ∨ (p ≠ [] ∧ wide q = true ∧ under (tl p) (tl q) = true) := by
  unfold below
  simp only [Bool.or_eq_true, Bool.and_eq_true, decide_eq_true_eq, Bool.not_eq_true', decide_eq_false_iff_not, beq_iff_eq]
theorem below_refl (p : List UInt8) : below p p = true := below_iff.2 (.inr (.inl rfl))
theorem below_anti {p q : List UInt8} (h1 : below p q = true) (h2 : below q p = true) : p = q := by
  rcases below_iff.1 h1 with e | e | ⟨a, b, c⟩
  · rcases below_iff.1 h2 with e' | e' | ⟨a', _, _⟩
    · rw [e, e']
    · exact e'.symm
    · exact absurd e a'
  · exact e
  · rcases below_iff.1 h2 with e' | e' | ⟨a', b', c'⟩
    · exact absurd e' a
    · exact e'.symm
    · have := under_len c; have := under_len c'; omega
theorem below_trans {p q r : List UInt8} (h1 : below p q = true) (h2 : below q r = true) : below p r = true := by
  rcases below_iff.1 h2 with e | e | ⟨a, b, c⟩
  · exact below_iff.2 (.inl e)
  · rw [← e]; exact h1
  · rcases below_iff.1 h1 with e' | e' | ⟨a', b', c'⟩
    · exact absurd e' a
    · rw [e']; exact h2
    · exact below_iff.2 (.inr (.inr ⟨a', b, under_trans c' c⟩))
theorem wide_inj {p q : List UInt8} (h1 : wide p = true) (h2 : wide q = true) (h : tl p = tl q) : p = q := by rw [wide_eq h1, wide_eq h2, h]
/-- What one pattern is below of: these are below each other. -/
theorem below_two {p q r : List UInt8} (h1 : below p q = true) (h2 : below p r = true) : below q r = true ∨ below r q = true := by
  rcases below_iff.1 h1 with e | e | ⟨a, b, c⟩
  · exact .inr (below_iff.2 (.inl e))
  · left; rw [← e]; exact h2
  · rcases below_iff.1 h2 with e' | e' | ⟨a', b', c'⟩
    · exact .inl (below_iff.2 (.inl e'))
    · right; rw [← e']; exact h1
    · have hq : q ≠ [] := fun h => by rw [h, wide_nil] at b; cases b
      have hr : r ≠ [] := fun h => by rw [h, wide_nil] at b'; cases b'
      rcases under_two c c' with e | e | e
      · left; rw [wide_inj b b' e]; exact below_refl _
      · exact .inl (below_iff.2 (.inr (.inr ⟨hq, b', e⟩)))
      · exact .inr (below_iff.2 (.inr (.inr ⟨hr, b, e⟩)))
theorem meetO_iff {a b z : List UInt8} : meetO a b = some z ↔ mayH a = true ∧ mayH b = true ∧ (z = a ∨ z = b) ∧ below z a = true ∧ below z b = true := by
  unfold meetO
  constructor
  · intro h
    split at h
    · next hm =>
      rw [Bool.and_eq_true] at hm
      split at h
      · next hb => obtain rfl := Option.some.inj h; exact ⟨hm.1, hm.2, .inl rfl, below_refl _, hb⟩
      · split at h
        · next hb => obtain rfl := Option.some.inj h; exact ⟨hm.1, hm.2, .inr rfl, hb, below_refl _⟩
        · cases h
    · cases h
  · rintro ⟨h1, h2, h3, h4, h5⟩
    rw [if_pos (by rw [h1, h2]; rfl)]
    rcases h3 with rfl | rfl
    · rw [if_pos h5]
    · by_cases c : below a z = true
      · rw [if_pos c, below_anti c h4]
      · rw [if_neg c, if_pos h4]
theorem meetO_comm (a b : List UInt8) : meetO a b = meetO b a := by
  apply Option.ext
  intro z
  show meetO a b = some z ↔ meetO b a = some z
  rw [meetO_iff, meetO_iff]
  exact ⟨fun ⟨h1, h2, h3, h4, h5⟩ => ⟨h2, h1, h3.symm, h5, h4⟩, fun ⟨h1, h2, h3, h4, h5⟩ => ⟨h2, h1, h3.symm, h5, h4⟩⟩
theorem meetO_self (a : List UInt8) : meetO a a = if mayH a = true then some a else none := by
  unfold meetO
  rw [Bool.and_self, below_refl, if_pos rfl]
/-- The least of three. -/
noncomputable def min3 (a b c z : List UInt8) : Prop := (mayH a = true ∧ mayH b = true ∧ mayH c = true) ∧ (z = a ∨ z = b ∨ z = c) ∧ below z a = true ∧ below z b = true ∧ below z c = true
theorem meet_left {a b c z : List UInt8} : (meetO a b).bind (fun x => meetO x c) = some z ↔ min3 a b c z := by
  rw [Option.bind_eq_some_iff]
  constructor
  · rintro ⟨x, h1, h2⟩
    obtain ⟨ha, hb, hx, hxa, hxb⟩ := meetO_iff.1 h1
    obtain ⟨_, hc, hz, hzx, hzc⟩ := meetO_iff.1 h2
    refine ⟨⟨ha, hb, hc⟩, ?_, below_trans hzx hxa, below_trans hzx hxb, hzc⟩
    rcases hz with rfl | rfl
    · rcases hx with h | h
      · exact .inl h
      · exact .inr (.inl h)
    · exact .inr (.inr rfl)
  · rintro ⟨⟨ha, hb, hc⟩, hz, h1, h2, h3⟩
    rcases hz with rfl | rfl | rfl
    · exact ⟨z, meetO_iff.2 ⟨ha, hb, .inl rfl, h1, h2⟩, meetO_iff.2 ⟨ha, hc, .inl rfl, h1, h3⟩⟩
    · exact ⟨z, meetO_iff.2 ⟨ha, hb, .inr rfl, h1, h2⟩, meetO_iff.2 ⟨hb, hc, .inl rfl, h2, h3⟩⟩
    · rcases below_two h1 h2 with c | c
      · exact ⟨a, meetO_iff.2 ⟨ha, hb, .inl rfl, below_refl _, c⟩, meetO_iff.2 ⟨ha, hc, .inr rfl, h1, h3⟩⟩
      · exact ⟨b, meetO_iff.2 ⟨ha, hb, .inr rfl, c, below_refl _⟩, meetO_iff.2 ⟨hb, hc, .inr rfl, h2, h3⟩⟩
theorem meet_assoc (a b c : List UInt8) : (meetO a b).bind (fun x => meetO x c) = (meetO b c).bind (fun y => meetO a y) := by
  apply Option.ext
  intro z
  show _ = some z ↔ _ = some z
  rw [show (fun y => meetO a y) = fun y => meetO y a from funext fun y => meetO_comm a y, meet_left, meet_left]
  unfold min3
  constructor
  · rintro ⟨⟨ha, hb, hc⟩, hz, h1, h2, h3⟩
    exact ⟨⟨hb, hc, ha⟩, by rcases hz with h | h | h <;> simp [h], h2, h3, h1⟩
  · rintro ⟨⟨ha, hb, hc⟩, hz, h1, h2, h3⟩
    exact ⟨⟨hc, ha, hb⟩, by rcases hz with h | h | h <;> simp [h], h3, h1, h2⟩
theorem holds_below {a b h : List UInt8} (hb : mayH b = true) (hab : below a b = true) (hh : holdsH a h = true) : holdsH b h = true := by
  unfold holdsH at hh ⊢
  simp only [Bool.and_eq_true, Bool.or_eq_true, decide_eq_true_eq] at hh ⊢
  obtain ⟨h1, h2, h3⟩ := hh
  refine ⟨hb, h2, ?_⟩
  rcases below_iff.1 hab with e | e | ⟨ea, eb, ec⟩
  · exact .inl e
  · rw [← e]; exact h3
  · right
    rw [if_pos eb]
    rcases h3 with h3 | h3
    · exact absurd h3 ea
    · cases hw : wide a with
      | true => rw [hw, if_pos rfl] at h3; exact under_trans h3 ec
      | false =>
        rw [hw, if_neg (by decide)] at h3
        obtain rfl := eq_of_beq h3
        rw [tl_plain hw] at ec
        exact ec
theorem holds_both {a b h : List UInt8} (h1 : holdsH a h = true) (h2 : holdsH b h = true) : below a b = true ∨ below b a = true := by
  unfold holdsH at h1 h2
  simp only [Bool.and_eq_true, Bool.or_eq_true, decide_eq_true_eq] at h1 h2
  obtain ⟨ma, nh, ha⟩ := h1
  obtain ⟨mb, _, hb⟩ := h2
  by_cases ea : a = []
  · exact .inr (below_iff.2 (.inl ea))
  by_cases eb : b = []
  · exact .inl (below_iff.2 (.inl eb))
  replace ha := ha.resolve_left ea
  replace hb := hb.resolve_left eb
  cases wa : wide a with
  | true =>
    rw [wa, if_pos rfl] at ha
    cases wb : wide b with
    | true =>
      rw [wb, if_pos rfl] at hb
      rcases under_two ha hb with e | e | e
      · left; rw [wide_inj wa wb e]; exact below_refl _
      · exact .inl (below_iff.2 (.inr (.inr ⟨ea, wb, e⟩)))
      · exact .inr (below_iff.2 (.inr (.inr ⟨eb, wa, e⟩)))
    | false =>
      rw [wb, if_neg (by decide)] at hb
      obtain rfl := eq_of_beq hb
      exact .inr (below_iff.2 (.inr (.inr ⟨eb, wa, by rw [tl_plain wb]; exact ha⟩)))
  | false =>
    rw [wa, if_neg (by decide)] at ha
    obtain rfl := eq_of_beq ha
    cases wb : wide b with
    | true =>
      rw [wb, if_pos rfl] at hb
      exact .inl (below_iff.2 (.inr (.inr ⟨ea, wb, by rw [tl_plain wa]; exact hb⟩)))
    | false =>
      rw [wb, if_neg (by decide)] at hb
      left; rw [eq_of_beq hb]; exact below_refl _
/-- Just the hosts that both stand for. -/
theorem meet_just {a b h : List UInt8} : match meetO a b with | some x => mayH x = true ∧ holdsH x h = (holdsH a h && holdsH b h) | none => (holdsH a h && holdsH b h) = false := by
  have hm : ∀ {p}, holdsH p h = true → mayH p = true := fun {p} hp => by unfold holdsH at hp; rw [Bool.and_eq_true] at hp; exact hp.1
  cases hz : meetO a b with
  | some x =>
    obtain ⟨ha, hb, hx, h1, h2⟩ := meetO_iff.1 hz
    show mayH x = true ∧ holdsH x h = (holdsH a h && holdsH b h)
    refine ⟨by rcases hx with rfl | rfl <;> assumption, ?_⟩
    rw [Bool.eq_iff_iff, Bool.and_eq_true]
    refine ⟨fun hh => ⟨holds_below ha h1 hh, holds_below hb h2 hh⟩, fun hh => ?_⟩
    rcases hx with rfl | rfl
    · exact hh.1
    · exact hh.2
  | none =>
    show (holdsH a h && holdsH b h) = false
    cases hx : (holdsH a h && holdsH b h) with
    | false => rfl
    | true =>
      rw [Bool.and_eq_true] at hx
      have ha := hm hx.1
      have hb := hm hx.2
      rcases holds_both hx.1 hx.2 with c | c
      · have := meetO_iff.2 ⟨ha, hb, .inl rfl, below_refl _, c⟩
        rw [hz] at this; cases this
      · have := meetO_iff.2 ⟨ha, hb, .inr rfl, c, below_refl _⟩
        rw [hz] at this; cases this

/-! #### what the program answers -/
theorem hasPrefix0 (s p : ByteArray) : stringslite_HasPrefix.f s p = some ((os p).isPrefixOf (os s)) := by
  have hs := size_os s
  have hp := size_os p
  unfold stringslite_HasPrefix.f
  by_cases h : (s.size : Int) ≥ (p.size : Int)
  · rw [if_pos h, if_pos (by omega), if_pos (by omega)]
    congr 1
    rw [toList_os, toList_os, os_extract, List.drop_zero, Nat.sub_zero, hp, Bool.eq_iff_iff, beq_iff_eq, List.isPrefixOf_iff_prefix]
    exact ⟨fun h => by rw [← h]; exact List.take_prefix _ _, fun h => (List.prefix_iff_eq_take.1 h).symm⟩
  · rw [if_neg h]
    congr 1
    symm
    rw [Bool.eq_false_iff]
    intro hc
    have := (List.isPrefixOf_iff_prefix.1 hc).length_le
    omega
theorem cut_p (s : ByteArray) : ∃ t, strings_CutPrefix.f s ⟨#[42, 46]⟩ = some (t, wide (os s)) ∧ os t = tl (os s) := by
  have h1 := hasPrefix0 s ⟨#[42, 46]⟩
  unfold strings_CutPrefix.f stringslite_CutPrefix.f
  rw [h1, Option.bind_some]
  cases hw : (os ⟨#[42, 46]⟩).isPrefixOf (os s) with
  | true =>
    have hs := size_os s
    have hl : 2 ≤ (os s).length := by
      obtain ⟨r, hr⟩ := List.isPrefixOf_iff_prefix.1 hw
      rw [← hr, List.length_append]; show 2 ≤ 2 + _; omega
    rw [if_pos rfl, if_pos (by omega), if_pos (by show (2 : Int) ≤ _; omega), Option.bind_some]
    refine ⟨_, by rw [show wide (os s) = true from hw], ?_⟩
    unfold tl
    rw [show wide (os s) = true from hw, if_pos rfl, os_extract, show (⟨#[42, 46]⟩ : ByteArray).size = 2 from rfl, List.take_of_length_le (by rw [List.length_drop]; omega)]
  | false =>
    rw [if_neg (by decide), Option.bind_some]
    refine ⟨s, by rw [show wide (os s) = false from hw], ?_⟩
    rw [tl_plain hw]
theorem may_h (s : ByteArray) : host_May.f s = some (mayH (os s)) := by
  obtain ⟨t, h1, h2⟩ := cut_p s
  have hs := size_os s
  unfold host_May.f mayH
  rw [h1, Option.bind_some, toList_os, name_p, h2]
  by_cases c : os s = []
  · rw [if_pos c, decide_eq_true c]; rfl
  · rw [if_neg c, decide_eq_false c, Bool.false_or]
    by_cases c2 : (os s).length ≤ 60
    · rw [if_pos (by omega), decide_eq_true c2, Option.bind_some]
      cases nm (tl (os s)) with
      | false => rfl
      | true =>
        rw [if_pos rfl]
        cases hw : wide (os s) with
        | true => rfl
        | false =>
          rw [if_neg (by simp), toList_os, h2, tl_plain hw]
          show some (os s == os s) = some true
          rw [beq_self_eq_true]
    · rw [if_neg (by omega), decide_eq_false c2]; rfl
theorem under_p (h a : ByteArray) (ha : (os a).length ≤ 1000) (hh : (os h).length ≤ 1000) : dns_Under.f h a = some (under (os h) (os a)) := by
  have h1 := size_os a
  have h2 := size_os h
  unfold dns_Under.f under
  rw [name_p, name_p, Option.bind_some]
  cases nm (os h) with
  | false => rfl
  | true =>
    rw [if_pos rfl, Option.bind_some]
    cases nm (os a) with
    | false => rfl
    | true =>
      rw [if_pos rfl, if_pos (by omega), hasSuffix h _ (by omega), os_append]; rfl
theorem holds_h (p h : ByteArray) (hp : (os p).length ≤ 1000) (hh : (os h).length ≤ 1000) (k : Nat) (hk : 1 ≤ k) : host_Holds.f k p h = some (holdsH (os p) (os h)) := by
  obtain ⟨t, h1, h2⟩ := cut_p p
  obtain ⟨k, rfl⟩ : ∃ m, k = m + 1 := ⟨k - 1, by omega⟩
  have htl : (os t).length ≤ 1000 := by
    rw [h2]; unfold tl; split
    · rw [List.length_drop]; omega
    · exact hp
  unfold host_Holds.f holdsH
  rw [h1, Option.bind_some, may_h, Option.bind_some]
  cases mayH (os p) with
  | false => rw [if_neg (by decide), host_Holds.j0, if_pos rfl]; rfl
  | true =>
    rw [if_pos rfl, name_p, Option.bind_some, host_Holds.j0]
    cases nm (os h) with
    | false => rfl
    | true =>
      rw [if_neg (by decide), toList_os, toList_os]
      by_cases c : os p = []
      · rw [if_pos c, decide_eq_true c]; rfl
      · rw [if_neg c, decide_eq_false c]
        cases wide (os p) with
        | true => rw [if_pos rfl, under_p h t htl hh, Option.bind_some, h2]; rfl
        | false => rfl
theorem below_h (a b : ByteArray) (ha : (os a).length ≤ 1000) (hb : (os b).length ≤ 1000) (k : Nat) (hk : 2 ≤ k) : host_below.f k a b = some (below (os a) (os b)) := by
  obtain ⟨t, h1, h2⟩ := cut_p a
  obtain ⟨u, h3, h4⟩ := cut_p b
  obtain ⟨k, rfl⟩ : ∃ m, k = m + 2 := ⟨k - 2, by omega⟩
  have hlen : ∀ {x : ByteArray} {l : List UInt8}, l.length ≤ 1000 → os x = tl l → (os x).length ≤ 1000 := fun {x l} hl e => by
    rw [e]; unfold tl; split
    · rw [List.length_drop]; omega
    · exact hl
  have ht := hlen ha h2
  have hu := hlen hb h4
  unfold host_below.f below
  rw [h1, Option.bind_some, h3, Option.bind_some, toList_os]
  by_cases c : os b = []
  · rw [if_pos c, decide_eq_true c, host_below.j0, if_pos rfl]; rfl
  · rw [if_neg c, decide_eq_false c, host_below.j0, toList_os]
    cases os a == os b with
    | true => rfl
    | false =>
      rw [if_neg (by decide)]
      by_cases c2 : os a = []
      · rw [if_pos c2, decide_eq_true c2, host_below.j1, if_pos rfl]; rfl
      · rw [if_neg c2, decide_eq_false c2, host_below.j1]
        cases wide (os b) with
        | false => rfl
        | true =>
          rw [if_neg (by simp)]
          cases hw : wide (os a) with
          | true => rw [if_pos rfl, under_p t u hu ht, Option.bind_some, h2, h4]; rfl
          | false => rw [if_neg (by simp), under_p a u hu ha, Option.bind_some, h4, tl_plain hw]; rfl
/-- A meeting as the program tells it: a text, and whether there is one. -/
theorem meet_h (a b : ByteArray) (ha : (os a).length ≤ 1000) (hb : (os b).length ≤ 1000) (k : Nat) (hk : 3 ≤ k) : ∃ t, host_Meet.f k a b = some (t, (meetO (os a) (os b)).isSome) ∧ os t = (meetO (os a) (os b)).getD [] ∧ (os t).length ≤ 1000 := by
  obtain ⟨k, rfl⟩ : ∃ m, k = m + 1 := ⟨k - 1, by omega⟩
  unfold host_Meet.f meetO
  rw [may_h, may_h, Option.bind_some, Option.bind_some]
  cases mayH (os a) with
  | false => rw [if_neg (by decide), host_Meet.j0, if_pos rfl]; exact ⟨_, rfl, rfl, by decide⟩
  | true =>
    rw [if_pos rfl, host_Meet.j0]
    cases mayH (os b) with
    | false => exact ⟨_, rfl, rfl, by decide⟩
    | true =>
      rw [if_neg (by decide), below_h a b ha hb k (by omega), Option.bind_some, if_pos (show (true && true) = true from rfl)]
      cases below (os a) (os b) with
      | true => exact ⟨a, rfl, rfl, ha⟩
      | false =>
        rw [if_neg (show ¬ false = true by decide), if_neg (show ¬ false = true by decide), below_h b a hb ha k (by omega), Option.bind_some]
        cases below (os b) (os a) with
        | true => exact ⟨b, rfl, rfl, hb⟩
        | false => exact ⟨_, rfl, rfl, by decide⟩
end Go.Proofs.YtjfjmniegceejaaDoor.L
