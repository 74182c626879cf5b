/- The pure statement of RuleFirst; no condition beyond the statement's. -/
import Derived.Test.YtompldnifiieaaaDoorKRuleFirst
import Derived.Test.YtompldnifiieaaaDoorPx0
import Derived.Test.YtompldnifiieaaaDoorPx8
import Derived.Test.YtompldnifiieaaaDoorPx9
namespace Go.Proofs.YtompldnifiieaaaDoor.Pure
open Go Go.RowKit Go.Proofs.YtompldnifiieaaaDoor.P Go.Proofs.YtompldnifiieaaaDoor.L Go.Proofs.YtompldnifiieaaaDoorW.PrintWords Go.Proofs.YtompldnifiieaaaDoorW.PrintLast
theorem first_g1 {l : List MT} (hl : SmallMs 10 l) (rm rho rp : ByteArray) {rq rh : List PT} (hrq : Small 31 rq) (hrh : Small 31 rh) (kd : Int) (p m : ByteArray) (h q : List PT) {o : Option Nat} (ho : IsBest (holdX rm rp rq rh) keyX l o) : ∀ (c i k : Nat), l.length - i = c → i ≤ l.length → 2200 ≤ k →
    tolllaw06_RuleFirst_g1.l0 (c + k) l (ansI o).1 (ansI o).2 (i : Int) rm rho rp rq rh kd p m h q = tolllaw06_RuleFirst_g1.l0 k l (ansI o).1 (ansI o).2 (l.length : Int) rm rho rp rq rh kd p m h q := by
  intro c
  induction c with
  | zero =>
    intro i k h1 h2 h3
    obtain rfl : i = l.length := by omega
    rw [Nat.zero_add]
  | succ c ih =>
    intro i k h1 h2 h3
    have hl1 := hl.1
    have hi : i < l.length := by omega
    have hx := hl.2 _ (List.getElem_mem hi)
    rw [show c + 1 + k = (c + k) + 1 by omega, tolllaw06_RuleFirst_g1.l0, if_pos (by omega), if_pos (by omega), rd_m l i hi, hold_x _ hx rm rho rp rq rh hrq hrh _ (by omega), Option.bind_some, wrapS (by omega), ih (i + 1) k (by omega) (by omega) h3]
    cases hb : holdX rm rp rq rh (l[i]'hi) with
    | false => rw [if_neg (by decide)]
    | true =>
      obtain ⟨f, x, rfl, h4, h5, h6⟩ := ho.some_of (List.getElem_mem hi) hb
      have hf := getE_len h4
      obtain ⟨_, rfl⟩ := List.getElem?_eq_some_iff.1 h4
      have hk := h6 _ (List.getElem_mem hi) hb
      rw [if_pos rfl, show ansI (some f) = ((f : Int), true) from rfl, if_pos rfl, if_neg (by omega), if_neg (by omega), if_pos (by omega), if_pos (by omega), rd_m l f hf, ord_x hx (hl.2 _ (List.getElem_mem hf)), Option.bind_some, if_neg (by unfold sgn; rw [if_neg (by omega)]; split <;> decide)]
theorem first_g2 {l : List MT} (hl : SmallMs 10 l) (rm rho rp : ByteArray) {rq rh : List PT} (hrq : Small 31 rq) (hrh : Small 31 rh) (kd : Int) (p m : ByteArray) (h q : List PT) {o : Option Nat} (ho : IsBest (holdX rm rp rq rh) keyX l o) : ∀ (c i k : Nat), l.length - i = c → i ≤ l.length → 2200 ≤ k →
    tolllaw06_RuleFirst_g2.l0 (c + k) l (ansI o).1 (ansI o).2 (i : Int) rm rho rp rq rh kd p m h q = tolllaw06_RuleFirst_g2.l0 k l (ansI o).1 (ansI o).2 (l.length : Int) rm rho rp rq rh kd p m h q := by
  intro c
  induction c with
  | zero =>
    intro i k h1 h2 h3
    obtain rfl : i = l.length := by omega
    rw [Nat.zero_add]
  | succ c ih =>
    intro i k h1 h2 h3
    have hl1 := hl.1
    have hi : i < l.length := by omega
    have hx := hl.2 _ (List.getElem_mem hi)
    rw [show c + 1 + k = (c + k) + 1 by omega, tolllaw06_RuleFirst_g2.l0, if_pos (by omega), if_pos (by omega), rd_m l i hi, hold_x _ hx rm rho rp rq rh hrq hrh _ (by omega), Option.bind_some, wrapS (by omega), ih (i + 1) k (by omega) (by omega) h3]
    cases hb : holdX rm rp rq rh (l[i]'hi) with
    | false => rw [if_neg (by decide)]
    | true =>
      obtain ⟨f, x, rfl, h4, h5, h6⟩ := ho.some_of (List.getElem_mem hi) hb
      have hf := getE_len h4
      obtain ⟨_, rfl⟩ := List.getElem?_eq_some_iff.1 h4
      have hk := h6 _ (List.getElem_mem hi) hb
      rw [if_pos rfl, show ansI (some f) = ((f : Int), true) from rfl, if_pos rfl, if_neg (by omega), if_neg (by omega), if_pos (by omega), if_pos (by omega), rd_m l f hf, ord_x hx (hl.2 _ (List.getElem_mem hf)), Option.bind_some, if_neg (by unfold sgn; rw [if_neg (by omega)]; split <;> decide)]
theorem end_g2 {l : List MT} (hl : SmallMs 10 l) (rm rho rp : ByteArray) {rq rh : List PT} (hrq : Small 31 rq) (hrh : Small 31 rh) (kd : Int) (p m : ByteArray) (h q : List PT) (hy : SmallM ⟨⟨kd, p⟩, m, h, q⟩) {f : Nat} (ho : IsBest (holdX rm rp rq rh) keyX l (some f)) (hf : f < l.length) (k : Nat) (hk : 4000 ≤ k) (hb : holdsM kd p m h q rm rp rq rh = true) (hlt : keyX ⟨⟨kd, p⟩, m, h, q⟩ < keyX (l[f]'hf)) :
    tolllaw06_RuleFirst_g2.l0 k l (f : Int) true (l.length : Int) rm rho rp rq rh kd p m h q = some true := by
  obtain ⟨k, rfl⟩ : ∃ i, k = i + 2 := ⟨k - 2, by omega⟩
  have hl1 := hl.1
  have hx := hl.2 _ (List.getElem_mem hf)
  have hh : holdX rm rp rq rh (l[f]'hf) = true := by
    obtain ⟨x, h1, h2, _⟩ := ho
    obtain ⟨_, rfl⟩ := List.getElem?_eq_some_iff.1 h1
    exact h2
  have hl' : SmallMs 100 (l ++ [(⟨⟨kd, p⟩, m, h, q⟩ : MT)]) := ⟨by rw [List.length_append, List.length_singleton]; omega, fun x hx => by
    rcases List.mem_append.1 hx with e | e
    · exact hl.2 x e
    · rw [List.mem_singleton.1 e]; exact hy⟩
  have e0 := hold_p kd p m h q hy.1 hy.2.2.1 hy.2.2.2 rm rho rp rq rh hrq hrh k (by omega)
  have e1 : rule_Order.f kd p m h q (l[f]'hf).f0.f0 (l[f]'hf).f0.f1 (l[f]'hf).f1 (l[f]'hf).f2 (l[f]'hf).f3 = some (sgn (keyX ⟨⟨kd, p⟩, m, h, q⟩) (keyX (l[f]'hf))) := ord_x hy hx
  rw [tolllaw06_RuleFirst_g2.l0, if_neg (by omega), if_pos rfl, if_neg (by omega), if_neg (by omega), if_pos (by omega), if_pos (by omega), rd_m l f hf, hold_x _ hx rm rho rp rq rh hrq hrh _ (by omega), Option.bind_some, hh, tolllaw06_RuleFirst_g2.j1, if_neg (by decide), Option.bind_some, if_pos (by rw [List.length_nil]; omega), Option.bind_some, Option.bind_some, List.nil_append, if_pos (by rw [List.length_singleton]; omega), first_is hl' rm rho rp hrq hrh (by omega) (ho.less (List.getElem?_eq_getElem hf) hb hlt), Option.bind_some, e0, Option.bind_some]
  rw [hb, if_pos rfl, if_pos (by omega), if_pos (by omega), rd_m l f hf, e1, Option.bind_some, show ansI (some l.length) = ((l.length : Int), true) from rfl, if_pos rfl, show sgn (keyX ⟨⟨kd, p⟩, m, h, q⟩) (keyX (l[f]'hf)) = -1 by unfold sgn; rw [if_pos hlt], if_pos (by rw [beq_self_eq_true]; decide), if_pos (by decide), rule_awake]; rfl
theorem end_g3 {l : List MT} (hl : SmallMs 10 l) (rm rho rp : ByteArray) {rq rh : List PT} (hrq : Small 31 rq) (hrh : Small 31 rh) (kd : Int) (p m : ByteArray) (h q : List PT) (hy : SmallM ⟨⟨kd, p⟩, m, h, q⟩) {f : Nat} (ho : IsBest (holdX rm rp rq rh) keyX l (some f)) (hf : f < l.length) (k : Nat) (hk : 4000 ≤ k) (hb : holdsM kd p m h q rm rp rq rh = true) (hge : keyX (l[f]'hf) ≤ keyX ⟨⟨kd, p⟩, m, h, q⟩) :
    tolllaw06_RuleFirst_g2.l0 k l (f : Int) true (l.length : Int) rm rho rp rq rh kd p m h q = some true := by
  obtain ⟨k, rfl⟩ : ∃ i, k = i + 2 := ⟨k - 2, by omega⟩
  have hl1 := hl.1
  have hx := hl.2 _ (List.getElem_mem hf)
  have hh : holdX rm rp rq rh (l[f]'hf) = true := by
    obtain ⟨x, h1, h2, _⟩ := ho
    obtain ⟨_, rfl⟩ := List.getElem?_eq_some_iff.1 h1
    exact h2
  have hl' : SmallMs 100 (l ++ [(⟨⟨kd, p⟩, m, h, q⟩ : MT)]) := ⟨by rw [List.length_append, List.length_singleton]; omega, fun x hx => by
    rcases List.mem_append.1 hx with e | e
    · exact hl.2 x e
    · rw [List.mem_singleton.1 e]; exact hy⟩
  have e0 := hold_p kd p m h q hy.1 hy.2.2.1 hy.2.2.2 rm rho rp rq rh hrq hrh k (by omega)
  have e1 : rule_Order.f kd p m h q (l[f]'hf).f0.f0 (l[f]'hf).f0.f1 (l[f]'hf).f1 (l[f]'hf).f2 (l[f]'hf).f3 = some (sgn (keyX ⟨⟨kd, p⟩, m, h, q⟩) (keyX (l[f]'hf))) := ord_x hy hx
  rw [tolllaw06_RuleFirst_g2.l0, if_neg (by omega), if_pos rfl, if_neg (by omega), if_neg (by omega), if_pos (by omega), if_pos (by omega), rd_m l f hf, hold_x _ hx rm rho rp rq rh hrq hrh _ (by omega), Option.bind_some, hh, tolllaw06_RuleFirst_g2.j1, if_neg (by decide), Option.bind_some, if_pos (by rw [List.length_nil]; omega), Option.bind_some, Option.bind_some, List.nil_append, if_pos (by rw [List.length_singleton]; omega), first_is hl' rm rho rp hrq hrh (by omega) (ho.more (List.getElem?_eq_getElem hf) hge), Option.bind_some, e0, Option.bind_some]
  have hs : ¬ sgn (keyX ⟨⟨kd, p⟩, m, h, q⟩) (keyX (l[f]'hf)) < 0 := by unfold sgn; rw [if_neg (by omega)]; split <;> decide
  rw [hb, if_pos rfl, if_pos (by omega), if_pos (by omega), rd_m l f hf, e1, Option.bind_some, show ansI (some f) = ((f : Int), true) from rfl, if_pos rfl, if_pos (by rw [decide_eq_false hs, show ((f : Int) == (l.length : Int)) = false from beq_eq_false_iff_ne.2 (by omega)]; decide), if_neg hs, if_pos rfl, rule_awake]; rfl
theorem end_g4 {l : List MT} (hl : SmallMs 10 l) (rm rho rp : ByteArray) {rq rh : List PT} (hrq : Small 31 rq) (hrh : Small 31 rh) (kd : Int) (p m : ByteArray) (h q : List PT) (hy : SmallM ⟨⟨kd, p⟩, m, h, q⟩) {f : Nat} (ho : IsBest (holdX rm rp rq rh) keyX l (some f)) (hf : f < l.length) (k : Nat) (hk : 4000 ≤ k) (hb : holdsM kd p m h q rm rp rq rh = false) :
    tolllaw06_RuleFirst_g1.l0 k l (f : Int) true (l.length : Int) rm rho rp rq rh kd p m h q = some true := by
  obtain ⟨k, rfl⟩ : ∃ i, k = i + 2 := ⟨k - 2, by omega⟩
  have hl1 := hl.1
  have hx := hl.2 _ (List.getElem_mem hf)
  have hh : holdX rm rp rq rh (l[f]'hf) = true := by
    obtain ⟨x, h1, h2, _⟩ := ho
    obtain ⟨_, rfl⟩ := List.getElem?_eq_some_iff.1 h1
    exact h2
  have hl' : SmallMs 100 (l ++ [(⟨⟨kd, p⟩, m, h, q⟩ : MT)]) := ⟨by rw [List.length_append, List.length_singleton]; omega, fun x hx => by
    rcases List.mem_append.1 hx with e | e
    · exact hl.2 x e
    · rw [List.mem_singleton.1 e]; exact hy⟩
  have e0 := hold_p kd p m h q hy.1 hy.2.2.1 hy.2.2.2 rm rho rp rq rh hrq hrh k (by omega)
  have e1 : rule_Order.f kd p m h q (l[f]'hf).f0.f0 (l[f]'hf).f0.f1 (l[f]'hf).f1 (l[f]'hf).f2 (l[f]'hf).f3 = some (sgn (keyX ⟨⟨kd, p⟩, m, h, q⟩) (keyX (l[f]'hf))) := ord_x hy hx
  rw [tolllaw06_RuleFirst_g1.l0, if_neg (by omega), if_pos rfl, if_neg (by omega), if_neg (by omega), if_pos (by omega), if_pos (by omega), rd_m l f hf, hold_x _ hx rm rho rp rq rh hrq hrh _ (by omega), Option.bind_some, hh, tolllaw06_RuleFirst_g1.j1, if_neg (by decide), Option.bind_some, if_pos (by rw [List.length_nil]; omega), Option.bind_some, Option.bind_some, List.nil_append, if_pos (by rw [List.length_singleton]; omega), first_is hl' rm rho rp hrq hrh (by omega) (ho.no hb), Option.bind_some, e0, Option.bind_some]
  clear e1
  rw [hb, if_neg (by decide), show ansI (some f) = ((f : Int), true) from rfl, if_pos rfl, if_pos (by rw [show ((f : Int) == (l.length : Int)) = false from beq_eq_false_iff_ne.2 (by omega)]; decide), if_pos rfl, rule_awake]; rfl
theorem RuleFirst : tolllaw06_RuleFirst.Pure := by
  intro l0 rm0 rho0 rp0 rq0 rh0 kd p0 m0 h0 q0 _ _ _
  refine ⟨9000, ?_⟩
  unfold tolllaw06_RuleFirst_g1.f tolllaw06_RuleFirst_g2.f
  simp only [some_eq _ 9000 (by decide), fewM_eq _ _ _ _ _ 9000 (by decide), asked_eq _ _ _ _ _ 9000 (by decide), Option.bind_some]
  have hl := someM_small l0
  generalize someM l0 = l at *
  have hrq := fewL_small rq0
  have hrh := fewL_small rh0
  have hy : SmallM ⟨⟨kd, few p0⟩, few m0, fewL h0, fewL q0⟩ := ⟨few_len _, few_len _, fewL_small _, fewL_small _⟩
  generalize few rm0 = rm
  generalize few rho0 = rho
  generalize few rp0 = rp
  generalize fewL rq0 = rq at *
  generalize fewL rh0 = rh at *
  generalize few p0 = p at *
  generalize few m0 = m at *
  generalize fewL h0 = h at *
  generalize fewL q0 = q at *
  have hl1 := hl.1
  obtain ⟨o, b1, e1⟩ := first_p l ⟨by omega, hl.2⟩ rm rho rp rq rh hrq hrh 9000 (by decide)
  rw [e1, Option.bind_some, Option.bind_some, show (9000 : Nat) = l.length + (9000 - l.length) by omega]
  have g1 := first_g1 hl rm rho rp hrq hrh kd p m h q b1 l.length 0 (9000 - l.length) (by omega) (by omega) (by omega)
  have g2 := first_g2 hl rm rho rp hrq hrh kd p m h q b1 l.length 0 (9000 - l.length) (by omega) (by omega) (by omega)
  cases o with
  | none =>
    left
    refine Eq.trans g1 ?_
    rw [show 9000 - l.length = (8999 - l.length) + 1 by omega, tolllaw06_RuleFirst_g1.l0, if_neg (by omega), show ansI none = (0, false) from rfl, if_neg (by decide), if_pos rfl, rule_awake]; rfl
  | some f =>
    have hf : f < l.length := by obtain ⟨x, h, _⟩ := b1; exact getE_len h
    cases hb : holdsM kd p m h q rm rp rq rh with
    | false => exact Or.inl (Eq.trans g1 (end_g4 hl rm rho rp hrq hrh kd p m h q hy b1 hf _ (by omega) hb))
    | true =>
      by_cases hlt : keyX ⟨⟨kd, p⟩, m, h, q⟩ < keyX (l[f]'hf)
      · exact Or.inr (Eq.trans g2 (end_g2 hl rm rho rp hrq hrh kd p m h q hy b1 hf _ (by omega) hb hlt))
      · exact Or.inr (Eq.trans g2 (end_g3 hl rm rho rp hrq hrh kd p m h q hy b1 hf _ (by omega) hb (by omega)))
end Go.Proofs.YtompldnifiieaaaDoor.Pure
