/- The pure statement of HeadSizes; no condition beyond the statement's. -/
import Derived.Test.YtpmllmfamjpinaaDoorKHeadSizes
import Derived.Test.YtpmllmfamjpinaaDoorPx0
import Derived.Test.YtpmllmfamjpinaaDoorPx11
import Derived.Test.YtpmllmfamjpinaaDoorPx5
import Derived.Test.YtpmllmfamjpinaaDoorPx6
import Derived.Lib.IndexLaws
namespace Go.Proofs.YtpmllmfamjpinaaDoor.Pure
open Go Go.RowKit Go.Proofs.YtpmllmfamjpinaaDoor.P Go.Proofs.YtpmllmfamjpinaaDoor.L Go.Proofs.YtpmllmfamjpinaaDoorW.PrintWords Go.Proofs.YtpmllmfamjpinaaDoorW.PrintLast
set_option maxRecDepth 100000
theorem upTo {β : Type} {F : Nat → Option β} (hm : ∀ k, LeO (F k) (F (k + 1))) {k j : Nat} {r : β} (h : F k = some r) (hk : k ≤ j) : F j = some r := by
  obtain ⟨n, rfl⟩ : ∃ n, j = k + n := ⟨j - k, by omega⟩
  clear hk
  induction n with
  | zero => exact h
  | succ n ih => exact hm _ _ ih
theorem l1_mod {x y : Int} (h : Int.tmod x 9 = Int.tmod y 9) : ∀ (k : Nat) (a b : Int) (s : ByteArray) (i : Int), tolllaw18_HeadSizes.l1 k x a b s i = tolllaw18_HeadSizes.l1 k y a b s i
  | 0, _, _, _, _ => rfl
  | k + 1, a, b, s, i => by
    have ih := l1_mod h k
    simp only [tolllaw18_HeadSizes.l1, h, ih]
theorem tails5 : ∀ n : Fin 9, tolllaw18_HeadSizes.l1 400 ((n : Nat) : Int) 5 5 ⟨#[]⟩ 0 = some true := by decide +kernel
theorem tails8 : ∀ n : Fin 9, tolllaw18_HeadSizes.l1 400 ((n : Nat) : Int) 8 8 ⟨#[]⟩ 0 = some true := by decide +kernel
theorem tail_ (e : Int) (he : e = 5 ∨ e = 8) (a : Int) (h0 : 0 ≤ a) (k : Nat) (hk : 400 ≤ k) : tolllaw18_HeadSizes.l1 k a e e ⟨#[]⟩ 0 = some true := by
  have hm : Int.tmod a 9 = Int.tmod ((a.toNat % 9 : Nat) : Int) 9 := by
    rw [Int.tmod_eq_emod_of_nonneg h0, Int.tmod_eq_emod_of_nonneg (by omega)]; omega
  rw [l1_mod hm]
  have hu : ∀ j, tolllaw18_HeadSizes.l1 400 ((a.toNat % 9 : Nat) : Int) j j ⟨#[]⟩ 0 = some true → tolllaw18_HeadSizes.l1 k ((a.toNat % 9 : Nat) : Int) j j ⟨#[]⟩ 0 = some true := fun j h => upTo (F := fun k => tolllaw18_HeadSizes.l1 k ((a.toNat % 9 : Nat) : Int) j j ⟨#[]⟩ 0) (fun k => (tolllaw18_HeadSizes.mono_l k).2.2.2.2 _ _ _ _ _) h hk
  rcases he with rfl | rfl
  · exact hu 5 (tails5 ⟨a.toNat % 9, Nat.mod_lt _ (by decide)⟩)
  · exact hu 8 (tails8 ⟨a.toNat % 9, Nat.mod_lt _ (by decide)⟩)
theorem no_end (l : List UInt8) (h : ∀ x ∈ l, x ≠ 13) : Go.Lib.index l [13, 10, 13, 10] = -1 := by
  refine Go.Lib.index_none fun j hj => ?_
  unfold Go.Lib.occAt
  cases hd : l.drop j with
  | nil => rfl
  | cons x t =>
    have hx : x ∈ l := List.mem_of_mem_drop (by rw [hd]; exact List.mem_cons_self)
    have : ((13 : UInt8) == x) = false := beq_eq_false_iff_ne.2 (fun e => h x hx e.symm)
    simp [List.isPrefixOf, this]
theorem parse_none (s : ByteArray) (h : ∀ x ∈ os s, x ≠ 13) (hs : s.size ≤ 2000) (k : Nat) : ∃ q, head_Parse.f (k + 1) s = some (⟨#[]⟩, ⟨#[]⟩, ⟨#[]⟩, [], [], q, if (s.size : Int) ≥ 1000 then 5 else 8) := by
  have hmn : 0 ≤ mn (s.size : Int) 1000 ∧ mn (s.size : Int) 1000 ≤ (s.size : Int) := by unfold mn; constructor <;> split <;> omega
  have hz : (s.extract 0 (mn (s.size : Int) 1000 : Int).toNat).size < 4294967281 := by rw [ByteArray.size_extract]; omega
  have hi : Go.Lib.index (s.extract 0 (mn (s.size : Int) 1000 : Int).toNat).data.toList (⟨#[13, 10, 13, 10]⟩ : ByteArray).data.toList = -1 := no_end _ (fun x hx => h x (by
    have e : os (s.extract 0 (mn (s.size : Int) 1000 : Int).toNat) = _ := os_extract s 0 _
    rw [show (s.extract 0 (mn (s.size : Int) 1000 : Int).toNat).data.toList = os (s.extract 0 (mn (s.size : Int) 1000 : Int).toNat) from rfl, e] at hx
    exact List.mem_of_mem_drop (List.mem_of_mem_take hx)))
  unfold head_Parse.f strings_IndexM.f
  rw [if_pos hmn.1, if_pos hmn.2, if_pos hz, Option.bind_some, hi, if_pos (by decide), head_Parse.j0]
  by_cases c : (s.size : Int) ≥ 1000
  · rw [decide_eq_true c, if_pos rfl, if_pos c]; exact ⟨_, rfl⟩
  · rw [decide_eq_false c, if_neg (by decide), if_pos (by decide), if_neg c]; exact ⟨_, rfl⟩
theorem fill_ (c x2 : Int) (N : Nat) (hN : N ≤ 1100) : ∀ (d i k : Nat), N - i = d → i ≤ N → tolllaw18_HeadSizes.l0 (k + d) c x2 (N : Int) (List.replicate i c ++ List.replicate (N - i) 0) (i : Int) = tolllaw18_HeadSizes.l0 k c x2 (N : Int) (List.replicate N c) (N : Int)
  | 0, i, k, h, hi => by
    obtain rfl : i = N := by omega
    rw [Nat.sub_self, List.replicate_zero, List.append_nil]; rfl
  | d + 1, i, k, h, hi => by
    have ih := fill_ c x2 N hN d (i + 1) k (by omega) (by omega)
    rw [show k + (d + 1) = (k + d) + 1 by omega, tolllaw18_HeadSizes.l0, if_pos (by omega), if_pos (by omega), if_pos (by rw [List.length_append, List.length_replicate, List.length_replicate]; omega), wrap64_id (by omega) (by omega), show (i : Int) + 1 = ((i + 1 : Nat) : Int) by omega, ← ih]
    congr 1
    rw [Int.toNat_natCast, List.set_append_right _ _ (by rw [List.length_replicate]; exact Nat.le_refl _), List.length_replicate, Nat.sub_self, show N - i = (N - (i + 1)) + 1 by omega, List.replicate_succ, List.set_cons_zero, List.replicate_succ', List.append_assoc]
    rfl
theorem HeadSizes : tolllaw18_HeadSizes.Pure := by
  intro a0 a1 a2 h0 h1 h2
  have b0 : 0 ≤ a0 ∧ a0 ≤ 65535 := by simp [Lit.wf, IntKind.min, IntKind.max, IntKind.signed, IntKind.bits] at h0; omega
  have b1 : 0 ≤ a1 ∧ a1 ≤ 255 := by simp [Lit.wf, IntKind.min, IntKind.max, IntKind.signed, IntKind.bits] at h1; omega
  have b2 : 0 ≤ a2 ∧ a2 ≤ 255 := by simp [Lit.wf, IntKind.min, IntKind.max, IntKind.signed, IntKind.bits] at h2; omega
  have main : ∀ c : Int, 0 ≤ c → c ≤ 255 → c ≠ 13 → tolllaw18_HeadSizes.j1 3999 a0 c a2 = some true := by
    intro c c0 c1 c2
    obtain ⟨N, hN, hNl⟩ : ∃ N : Nat, Int.tmod (wrap64 a0) 1100 = (N : Int) ∧ N ≤ 1100 := by
      rw [wrap64_id (by omega) (by omega), Int.tmod_eq_emod_of_nonneg b0.1]
      exact ⟨(a0 % 1100).toNat, by omega, by omega⟩
    have hf := fill_ c a2 N hNl N 0 (3998 - N) (by omega) (by omega)
    rw [List.replicate_zero, List.nil_append, Nat.sub_zero, show 3998 - N + N = 3998 by omega] at hf
    rw [show (3999 : Nat) = 3998 + 1 from rfl, tolllaw18_HeadSizes.j1, hN, if_pos (by omega), Int.toNat_natCast, if_pos (by omega)]
    refine Eq.trans hf ?_
    obtain ⟨k, hk⟩ : ∃ k, 3998 - N = k + 3 := ⟨3998 - N - 3, by omega⟩
    have hk2 : 2000 ≤ k := by omega
    rw [hk, show k + 3 = (k + 2) + 1 from rfl, tolllaw18_HeadSizes.l0, if_neg (by omega)]
    have hos : os (strOfNums (List.replicate N c)) = List.replicate N (UInt8.ofNat c.toNat) := by
      show (List.map (fun n : Int => UInt8.ofNat n.toNat) (List.replicate N c)) = _
      rw [List.map_replicate]
    have hsz : (strOfNums (List.replicate N c)).size = N := by rw [size_os, hos, List.length_replicate]
    have hne : UInt8.ofNat c.toNat ≠ 13 := fun e => by
      have := congrArg UInt8.toNat e
      rw [UInt8.toNat_ofNat'] at this
      have h13 : (13 : UInt8).toNat = 13 := rfl
      rw [h13] at this
      omega
    obtain ⟨q, hp⟩ := parse_none (strOfNums (List.replicate N c)) (fun x hx => by
      rw [hos] at hx
      rw [List.eq_of_mem_replicate hx]; exact hne) (by omega) (k + 1)
    rw [show k + 2 = (k + 1) + 1 from rfl, hp, Option.bind_some, hsz]
    by_cases hc : (N : Int) ≥ 1000
    · rw [if_pos hc, tolllaw18_HeadSizes.j3]
      show tolllaw18_HeadSizes.l1 (k + 1) a2 (if (N : Int) ≥ 1000 then 5 else 8) 5 ⟨#[]⟩ 0 = _
      rw [if_pos hc]
      exact tail_ 5 (.inl rfl) a2 b2.1 _ (by omega)
    · rw [if_neg hc, tolllaw18_HeadSizes.j3]
      show tolllaw18_HeadSizes.l1 (k + 1) a2 (if (N : Int) ≥ 1000 then 5 else 8) 8 ⟨#[]⟩ 0 = _
      rw [if_neg hc]
      exact tail_ 8 (.inr rfl) a2 b2.1 _ (by omega)
  refine ⟨4000, ?_⟩
  unfold tolllaw18_HeadSizes.f
  by_cases e : a1 = 13
  · rw [if_pos e, show (4000 : Nat) = 3999 + 1 from rfl, tolllaw18_HeadSizes.j0, if_pos rfl]
    exact main 120 (by decide) (by decide) (by decide)
  · rw [if_neg e, show (4000 : Nat) = 3999 + 1 from rfl, tolllaw18_HeadSizes.j0]
    by_cases e2 : (a1 == 10) = true
    · rw [if_pos e2]; exact main 120 (by decide) (by decide) (by decide)
    · rw [if_neg e2]; exact main a1 b1.1 b1.2 e
end Go.Proofs.YtpmllmfamjpinaaDoor.Pure
