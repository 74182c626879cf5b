/- FilterPaths: what a path becomes; no condition beyond the statement's. -/
import Derived.Test.YtfdopmjgiakcdaaGreatDoorKFilterPaths
import Derived.Test.YtfdopmjgiakcdaaGreatDoorPx0
import Derived.Test.YtfdopmjgiakcdaaGreatDoorPx10
import Derived.Test.YtfdopmjgiakcdaaGreatDoorPx28
namespace Go.Proofs.YtfdopmjgiakcdaaGreatDoor.Pure
open Go Go.RowKit Go.Proofs.YtfdopmjgiakcdaaGreatDoor.P Go.Proofs.YtfdopmjgiakcdaaGreatDoor.L Go.Proofs.YtfdopmjgiakcdaaGreatDoorW.PrintWords Go.Proofs.YtfdopmjgiakcdaaGreatDoorW.PrintLast
theorem tail_form {p s : List UInt8} (h : holdsP 2 p s = true) : (tailP p s = [] ∨ ∃ r, tailP p s = 47 :: r) ∧ (tailP p s).length ≤ 60 := by
  obtain ⟨_, hs, h3⟩ := holdsP_cases h
  have hl := (isPath_len hs).2
  have htl : (tailP p s).length ≤ 60 := by
    unfold tailP
    repeat' split
    all_goals first | (simp; done) | omega | (rw [List.length_drop]; omega)
  refine ⟨?_, htl⟩
  unfold tailP
  by_cases h1 : p = [47]
  · rw [if_pos h1]
    by_cases h2 : s = [47]
    · rw [if_pos h2]; exact .inl rfl
    · rw [if_neg h2]; exact .inr (isPath_head hs)
  · rw [if_neg h1]
    rcases h3 with h3 | ⟨_, h3 | ⟨r, h3⟩⟩
    · rw [h3, List.drop_length]; exact .inl rfl
    · exact absurd h3 h1
    · refine .inr ⟨r, ?_⟩
      rw [← h3, List.append_assoc, List.drop_left]
      rfl
/-- What is asked of a path that was swapped. -/
noncomputable def okPath (x : FT) (pk : Int) (s t : List UInt8) : Prop :=
  (∃ r, t = 47 :: r) ∧ t.length ≤ 60 ∧ (if os x.f5 = [] then t = s else if x.f6 = true ∨ pk = 1 then t = os x.f5 else os x.f5 = [47] ∨ t = os x.f5 ∨ ((os x.f5).length < t.length ∧ t.take ((os x.f5).length + 1) = os x.f5 ++ [47]))
theorem bec_ok (x : FT) (pk : Int) (pv s : ByteArray) (ht : turnsF x = true) (hh : holdsP pk (os pv) (os s) = true) (he : (becB x pk pv s).2 = 0) : okPath x pk (os s) (os (becB x pk pv s).1) := by
  have hs := (holdsP_cases hh).2.1
  unfold okPath
  unfold becB at he ⊢
  unfold turnsF at ht
  rw [Bool.and_eq_true] at ht
  have ht2 := ht.2
  clear ht
  by_cases h5 : os x.f5 = []
  · rw [if_pos h5, if_pos h5]
    exact ⟨isPath_head hs, (isPath_len hs).2, rfl⟩
  · rw [if_neg h5] at he ht2
    rw [if_neg h5, if_neg h5]
    have hp5 : isPath (os x.f5) = true := by
      by_cases h6 : x.f6 = true
      · rw [if_pos h6] at ht2; exact ht2
      · rw [if_neg h6] at ht2; exact above_path ht2
    by_cases h6 : x.f6 = true ∨ pk = 1
    · rw [if_pos h6, if_pos h6]
      exact ⟨isPath_head hp5, (isPath_len hp5).2, rfl⟩
    · rw [if_neg h6] at he
      rw [if_neg h6, if_neg h6]
      have he' : (swapP pk (os pv) (os x.f5) (os s)).2 = 0 := he
      show (∃ r, (swapP pk (os pv) (os x.f5) (os s)).1 = 47 :: r) ∧ (swapP pk (os pv) (os x.f5) (os s)).1.length ≤ 60 ∧ (os x.f5 = [47] ∨ (swapP pk (os pv) (os x.f5) (os s)).1 = os x.f5 ∨ ((os x.f5).length < (swapP pk (os pv) (os x.f5) (os s)).1.length ∧ (swapP pk (os pv) (os x.f5) (os s)).1.take ((os x.f5).length + 1) = os x.f5 ++ [47]))
      clear he
      generalize os x.f5 = w at *
      generalize os pv = p at *
      generalize os s = t at *
      unfold swapP at he' ⊢
      by_cases hc : pk = 2 ∧ holdsP pk p t = true ∧ above w = true
      · rw [if_pos hc] at he' ⊢
        obtain ⟨rfl, _, _⟩ := hc
        obtain ⟨htf, htl⟩ := tail_form hh
        by_cases hw : w = [47]
        · rw [if_pos hw]
          rcases htf with h0 | ⟨r, h0⟩
          · rw [if_pos h0]; exact ⟨⟨[], rfl⟩, by decide, .inl hw⟩
          · rw [if_neg (by rw [h0]; simp)]
            exact ⟨⟨r, h0⟩, htl, .inl hw⟩
        · rw [if_neg hw] at he' ⊢
          by_cases hl : w.length + (tailP p t).length > 60
          · rw [if_pos hl] at he'; cases he'
          · rw [if_neg hl]
            obtain ⟨wr, hwr⟩ := isPath_head hp5
            refine ⟨⟨wr ++ tailP p t, by rw [hwr]; rfl⟩, by rw [List.length_append]; omega, .inr ?_⟩
            rcases htf with h0 | ⟨r, h0⟩
            · exact .inl (by show w ++ tailP p t = w; rw [h0, List.append_nil])
            · refine .inr ⟨by show w.length < (w ++ tailP p t).length; rw [List.length_append, h0, List.length_cons]; omega, ?_⟩
              show (w ++ tailP p t).take (w.length + 1) = w ++ [47]
              rw [h0, show w ++ 47 :: r = (w ++ [47]) ++ r by simp, List.take_left' (by simp)]
      · rw [if_neg hc] at he'; cases he'
theorem paths_j3 (x : FT) (hx : SF x) (m h1 t : ByteArray) (q hd : List PT) (k : Nat) (hk : 3000 ≤ k) (b : Bool) (hb1 : b = true → os t = os x.f5) (hb2 : b = false → os x.f5 = [47] ∨ os t = os x.f5 ∨ ((os x.f5).length < (os t).length ∧ (os t).take ((os x.f5).length + 1) = os x.f5 ++ [47])) (_hl : (os t).length ≤ 60) :
    tolllaw07_FilterPaths.j3 (k + 1) b x.f0 x.f1 x.f2 x.f3 x.f4 x.f5 x.f6 x.f7 m h1 t q hd = some true := by
  have aw : (tolllaw07_awake.f k).bind (fun t => some t) = some true := by rw [filter_awake k hk, Option.bind_some]
  have hs5 := size_os x.f5
  have hst := size_os t
  have hx5 := hx.2.2.2
  have hcat : (x.f5 ++ (⟨#[47]⟩ : ByteArray)).toList = os x.f5 ++ [47] := by rw [toList_os, os_append]
  have hext : (t.extract 0 (x.f5.size + 1)).toList = (os t).take ((os x.f5).length + 1) := by rw [toList_os, os_extract, List.drop_zero, Nat.sub_zero, hs5]
  have hw : wrap64 ((x.f5.size : Int) + 1) = ((x.f5.size + 1 : Nat) : Int) := by rw [wrap64_id (by omega) (by omega)]; omega
  rw [tolllaw07_FilterPaths.j3, aw, hw, Int.toNat_natCast, hext, hcat, toList_os, toList_os]
  cases b with
  | true => rw [if_pos rfl, if_pos (hb1 rfl)]
  | false =>
    rw [if_neg (show ¬ (false = true) by decide)]
    by_cases w1 : os x.f5 = [47]
    · rw [if_pos w1]
    rw [if_neg w1]
    by_cases w2 : os t = os x.f5
    · rw [if_pos w2]
    rw [if_neg w2]
    rcases hb2 rfl with h_ | h_ | ⟨h1, h2⟩
    · exact absurd h_ w1
    · exact absurd h_ w2
    · rw [if_pos (by omega), if_pos (by omega), if_pos (by omega), if_pos (by omega), if_pos h2]
theorem paths_j0 (x : FT) (hx : SF x) (pk : Int) (pv m h p : ByteArray) (q hd : List PT) (hp : (os pv).length ≤ 100) (hs : (os p).length ≤ 100) (hd1 : Small 31 hd) (k : Nat) (hk : 4000 ≤ k) :
    tolllaw07_FilterPaths.j0 k x.f0 x.f1 x.f2 x.f3 x.f4 x.f5 x.f6 x.f7 pk pv m h p q hd = some true := by
  obtain ⟨k, rfl⟩ : ∃ n, k = n + 4 := ⟨k - 4, by omega⟩
  have aw : ∀ j, 3000 ≤ j → (tolllaw07_awake.f j).bind (fun t => some t) = some true := fun j hj => by rw [filter_awake j hj, Option.bind_some]
  rw [tolllaw07_FilterPaths.j0]
  by_cases h5 : x.f0 = 5
  · rw [if_pos h5, show (⟨x.f0, x.f1, x.f2, x.f3, x.f4, x.f5, x.f6, x.f7⟩ : FT) = x from rfl, do_p [x] pk pv m h p q hd (fun y hy => by rw [List.mem_singleton.1 hy]; exact hx) (by simp) hp hs (by omega) hd1 _ (by omega), Option.bind_some]
    rcases doP_two [x] pk pv m h p q hd with ⟨e, he, hd2⟩ | ⟨ha, hh, hd2, h0⟩
    · rw [hd2, errD_err, if_neg he, if_pos (by unfold errD; rw [toList_os]), aw _ (by omega)]
    · rw [allF_one] at ha
      rw [hd2, h0, if_pos rfl]
      have hst : stepB pk pv x (h, p, hd) = ((if os x.f3 = [] then h else x.f3, (becB x pk pv p).1, hd), (becB x pk pv p).2) := by
        unfold stepB
        rw [if_neg (by omega), if_neg (by omega), if_neg (by omega), if_neg (by omega)]
      have hg : goD pk pv m q (h, p, hd) [x] = (m, (if os x.f3 = [] then h else x.f3), (becB x pk pv p).1, q, hd, 0) ∧ (becB x pk pv p).2 = 0 := by
        unfold goD at h0 ⊢
        rw [hst] at h0 ⊢
        by_cases hb : (becB x pk pv p).2 = 0
        · rw [if_pos hb] at h0 ⊢
          unfold goD at h0 ⊢
          by_cases hl : hd.length > 30
          · rw [if_pos hl] at h0; cases h0
          · rw [if_neg hl]; exact ⟨rfl, hb⟩
        · rw [if_neg hb] at h0; exact absurd h0 hb
      obtain ⟨hg, hb⟩ := hg
      rw [hg]
      have htf : turnsF x = true := by
        unfold mayF mayJ at ha
        rw [h5, if_neg (by decide), if_neg (by decide), if_neg (by decide), if_pos rfl] at ha
        simp only [Bool.and_eq_true] at ha
        exact ha.2.1
      obtain ⟨⟨r, hr⟩, hlen, hok⟩ := bec_ok x pk pv p htf hh hb
      generalize (becB x pk pv p).1 = t at *
      have hsz := size_os t
      have hl1 : (os t).length = r.length + 1 := by rw [hr, List.length_cons]
      have hj : ∀ z : ByteArray, z.toList = (if os x.f3 = [] then h else x.f3).toList → tolllaw07_FilterPaths.j1 (k + 3) z x.f0 x.f1 x.f2 x.f3 x.f4 x.f5 x.f6 x.f7 pk pv m h p q hd m (if os x.f3 = [] then h else x.f3) t q hd = some true := by
        intro z hz
        rw [tolllaw07_FilterPaths.j1, if_pos hz.symm, if_neg (by omega), if_pos (by omega), if_pos (by rw [show (0 : Int) = ((0 : Nat) : Int) from rfl, bt_os, hr]; rfl), tolllaw07_FilterPaths.j2, if_neg (by simp; omega)]
        simp only [toList_os]
        by_cases h5e : os x.f5 = []
        · rw [if_pos h5e] at hok
          rw [if_pos h5e, if_pos hok, aw _ (by omega)]
        · rw [if_neg h5e] at hok
          rw [if_neg h5e]
          have J3 := fun b h1 h2 => paths_j3 x hx m (if os x.f3 = [] then h else x.f3) t q hd k (by omega) b h1 h2 (by omega)
          by_cases h6 : x.f6 = true
          · rw [if_pos h6]
            exact J3 true (fun _ => by rw [if_pos (.inl h6)] at hok; exact hok) (fun h => by cases h)
          · rw [if_neg h6]
            by_cases hk1 : pk = 1
            · refine J3 _ (fun _ => by rw [if_pos (.inr hk1)] at hok; exact hok) (fun h => by simp [hk1] at h)
            · refine J3 _ (fun h => absurd (beq_iff_eq.1 h) hk1) (fun _ => by rw [if_neg (fun h => h.elim h6 hk1)] at hok; exact hok)
      simp only [toList_os] at hj ⊢
      by_cases h3 : os x.f3 = []
      · rw [if_pos h3]; exact hj h (by rw [if_pos h3])
      · rw [if_neg h3]; exact hj x.f3 (by rw [if_neg h3])
  · rw [if_neg h5, aw _ (by omega)]
theorem FilterPaths : tolllaw07_FilterPaths.Pure := by
  intro a0 a1 a2 a3 a4 a5 a6 a7 b0 b1 c0 c1 c2 l3 l4 _ _ _
  refine ⟨8000, ?_⟩
  unfold tolllaw07_FilterPaths.f
  rw [fewF_eq _ _ (by omega), Option.bind_some, show fewF [(⟨a0, a1, a2, a3, a4, a5, a6, a7⟩ : FT)] = [fewF1 ⟨a0, a1, a2, a3, a4, a5, a6, a7⟩] from rfl]
  have hx := fewF1_small (⟨a0, a1, a2, a3, a4, a5, a6, a7⟩ : FT)
  generalize fewF1 (⟨a0, a1, a2, a3, a4, a5, a6, a7⟩ : FT) = x at hx
  rw [if_pos (by simp), few3_p, Option.bind_some, asked_p _ _ _ _ _ _ (by omega), Option.bind_some, show rd_T26 [x] 0 = x from rfl]
  exact paths_j0 x hx b0 (few b1) (few c0) (few c1) (few c2) (fewL l3) (fewL l4) (few_len _) (few_len _) (fewL_small _) _ (by omega)
end Go.Proofs.YtfdopmjgiakcdaaGreatDoor.Pure
