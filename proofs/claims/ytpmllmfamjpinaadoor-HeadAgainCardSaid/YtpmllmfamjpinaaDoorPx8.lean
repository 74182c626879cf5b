-- written by wip/tool/hprint.py of this repo: the kit's print, with contracts by hand joined; Lean checks it.
import Derived.Test.YtpmllmfamjpinaaDoorPx0
import Derived.Test.YtpmllmfamjpinaaDoorPx2
import Derived.Test.YtpmllmfamjpinaaDoorPx5
import Derived.Test.YtpmllmfamjpinaaDoorPx6
import Derived.Test.YtpmllmfamjpinaaDoorPx7
namespace Go.Proofs.YtpmllmfamjpinaaDoor.P
open Go.RowKit Go.Proofs.YtpmllmfamjpinaaDoorW.PrintWords Go.Proofs.YtpmllmfamjpinaaDoorW.PrintLast Go.Proofs.YtpmllmfamjpinaaDoorW.PrintMore
attribute [local go_sem] max2_int min2_int max_two min_two max_three min_three max_four min_four   -- for this text's walks alone
set_option linter.unusedVariables false
set_option linter.unusedSimpArgs false

/-! ### tolllaw18_awake: function 11 -/
def tolllaw18_awake.f (k : Nat)  : Option (Bool) := (head_Parse.f k (⟨#[71, 69, 84, 32, 47, 97, 63, 98, 61, 49, 32, 72, 84, 84, 80, 47, 49, 46, 49, 13, 10, 72, 111, 115, 116, 58, 32, 65, 46, 116, 101, 115, 116, 58, 56, 48, 13, 10, 13, 10]⟩ : ByteArray)).bind fun bt203 => ((head_Parse.f k (⟨#[71, 69, 84, 32, 47, 32, 72, 84, 84, 80, 47, 49, 46, 49, 13, 10, 13, 10]⟩ : ByteArray)).bind fun bt215 => ((head_Parse.f k (⟨#[71, 69, 84, 32, 47, 32, 72, 84, 84, 80, 47, 49, 46, 49, 13, 10, 72, 111, 115, 116, 58, 32, 97, 13, 10]⟩ : ByteArray)).bind fun bt227 => ((tollref07_SameAsk.f k bt203.1 bt203.2.1 bt203.2.2.1 bt203.2.2.2.1 bt203.2.2.2.2.1 (⟨#[71, 69, 84]⟩ : ByteArray) (⟨#[97, 46, 116, 101, 115, 116]⟩ : ByteArray) (⟨#[47, 97]⟩ : ByteArray) (([(⟨(⟨#[98]⟩ : ByteArray), (⟨#[49]⟩ : ByteArray)⟩ : S35)] : List (S35))) (([(⟨(⟨#[72, 111, 115, 116]⟩ : ByteArray), (⟨#[65, 46, 116, 101, 115, 116, 58, 56, 48]⟩ : ByteArray)⟩ : S35)] : List (S35)))).bind fun t246 => (if t246 = true then (if bt203.2.2.2.2.2.1 = 40 then (if bt203.2.2.2.2.2.2 = 0 then (if bt215.2.2.2.2.2.2 = 2 then (if bt227.2.2.2.2.2.2 = 8 then (some true) else (none)) else (none)) else (none)) else (none)) else (none)))))
theorem tolllaw18_awake.mono : ∀ k, LeO (tolllaw18_awake.f k ) (tolllaw18_awake.f (k + 1) ) := by
 intro  k
 unfold tolllaw18_awake.f
 repeat' first
   | (with_reducible exact head_Parse.mono _ _)
   | (with_reducible exact tollref07_SameAsk.mono _ _ _ _ _ _ _ _ _ _ _)
   | (with_reducible exact LeO.refl _)
   | (with_reducible exact LeO.none _)
   | (with_reducible refine LeO.ite ?_ ?_)
   | (with_reducible refine LeO.bind ?_ (fun _ => ?_))
   | exact head_Parse.mono _ _
   | exact tollref07_SameAsk.mono _ _ _ _ _ _ _ _ _ _ _
   | exact LeO.none _
   | refine LeO.ite ?_ ?_
   | refine LeO.bind ?_ (fun _ => ?_)
set_option maxHeartbeats 6000000 in
set_option maxRecDepth 100000 in
theorem tolllaw18_awake.calls (k : Nat)  (r : Bool) (w : World) (hG : MaxL w) (h : tolllaw18_awake.f k  = some r) :
  Calls Tryd.prog 11 #[] w fun e w' => e = .returned (.bool r) ∧ Below w.heap.size w w' := by
 have HGL := am_ hG
 clear hG
 have hu26 := Tryd.underlying26
 have hu35 := Tryd.underlying35
 have HB := am_ (Below.refl w.heap.size w)
 have H : ((head_Parse.f k (⟨#[71, 69, 84, 32, 47, 97, 63, 98, 61, 49, 32, 72, 84, 84, 80, 47, 49, 46, 49, 13, 10, 72, 111, 115, 116, 58, 32, 65, 46, 116, 101, 115, 116, 58, 56, 48, 13, 10, 13, 10]⟩ : ByteArray)).bind fun bt203 => ((head_Parse.f k (⟨#[71, 69, 84, 32, 47, 32, 72, 84, 84, 80, 47, 49, 46, 49, 13, 10, 13, 10]⟩ : ByteArray)).bind fun bt215 => ((head_Parse.f k (⟨#[71, 69, 84, 32, 47, 32, 72, 84, 84, 80, 47, 49, 46, 49, 13, 10, 72, 111, 115, 116, 58, 32, 97, 13, 10]⟩ : ByteArray)).bind fun bt227 => ((tollref07_SameAsk.f k bt203.1 bt203.2.1 bt203.2.2.1 bt203.2.2.2.1 bt203.2.2.2.2.1 (⟨#[71, 69, 84]⟩ : ByteArray) (⟨#[97, 46, 116, 101, 115, 116]⟩ : ByteArray) (⟨#[47, 97]⟩ : ByteArray) (([(⟨(⟨#[98]⟩ : ByteArray), (⟨#[49]⟩ : ByteArray)⟩ : S35)] : List (S35))) (([(⟨(⟨#[72, 111, 115, 116]⟩ : ByteArray), (⟨#[65, 46, 116, 101, 115, 116, 58, 56, 48]⟩ : ByteArray)⟩ : S35)] : List (S35)))).bind fun t246 => (if t246 = true then (if bt203.2.2.2.2.2.1 = 40 then (if bt203.2.2.2.2.2.2 = 0 then (if bt215.2.2.2.2.2.2 = 2 then (if bt227.2.2.2.2.2.2 = 8 then (some true) else (none)) else (none)) else (none)) else (none)) else (none)))))) = some r := h
 clear h
 replace H := Option.bind_eq_some_iff.mp H
 obtain ⟨⟨t203, t204, t205, t206, t209, t212, t213⟩, A10, H⟩ := H
 replace H : ((head_Parse.f k (⟨#[71, 69, 84, 32, 47, 32, 72, 84, 84, 80, 47, 49, 46, 49, 13, 10, 13, 10]⟩ : ByteArray)).bind fun bt215 => ((head_Parse.f k (⟨#[71, 69, 84, 32, 47, 32, 72, 84, 84, 80, 47, 49, 46, 49, 13, 10, 72, 111, 115, 116, 58, 32, 97, 13, 10]⟩ : ByteArray)).bind fun bt227 => ((tollref07_SameAsk.f k t203 t204 t205 t206 t209 (⟨#[71, 69, 84]⟩ : ByteArray) (⟨#[97, 46, 116, 101, 115, 116]⟩ : ByteArray) (⟨#[47, 97]⟩ : ByteArray) (([(⟨(⟨#[98]⟩ : ByteArray), (⟨#[49]⟩ : ByteArray)⟩ : S35)] : List (S35))) (([(⟨(⟨#[72, 111, 115, 116]⟩ : ByteArray), (⟨#[65, 46, 116, 101, 115, 116, 58, 56, 48]⟩ : ByteArray)⟩ : S35)] : List (S35)))).bind fun t246 => (if t246 = true then (if t212 = 40 then (if t213 = 0 then (if bt215.2.2.2.2.2.2 = 2 then (if bt227.2.2.2.2.2.2 = 8 then (some true) else (none)) else (none)) else (none)) else (none)) else (none))))) = some r := H
 have A1 := Aside0.mk A10
 clear A10
 replace H := Option.bind_eq_some_iff.mp H
 obtain ⟨⟨t215, t216, t217, t218, t221, t224, t225⟩, A20, H⟩ := H
 replace H : ((head_Parse.f k (⟨#[71, 69, 84, 32, 47, 32, 72, 84, 84, 80, 47, 49, 46, 49, 13, 10, 72, 111, 115, 116, 58, 32, 97, 13, 10]⟩ : ByteArray)).bind fun bt227 => ((tollref07_SameAsk.f k t203 t204 t205 t206 t209 (⟨#[71, 69, 84]⟩ : ByteArray) (⟨#[97, 46, 116, 101, 115, 116]⟩ : ByteArray) (⟨#[47, 97]⟩ : ByteArray) (([(⟨(⟨#[98]⟩ : ByteArray), (⟨#[49]⟩ : ByteArray)⟩ : S35)] : List (S35))) (([(⟨(⟨#[72, 111, 115, 116]⟩ : ByteArray), (⟨#[65, 46, 116, 101, 115, 116, 58, 56, 48]⟩ : ByteArray)⟩ : S35)] : List (S35)))).bind fun t246 => (if t246 = true then (if t212 = 40 then (if t213 = 0 then (if t225 = 2 then (if bt227.2.2.2.2.2.2 = 8 then (some true) else (none)) else (none)) else (none)) else (none)) else (none)))) = some r := H
 have A2 := Aside0.mk A20
 clear A20
 replace H := Option.bind_eq_some_iff.mp H
 obtain ⟨⟨t227, t228, t229, t230, t233, t236, t237⟩, A30, H⟩ := H
 replace H : ((tollref07_SameAsk.f k t203 t204 t205 t206 t209 (⟨#[71, 69, 84]⟩ : ByteArray) (⟨#[97, 46, 116, 101, 115, 116]⟩ : ByteArray) (⟨#[47, 97]⟩ : ByteArray) (([(⟨(⟨#[98]⟩ : ByteArray), (⟨#[49]⟩ : ByteArray)⟩ : S35)] : List (S35))) (([(⟨(⟨#[72, 111, 115, 116]⟩ : ByteArray), (⟨#[65, 46, 116, 101, 115, 116, 58, 56, 48]⟩ : ByteArray)⟩ : S35)] : List (S35)))).bind fun t246 => (if t246 = true then (if t212 = 40 then (if t213 = 0 then (if t225 = 2 then (if t237 = 8 then (some true) else (none)) else (none)) else (none)) else (none)) else (none))) = some r := H
 have A3 := Aside0.mk A30
 clear A30
 obtain ⟨y239, hy239⟩ : ∃ y_ : List (S35), y_ = (([(⟨(⟨#[98]⟩ : ByteArray), (⟨#[49]⟩ : ByteArray)⟩ : S35)] : List (S35))) := ⟨_, rfl⟩
 replace H : ((tollref07_SameAsk.f k t203 t204 t205 t206 t209 (⟨#[71, 69, 84]⟩ : ByteArray) (⟨#[97, 46, 116, 101, 115, 116]⟩ : ByteArray) (⟨#[47, 97]⟩ : ByteArray) y239 (([(⟨(⟨#[72, 111, 115, 116]⟩ : ByteArray), (⟨#[65, 46, 116, 101, 115, 116, 58, 56, 48]⟩ : ByteArray)⟩ : S35)] : List (S35)))).bind fun t246 => (if t246 = true then (if t212 = 40 then (if t213 = 0 then (if t225 = 2 then (if t237 = 8 then (some true) else (none)) else (none)) else (none)) else (none)) else (none))) = some r := by first | (rw [hy239]; with_reducible exact H) | (have H2_ := (Option.bind_some _ _).symm.trans H; rw [hy239]; with_reducible exact H2_) | (have H2_ := (Option.bind_some _ _).symm.trans H; with_reducible exact H2_) | with_reducible exact H | (rw [hy239]; exact H) | exact H
 have Ny239 := Aside0.mk hy239
 clear hy239
 obtain ⟨y242, hy242⟩ : ∃ y_ : List (S35), y_ = (([(⟨(⟨#[72, 111, 115, 116]⟩ : ByteArray), (⟨#[65, 46, 116, 101, 115, 116, 58, 56, 48]⟩ : ByteArray)⟩ : S35)] : List (S35))) := ⟨_, rfl⟩
 replace H : ((tollref07_SameAsk.f k t203 t204 t205 t206 t209 (⟨#[71, 69, 84]⟩ : ByteArray) (⟨#[97, 46, 116, 101, 115, 116]⟩ : ByteArray) (⟨#[47, 97]⟩ : ByteArray) y239 y242).bind fun t246 => (if t246 = true then (if t212 = 40 then (if t213 = 0 then (if t225 = 2 then (if t237 = 8 then (some true) else (none)) else (none)) else (none)) else (none)) else (none))) = some r := by first | (rw [hy242]; with_reducible exact H) | (have H2_ := (Option.bind_some _ _).symm.trans H; rw [hy242]; with_reducible exact H2_) | (have H2_ := (Option.bind_some _ _).symm.trans H; with_reducible exact H2_) | with_reducible exact H | (rw [hy242]; exact H) | exact H
 have Ny242 := Aside0.mk hy242
 clear hy242
 replace H := Option.bind_eq_some_iff.mp H
 obtain ⟨t246, A40, H⟩ := H
 replace H : (if t246 = true then (if t212 = 40 then (if t213 = 0 then (if t225 = 2 then (if t237 = 8 then (some true) else (none)) else (none)) else (none)) else (none)) else (none)) = some r := H
 have A4 := Aside0.mk A40
 clear A40
 by_cases c5 : t246 = true
 ·subst c5
  have H1 : (if t212 = 40 then (if t213 = 0 then (if t225 = 2 then (if t237 = 8 then (some true) else (none)) else (none)) else (none)) else (none)) = some r := by rw [if_pos rfl] at H; exact H
  clear H
  have H := H1
  clear H1
  by_cases c6 : t212 = 40
  ·rw [if_pos c6] at H
   have c6b0 : (t212 == 40) = true := beq_iff_eq.mpr c6
   have c6b1 : (t212 != 40) = false := bne_eq_false_iff_eq.mpr c6
   clear c6
   by_cases c7 : t213 = 0
   ·rw [if_pos c7] at H
    have c7b0 : (t213 == 0) = true := beq_iff_eq.mpr c7
    have c7b1 : (t213 != 0) = false := bne_eq_false_iff_eq.mpr c7
    clear c7
    by_cases c8 : t225 = 2
    ·rw [if_pos c8] at H
     have c8b0 : (t225 == 2) = true := beq_iff_eq.mpr c8
     have c8b1 : (t225 != 2) = false := bne_eq_false_iff_eq.mpr c8
     clear c8
     by_cases c9 : t237 = 8
     ·rw [if_pos c9] at H
      have c9b0 : (t237 == 8) = true := beq_iff_eq.mpr c9
      have c9b1 : (t237 != 8) = false := bne_eq_false_iff_eq.mpr c9
      clear c9
      obtain rfl := Option.some.inj H
      go_enter Tryd.func11, Tryd.ntmps11
      go_wp2_with (first | ((with_reducible refine gate_callee (f := 9) rfl ?_); refine goesL_ (some 12) rfl rfl Tryd.func9 kr_ rfl #[.string (⟨#[71, 69, 84, 32, 47, 97, 63, 98, 61, 49, 32, 72, 84, 84, 80, 47, 49, 46, 49, 13, 10, 72, 111, 115, 116, 58, 32, 65, 46, 116, 101, 115, 116, 58, 56, 48, 13, 10, 13, 10]⟩ : ByteArray)] rfl rl_ ?_; (with_reducible refine (head_Parse.calls k (⟨#[71, 69, 84, 32, 47, 97, 63, 98, 61, 49, 32, 72, 84, 84, 80, 47, 49, 46, 49, 13, 10, 72, 111, 115, 116, 58, 32, 65, 46, 116, 101, 115, 116, 58, 56, 48, 13, 10, 13, 10]⟩ : ByteArray) t203 t204 t205 t206 t209 t212 t213 _ (gm_ HGL.out (bel_ HB.out)) A1.out).mono ?_); rintro e w10 ⟨v207, v210, rfl, ho0, ho1, hb⟩; refine ⟨_, rfl, ?_⟩; have n0_ := am_ (Kd.R_lower ho0 (below_size (bel_ HB.out))); have n1_ := am_ (Kd.R_lower ho1 (below_size (bel_ HB.out))); have n2_ := am_ (below_step (bel_ HB.out) hb); clear HB; have HO208 := n0_; have HO211 := n1_; have HB := n2_; clear n0_ n1_ n2_; (try clear hb); (try clear hb2); (try clear hk); (try clear hi); (try clear ho0); (try clear ho1)) | ((with_reducible refine gate_dst (N := 1) rfl ?_); refine box_event ?hg (N := 1) ?hd (cs := #[.string (⟨#[]⟩ : ByteArray), .string (⟨#[]⟩ : ByteArray), .string (⟨#[]⟩ : ByteArray), .slice none 0 0, .slice none 0 0]) (t := 26) ?hr ?_; (case hd => rfl); (case hg => rfl); (case hr => first | (go_simp; done) | (go_simp; rfl)); intro gb214 hg w11 hbox hb; have n0_ := am_ (Kd.R_below (R_ HO208.out) hb); have n1_ := am_ (Kd.R_below (R_ HO211.out) hb); have n2_ := am_ (below_step (bel_ HB.out) hb); have n3_ := am_ (hbox); have n4_ := am_ ((by rw [hg]; exact (below_size (bel_ HB.out)) : w.heap.size ≤ gb214)); have n5_ := am_ ((by rw [hg]; exact (below_size (bel_ HB.out)) : w.heap.size ≤ gb214)); clear HO208 HO211 HB; have HO208 := n0_; have HO211 := n1_; have HB := n2_; have BK214 := n3_; have GW214 := n4_; have GE214 := n5_; clear n0_ n1_ n2_ n3_ n4_ n5_ hb hbox hg; have hcz12_0 : w11.cell? ⟨gb214, 0, none⟩ = some (.string (⟨#[]⟩ : ByteArray)) := (blk_cell BK214.out 0).trans rfl; have hcz12_1 : w11.cell? ⟨gb214, 1, none⟩ = some (.string (⟨#[]⟩ : ByteArray)) := (blk_cell BK214.out 1).trans rfl; have hcz12_2 : w11.cell? ⟨gb214, 2, none⟩ = some (.string (⟨#[]⟩ : ByteArray)) := (blk_cell BK214.out 2).trans rfl; have hcz12_3 : w11.cell? ⟨gb214, 3, none⟩ = some (.slice none 0 0) := (blk_cell BK214.out 3).trans rfl; have hcz12_4 : w11.cell? ⟨gb214, 4, none⟩ = some (.slice none 0 0) := (blk_cell BK214.out 4).trans rfl; have hfz12_0 := blk_frozen BK214.out 0; have hfz12_1 := blk_frozen BK214.out 1; have hfz12_2 := blk_frozen BK214.out 2; have hfz12_3 := blk_frozen BK214.out 3; have hfz12_4 := blk_frozen BK214.out 4; obtain ⟨Ao13, co13, eo13⟩ := Kd.R_slice HO208.out; subst eo13; obtain ⟨Ao14, co14, eo14⟩ := Kd.R_slice HO211.out; subst eo14) | ((with_reducible refine gate_callee (f := 9) rfl ?_); refine goesL_ (some 17) rfl rfl Tryd.func9 kr_ rfl #[.string (⟨#[71, 69, 84, 32, 47, 32, 72, 84, 84, 80, 47, 49, 46, 49, 13, 10, 13, 10]⟩ : ByteArray)] rfl rl_ ?_; (with_reducible refine (head_Parse.calls k (⟨#[71, 69, 84, 32, 47, 32, 72, 84, 84, 80, 47, 49, 46, 49, 13, 10, 13, 10]⟩ : ByteArray) t215 t216 t217 t218 t221 t224 t225 _ (gm_ HGL.out (bel_ HB.out)) A2.out).mono ?_); rintro e w15 ⟨v219, v222, rfl, ho0, ho1, hb⟩; refine ⟨_, rfl, ?_⟩; have n0_ := am_ (Kd.R_mono (Kd.R_told (Kd.R_told (Kd.R_old (by (with_reducible repeat (first | apply Kd.R_alloc | apply Kd.R_drewN | apply Kd.R_drew)); exact (Kd.R_mono (Kd.R_far (p := ⟨gb214, 4, none⟩) (Kd.R_far (p := ⟨gb214, 3, none⟩) (Kd.R_far (p := ⟨gb214, 2, none⟩) (Kd.R_far (p := ⟨gb214, 1, none⟩) (Kd.R_far (p := ⟨gb214, 0, none⟩) (Kd.R_types HO208.out BK214.out (by decide)) (fun _ hk => hk.2) (.string t203)) (fun _ hk => hk.2) (.string t204)) (fun _ hk => hk.2) (.string t205)) (fun _ hk => hk.2) (.slice Ao13 t206.length co13)) (fun _ hk => hk.2) (.slice Ao14 t209.length co14)) (fun _ h_ => h_.1))) hb) (Kd.R_base ho0)) (Kd.R_base ho1)) (fun _ h_ => h_.1)); have n1_ := am_ (Kd.R_mono (Kd.R_told (Kd.R_told (Kd.R_old (by (with_reducible repeat (first | apply Kd.R_alloc | apply Kd.R_drewN | apply Kd.R_drew)); exact (Kd.R_mono (Kd.R_far (p := ⟨gb214, 4, none⟩) (Kd.R_far (p := ⟨gb214, 3, none⟩) (Kd.R_far (p := ⟨gb214, 2, none⟩) (Kd.R_far (p := ⟨gb214, 1, none⟩) (Kd.R_far (p := ⟨gb214, 0, none⟩) (Kd.R_types HO211.out BK214.out (by decide)) (fun _ hk => hk.2) (.string t203)) (fun _ hk => hk.2) (.string t204)) (fun _ hk => hk.2) (.string t205)) (fun _ hk => hk.2) (.slice Ao13 t206.length co13)) (fun _ hk => hk.2) (.slice Ao14 t209.length co14)) (fun _ h_ => h_.1))) hb) (Kd.R_base ho0)) (Kd.R_base ho1)) (fun _ h_ => h_.1)); have n2_ := am_ (Kd.R_lower (Kd.R_new' (Kd.R_new' ho0 (Kd.R_lt (by (with_reducible repeat (first | apply Kd.R_alloc | apply Kd.R_drewN | apply Kd.R_drew)); exact (Kd.R_mono (Kd.R_far (p := ⟨gb214, 4, none⟩) (Kd.R_far (p := ⟨gb214, 3, none⟩) (Kd.R_far (p := ⟨gb214, 2, none⟩) (Kd.R_far (p := ⟨gb214, 1, none⟩) (Kd.R_far (p := ⟨gb214, 0, none⟩) (Kd.R_types HO208.out BK214.out (by decide)) (fun _ hk => hk.2) (.string t203)) (fun _ hk => hk.2) (.string t204)) (fun _ hk => hk.2) (.string t205)) (fun _ hk => hk.2) (.slice Ao13 t206.length co13)) (fun _ hk => hk.2) (.slice Ao14 t209.length co14)) (fun _ h_ => h_.1))))) (Kd.R_lt (by (with_reducible repeat (first | apply Kd.R_alloc | apply Kd.R_drewN | apply Kd.R_drew)); exact (Kd.R_mono (Kd.R_far (p := ⟨gb214, 4, none⟩) (Kd.R_far (p := ⟨gb214, 3, none⟩) (Kd.R_far (p := ⟨gb214, 2, none⟩) (Kd.R_far (p := ⟨gb214, 1, none⟩) (Kd.R_far (p := ⟨gb214, 0, none⟩) (Kd.R_types HO211.out BK214.out (by decide)) (fun _ hk => hk.2) (.string t203)) (fun _ hk => hk.2) (.string t204)) (fun _ hk => hk.2) (.string t205)) (fun _ hk => hk.2) (.slice Ao13 t206.length co13)) (fun _ hk => hk.2) (.slice Ao14 t209.length co14)) (fun _ h_ => h_.1))))) (below_size (bel_ HB.out))); have n3_ := am_ (Kd.R_lower (Kd.R_new' (Kd.R_new' ho1 (Kd.R_lt (by (with_reducible repeat (first | apply Kd.R_alloc | apply Kd.R_drewN | apply Kd.R_drew)); exact (Kd.R_mono (Kd.R_far (p := ⟨gb214, 4, none⟩) (Kd.R_far (p := ⟨gb214, 3, none⟩) (Kd.R_far (p := ⟨gb214, 2, none⟩) (Kd.R_far (p := ⟨gb214, 1, none⟩) (Kd.R_far (p := ⟨gb214, 0, none⟩) (Kd.R_types HO208.out BK214.out (by decide)) (fun _ hk => hk.2) (.string t203)) (fun _ hk => hk.2) (.string t204)) (fun _ hk => hk.2) (.string t205)) (fun _ hk => hk.2) (.slice Ao13 t206.length co13)) (fun _ hk => hk.2) (.slice Ao14 t209.length co14)) (fun _ h_ => h_.1))))) (Kd.R_lt (by (with_reducible repeat (first | apply Kd.R_alloc | apply Kd.R_drewN | apply Kd.R_drew)); exact (Kd.R_mono (Kd.R_far (p := ⟨gb214, 4, none⟩) (Kd.R_far (p := ⟨gb214, 3, none⟩) (Kd.R_far (p := ⟨gb214, 2, none⟩) (Kd.R_far (p := ⟨gb214, 1, none⟩) (Kd.R_far (p := ⟨gb214, 0, none⟩) (Kd.R_types HO211.out BK214.out (by decide)) (fun _ hk => hk.2) (.string t203)) (fun _ hk => hk.2) (.string t204)) (fun _ hk => hk.2) (.string t205)) (fun _ hk => hk.2) (.slice Ao13 t206.length co13)) (fun _ hk => hk.2) (.slice Ao14 t209.length co14)) (fun _ h_ => h_.1))))) (below_size (bel_ HB.out))); have n4_ := am_ (blk_below (g := gb214) (o := .cells #[.string t203, .string t204, .string t205, .slice Ao13 t206.length co13, .slice Ao14 t209.length co14] 26 (0, 0)) (by (with_reducible repeat (first | refine blk_drewN ?_ _ | refine blk_drew ?_ | refine blk_alloc ?_ _)); refine blk_put (cs := #[.string t203, .string t204, .string t205, .slice Ao13 t206.length co13, .slice none 0 0]) ?_ 4 _ rfl; (with_reducible repeat (first | refine blk_drewN ?_ _ | refine blk_drew ?_ | refine blk_alloc ?_ _)); refine blk_put (cs := #[.string t203, .string t204, .string t205, .slice none 0 0, .slice none 0 0]) ?_ 3 _ rfl; (with_reducible repeat (first | refine blk_drewN ?_ _ | refine blk_drew ?_ | refine blk_alloc ?_ _)); refine blk_put (cs := #[.string t203, .string t204, .string (⟨#[]⟩ : ByteArray), .slice none 0 0, .slice none 0 0]) ?_ 2 _ rfl; (with_reducible repeat (first | refine blk_drewN ?_ _ | refine blk_drew ?_ | refine blk_alloc ?_ _)); refine blk_put (cs := #[.string t203, .string (⟨#[]⟩ : ByteArray), .string (⟨#[]⟩ : ByteArray), .slice none 0 0, .slice none 0 0]) ?_ 1 _ rfl; (with_reducible repeat (first | refine blk_drewN ?_ _ | refine blk_drew ?_ | refine blk_alloc ?_ _)); refine blk_put (cs := #[.string (⟨#[]⟩ : ByteArray), .string (⟨#[]⟩ : ByteArray), .string (⟨#[]⟩ : ByteArray), .slice none 0 0, .slice none 0 0]) ?_ 0 _ rfl; (with_reducible repeat (first | refine blk_drewN ?_ _ | refine blk_drew ?_ | refine blk_alloc ?_ _)); exact BK214.out) hb); have n5_ := am_ (below_step (bel_ HB.out) hb); clear HO208 HO211 BK214 HB; have HO208 := n0_; have HO211 := n1_; have HO220 := n2_; have HO223 := n3_; have BK214 := n4_; have HB := n5_; clear n0_ n1_ n2_ n3_ n4_ n5_; (try clear hb); (try clear hb2); (try clear hk); (try clear hi); (try clear ho0); (try clear ho1)) | ((with_reducible refine gate_dst (N := 4) rfl ?_); refine box_event ?hg (N := 4) ?hd (cs := #[.string (⟨#[]⟩ : ByteArray), .string (⟨#[]⟩ : ByteArray), .string (⟨#[]⟩ : ByteArray), .slice none 0 0, .slice none 0 0]) (t := 26) ?hr ?_; (case hd => rfl); (case hg => rfl); (case hr => first | (go_simp; done) | (go_simp; rfl)); intro gb226 hg w16 hbox hb; have n0_ := am_ (Kd.R_below (R_ HO208.out) hb); have n1_ := am_ (Kd.R_below (R_ HO211.out) hb); have n2_ := am_ (Kd.R_below (R_ HO220.out) hb); have n3_ := am_ (Kd.R_below (R_ HO223.out) hb); have n4_ := am_ (blk_below (g := gb214) (o := .cells #[.string t203, .string t204, .string t205, .slice Ao13 t206.length co13, .slice Ao14 t209.length co14] 26 (0, 0)) (blk_ BK214.out) hb); have n5_ := am_ (below_step (bel_ HB.out) hb); have n6_ := am_ (hbox); have n7_ := am_ ((by rw [hg]; exact (below_size (bel_ HB.out)) : w.heap.size ≤ gb226)); have n8_ := am_ ((by rw [hg]; exact (below_size (bel_ HB.out)) : w.heap.size ≤ gb226)); have n9_ := am_ ((by rw [hg]; exact Nat.ne_of_lt (blk_lt (g := gb214) (o := .cells #[.string t203, .string t204, .string t205, .slice Ao13 t206.length co13, .slice Ao14 t209.length co14] 26 (0, 0)) (blk_ BK214.out)) : gb214 ≠ gb226)); have n10_ := am_ ((by rw [hg]; exact Nat.ne_of_gt (blk_lt (g := gb214) (o := .cells #[.string t203, .string t204, .string t205, .slice Ao13 t206.length co13, .slice Ao14 t209.length co14] 26 (0, 0)) (blk_ BK214.out)) : gb226 ≠ gb214)); clear HO208 HO211 HO220 HO223 BK214 HB; have HO208 := n0_; have HO211 := n1_; have HO220 := n2_; have HO223 := n3_; have BK214 := n4_; have HB := n5_; have BK226 := n6_; have GW226 := n7_; have GE226 := n8_; have NB214_226 := n9_; have NB226_214 := n10_; clear n0_ n1_ n2_ n3_ n4_ n5_ n6_ n7_ n8_ n9_ n10_ hb hbox hg; have hnb17 := NB226_214.out; have hnc17 := NB214_226.out; have hcz18_0 : w16.cell? ⟨gb226, 0, none⟩ = some (.string (⟨#[]⟩ : ByteArray)) := (blk_cell BK226.out 0).trans rfl; have hcz18_1 : w16.cell? ⟨gb226, 1, none⟩ = some (.string (⟨#[]⟩ : ByteArray)) := (blk_cell BK226.out 1).trans rfl; have hcz18_2 : w16.cell? ⟨gb226, 2, none⟩ = some (.string (⟨#[]⟩ : ByteArray)) := (blk_cell BK226.out 2).trans rfl; have hcz18_3 : w16.cell? ⟨gb226, 3, none⟩ = some (.slice none 0 0) := (blk_cell BK226.out 3).trans rfl; have hcz18_4 : w16.cell? ⟨gb226, 4, none⟩ = some (.slice none 0 0) := (blk_cell BK226.out 4).trans rfl; have hfz18_0 := blk_frozen BK226.out 0; have hfz18_1 := blk_frozen BK226.out 1; have hfz18_2 := blk_frozen BK226.out 2; have hfz18_3 := blk_frozen BK226.out 3; have hfz18_4 := blk_frozen BK226.out 4; obtain ⟨Ao19, co19, eo19⟩ := Kd.R_slice HO220.out; subst eo19; obtain ⟨Ao20, co20, eo20⟩ := Kd.R_slice HO223.out; subst eo20) | ((with_reducible refine gate_callee (f := 9) rfl ?_); refine goesL_ (some 22) rfl rfl Tryd.func9 kr_ rfl #[.string (⟨#[71, 69, 84, 32, 47, 32, 72, 84, 84, 80, 47, 49, 46, 49, 13, 10, 72, 111, 115, 116, 58, 32, 97, 13, 10]⟩ : ByteArray)] rfl rl_ ?_; (with_reducible refine (head_Parse.calls k (⟨#[71, 69, 84, 32, 47, 32, 72, 84, 84, 80, 47, 49, 46, 49, 13, 10, 72, 111, 115, 116, 58, 32, 97, 13, 10]⟩ : ByteArray) t227 t228 t229 t230 t233 t236 t237 _ (gm_ HGL.out (bel_ HB.out)) A3.out).mono ?_); rintro e w21 ⟨v231, v234, rfl, ho0, ho1, hb⟩; refine ⟨_, rfl, ?_⟩; have n0_ := am_ (Kd.R_mono (Kd.R_told (Kd.R_told (Kd.R_old (by (with_reducible repeat (first | apply Kd.R_alloc | apply Kd.R_drewN | apply Kd.R_drew)); exact (Kd.R_mono (Kd.R_far (p := ⟨gb226, 4, none⟩) (Kd.R_far (p := ⟨gb226, 3, none⟩) (Kd.R_far (p := ⟨gb226, 2, none⟩) (Kd.R_far (p := ⟨gb226, 1, none⟩) (Kd.R_far (p := ⟨gb226, 0, none⟩) (Kd.R_types HO208.out BK226.out (by decide)) (fun _ hk => hk.2) (.string t215)) (fun _ hk => hk.2) (.string t216)) (fun _ hk => hk.2) (.string t217)) (fun _ hk => hk.2) (.slice Ao19 t218.length co19)) (fun _ hk => hk.2) (.slice Ao20 t221.length co20)) (fun _ h_ => h_.1))) hb) (Kd.R_base ho0)) (Kd.R_base ho1)) (fun _ h_ => h_.1)); have n1_ := am_ (Kd.R_mono (Kd.R_told (Kd.R_told (Kd.R_old (by (with_reducible repeat (first | apply Kd.R_alloc | apply Kd.R_drewN | apply Kd.R_drew)); exact (Kd.R_mono (Kd.R_far (p := ⟨gb226, 4, none⟩) (Kd.R_far (p := ⟨gb226, 3, none⟩) (Kd.R_far (p := ⟨gb226, 2, none⟩) (Kd.R_far (p := ⟨gb226, 1, none⟩) (Kd.R_far (p := ⟨gb226, 0, none⟩) (Kd.R_types HO211.out BK226.out (by decide)) (fun _ hk => hk.2) (.string t215)) (fun _ hk => hk.2) (.string t216)) (fun _ hk => hk.2) (.string t217)) (fun _ hk => hk.2) (.slice Ao19 t218.length co19)) (fun _ hk => hk.2) (.slice Ao20 t221.length co20)) (fun _ h_ => h_.1))) hb) (Kd.R_base ho0)) (Kd.R_base ho1)) (fun _ h_ => h_.1)); have n2_ := am_ (Kd.R_mono (Kd.R_told (Kd.R_told (Kd.R_old (by (with_reducible repeat (first | apply Kd.R_alloc | apply Kd.R_drewN | apply Kd.R_drew)); exact (Kd.R_mono (Kd.R_far (p := ⟨gb226, 4, none⟩) (Kd.R_far (p := ⟨gb226, 3, none⟩) (Kd.R_far (p := ⟨gb226, 2, none⟩) (Kd.R_far (p := ⟨gb226, 1, none⟩) (Kd.R_far (p := ⟨gb226, 0, none⟩) (Kd.R_types HO220.out BK226.out (by decide)) (fun _ hk => hk.2) (.string t215)) (fun _ hk => hk.2) (.string t216)) (fun _ hk => hk.2) (.string t217)) (fun _ hk => hk.2) (.slice Ao19 t218.length co19)) (fun _ hk => hk.2) (.slice Ao20 t221.length co20)) (fun _ h_ => h_.1))) hb) (Kd.R_base ho0)) (Kd.R_base ho1)) (fun _ h_ => h_.1)); have n3_ := am_ (Kd.R_mono (Kd.R_told (Kd.R_told (Kd.R_old (by (with_reducible repeat (first | apply Kd.R_alloc | apply Kd.R_drewN | apply Kd.R_drew)); exact (Kd.R_mono (Kd.R_far (p := ⟨gb226, 4, none⟩) (Kd.R_far (p := ⟨gb226, 3, none⟩) (Kd.R_far (p := ⟨gb226, 2, none⟩) (Kd.R_far (p := ⟨gb226, 1, none⟩) (Kd.R_far (p := ⟨gb226, 0, none⟩) (Kd.R_types HO223.out BK226.out (by decide)) (fun _ hk => hk.2) (.string t215)) (fun _ hk => hk.2) (.string t216)) (fun _ hk => hk.2) (.string t217)) (fun _ hk => hk.2) (.slice Ao19 t218.length co19)) (fun _ hk => hk.2) (.slice Ao20 t221.length co20)) (fun _ h_ => h_.1))) hb) (Kd.R_base ho0)) (Kd.R_base ho1)) (fun _ h_ => h_.1)); have n4_ := am_ (Kd.R_lower (Kd.R_new' (Kd.R_new' (Kd.R_new' (Kd.R_new' ho0 (Kd.R_lt (by (with_reducible repeat (first | apply Kd.R_alloc | apply Kd.R_drewN | apply Kd.R_drew)); exact (Kd.R_mono (Kd.R_far (p := ⟨gb226, 4, none⟩) (Kd.R_far (p := ⟨gb226, 3, none⟩) (Kd.R_far (p := ⟨gb226, 2, none⟩) (Kd.R_far (p := ⟨gb226, 1, none⟩) (Kd.R_far (p := ⟨gb226, 0, none⟩) (Kd.R_types HO208.out BK226.out (by decide)) (fun _ hk => hk.2) (.string t215)) (fun _ hk => hk.2) (.string t216)) (fun _ hk => hk.2) (.string t217)) (fun _ hk => hk.2) (.slice Ao19 t218.length co19)) (fun _ hk => hk.2) (.slice Ao20 t221.length co20)) (fun _ h_ => h_.1))))) (Kd.R_lt (by (with_reducible repeat (first | apply Kd.R_alloc | apply Kd.R_drewN | apply Kd.R_drew)); exact (Kd.R_mono (Kd.R_far (p := ⟨gb226, 4, none⟩) (Kd.R_far (p := ⟨gb226, 3, none⟩) (Kd.R_far (p := ⟨gb226, 2, none⟩) (Kd.R_far (p := ⟨gb226, 1, none⟩) (Kd.R_far (p := ⟨gb226, 0, none⟩) (Kd.R_types HO211.out BK226.out (by decide)) (fun _ hk => hk.2) (.string t215)) (fun _ hk => hk.2) (.string t216)) (fun _ hk => hk.2) (.string t217)) (fun _ hk => hk.2) (.slice Ao19 t218.length co19)) (fun _ hk => hk.2) (.slice Ao20 t221.length co20)) (fun _ h_ => h_.1))))) (Kd.R_lt (by (with_reducible repeat (first | apply Kd.R_alloc | apply Kd.R_drewN | apply Kd.R_drew)); exact (Kd.R_mono (Kd.R_far (p := ⟨gb226, 4, none⟩) (Kd.R_far (p := ⟨gb226, 3, none⟩) (Kd.R_far (p := ⟨gb226, 2, none⟩) (Kd.R_far (p := ⟨gb226, 1, none⟩) (Kd.R_far (p := ⟨gb226, 0, none⟩) (Kd.R_types HO220.out BK226.out (by decide)) (fun _ hk => hk.2) (.string t215)) (fun _ hk => hk.2) (.string t216)) (fun _ hk => hk.2) (.string t217)) (fun _ hk => hk.2) (.slice Ao19 t218.length co19)) (fun _ hk => hk.2) (.slice Ao20 t221.length co20)) (fun _ h_ => h_.1))))) (Kd.R_lt (by (with_reducible repeat (first | apply Kd.R_alloc | apply Kd.R_drewN | apply Kd.R_drew)); exact (Kd.R_mono (Kd.R_far (p := ⟨gb226, 4, none⟩) (Kd.R_far (p := ⟨gb226, 3, none⟩) (Kd.R_far (p := ⟨gb226, 2, none⟩) (Kd.R_far (p := ⟨gb226, 1, none⟩) (Kd.R_far (p := ⟨gb226, 0, none⟩) (Kd.R_types HO223.out BK226.out (by decide)) (fun _ hk => hk.2) (.string t215)) (fun _ hk => hk.2) (.string t216)) (fun _ hk => hk.2) (.string t217)) (fun _ hk => hk.2) (.slice Ao19 t218.length co19)) (fun _ hk => hk.2) (.slice Ao20 t221.length co20)) (fun _ h_ => h_.1))))) (below_size (bel_ HB.out))); have n5_ := am_ (Kd.R_lower (Kd.R_new' (Kd.R_new' (Kd.R_new' (Kd.R_new' ho1 (Kd.R_lt (by (with_reducible repeat (first | apply Kd.R_alloc | apply Kd.R_drewN | apply Kd.R_drew)); exact (Kd.R_mono (Kd.R_far (p := ⟨gb226, 4, none⟩) (Kd.R_far (p := ⟨gb226, 3, none⟩) (Kd.R_far (p := ⟨gb226, 2, none⟩) (Kd.R_far (p := ⟨gb226, 1, none⟩) (Kd.R_far (p := ⟨gb226, 0, none⟩) (Kd.R_types HO208.out BK226.out (by decide)) (fun _ hk => hk.2) (.string t215)) (fun _ hk => hk.2) (.string t216)) (fun _ hk => hk.2) (.string t217)) (fun _ hk => hk.2) (.slice Ao19 t218.length co19)) (fun _ hk => hk.2) (.slice Ao20 t221.length co20)) (fun _ h_ => h_.1))))) (Kd.R_lt (by (with_reducible repeat (first | apply Kd.R_alloc | apply Kd.R_drewN | apply Kd.R_drew)); exact (Kd.R_mono (Kd.R_far (p := ⟨gb226, 4, none⟩) (Kd.R_far (p := ⟨gb226, 3, none⟩) (Kd.R_far (p := ⟨gb226, 2, none⟩) (Kd.R_far (p := ⟨gb226, 1, none⟩) (Kd.R_far (p := ⟨gb226, 0, none⟩) (Kd.R_types HO211.out BK226.out (by decide)) (fun _ hk => hk.2) (.string t215)) (fun _ hk => hk.2) (.string t216)) (fun _ hk => hk.2) (.string t217)) (fun _ hk => hk.2) (.slice Ao19 t218.length co19)) (fun _ hk => hk.2) (.slice Ao20 t221.length co20)) (fun _ h_ => h_.1))))) (Kd.R_lt (by (with_reducible repeat (first | apply Kd.R_alloc | apply Kd.R_drewN | apply Kd.R_drew)); exact (Kd.R_mono (Kd.R_far (p := ⟨gb226, 4, none⟩) (Kd.R_far (p := ⟨gb226, 3, none⟩) (Kd.R_far (p := ⟨gb226, 2, none⟩) (Kd.R_far (p := ⟨gb226, 1, none⟩) (Kd.R_far (p := ⟨gb226, 0, none⟩) (Kd.R_types HO220.out BK226.out (by decide)) (fun _ hk => hk.2) (.string t215)) (fun _ hk => hk.2) (.string t216)) (fun _ hk => hk.2) (.string t217)) (fun _ hk => hk.2) (.slice Ao19 t218.length co19)) (fun _ hk => hk.2) (.slice Ao20 t221.length co20)) (fun _ h_ => h_.1))))) (Kd.R_lt (by (with_reducible repeat (first | apply Kd.R_alloc | apply Kd.R_drewN | apply Kd.R_drew)); exact (Kd.R_mono (Kd.R_far (p := ⟨gb226, 4, none⟩) (Kd.R_far (p := ⟨gb226, 3, none⟩) (Kd.R_far (p := ⟨gb226, 2, none⟩) (Kd.R_far (p := ⟨gb226, 1, none⟩) (Kd.R_far (p := ⟨gb226, 0, none⟩) (Kd.R_types HO223.out BK226.out (by decide)) (fun _ hk => hk.2) (.string t215)) (fun _ hk => hk.2) (.string t216)) (fun _ hk => hk.2) (.string t217)) (fun _ hk => hk.2) (.slice Ao19 t218.length co19)) (fun _ hk => hk.2) (.slice Ao20 t221.length co20)) (fun _ h_ => h_.1))))) (below_size (bel_ HB.out))); have n6_ := am_ (blk_below (g := gb214) (o := .cells #[.string t203, .string t204, .string t205, .slice Ao13 t206.length co13, .slice Ao14 t209.length co14] 26 (0, 0)) (by (with_reducible repeat (first | refine blk_drewN ?_ _ | refine blk_drew ?_ | refine blk_alloc ?_ _)); refine blk_far ?_ NB214_226.out _; (with_reducible repeat (first | refine blk_drewN ?_ _ | refine blk_drew ?_ | refine blk_alloc ?_ _)); refine blk_far ?_ NB214_226.out _; (with_reducible repeat (first | refine blk_drewN ?_ _ | refine blk_drew ?_ | refine blk_alloc ?_ _)); refine blk_far ?_ NB214_226.out _; (with_reducible repeat (first | refine blk_drewN ?_ _ | refine blk_drew ?_ | refine blk_alloc ?_ _)); refine blk_far ?_ NB214_226.out _; (with_reducible repeat (first | refine blk_drewN ?_ _ | refine blk_drew ?_ | refine blk_alloc ?_ _)); refine blk_far ?_ NB214_226.out _; (with_reducible repeat (first | refine blk_drewN ?_ _ | refine blk_drew ?_ | refine blk_alloc ?_ _)); exact BK214.out) hb); have n7_ := am_ (blk_below (g := gb226) (o := .cells #[.string t215, .string t216, .string t217, .slice Ao19 t218.length co19, .slice Ao20 t221.length co20] 26 (0, 0)) (by (with_reducible repeat (first | refine blk_drewN ?_ _ | refine blk_drew ?_ | refine blk_alloc ?_ _)); refine blk_put (cs := #[.string t215, .string t216, .string t217, .slice Ao19 t218.length co19, .slice none 0 0]) ?_ 4 _ rfl; (with_reducible repeat (first | refine blk_drewN ?_ _ | refine blk_drew ?_ | refine blk_alloc ?_ _)); refine blk_put (cs := #[.string t215, .string t216, .string t217, .slice none 0 0, .slice none 0 0]) ?_ 3 _ rfl; (with_reducible repeat (first | refine blk_drewN ?_ _ | refine blk_drew ?_ | refine blk_alloc ?_ _)); refine blk_put (cs := #[.string t215, .string t216, .string (⟨#[]⟩ : ByteArray), .slice none 0 0, .slice none 0 0]) ?_ 2 _ rfl; (with_reducible repeat (first | refine blk_drewN ?_ _ | refine blk_drew ?_ | refine blk_alloc ?_ _)); refine blk_put (cs := #[.string t215, .string (⟨#[]⟩ : ByteArray), .string (⟨#[]⟩ : ByteArray), .slice none 0 0, .slice none 0 0]) ?_ 1 _ rfl; (with_reducible repeat (first | refine blk_drewN ?_ _ | refine blk_drew ?_ | refine blk_alloc ?_ _)); refine blk_put (cs := #[.string (⟨#[]⟩ : ByteArray), .string (⟨#[]⟩ : ByteArray), .string (⟨#[]⟩ : ByteArray), .slice none 0 0, .slice none 0 0]) ?_ 0 _ rfl; (with_reducible repeat (first | refine blk_drewN ?_ _ | refine blk_drew ?_ | refine blk_alloc ?_ _)); exact BK226.out) hb); have n8_ := am_ (below_step (bel_ HB.out) hb); clear HO208 HO211 HO220 HO223 BK214 BK226 HB; have HO208 := n0_; have HO211 := n1_; have HO220 := n2_; have HO223 := n3_; have HO232 := n4_; have HO235 := n5_; have BK214 := n6_; have BK226 := n7_; have HB := n8_; clear n0_ n1_ n2_ n3_ n4_ n5_ n6_ n7_ n8_; (try clear hb); (try clear hb2); (try clear hk); (try clear hi); (try clear ho0); (try clear ho1)) | ((with_reducible refine gate_dst (N := 7) rfl ?_); refine box_event ?hg (N := 7) ?hd (cs := #[.string (⟨#[]⟩ : ByteArray), .string (⟨#[]⟩ : ByteArray), .string (⟨#[]⟩ : ByteArray), .slice none 0 0, .slice none 0 0]) (t := 26) ?hr ?_; (case hd => rfl); (case hg => rfl); (case hr => first | (go_simp; done) | (go_simp; rfl)); intro gb238 hg w22 hbox hb; have n0_ := am_ (Kd.R_below (R_ HO208.out) hb); have n1_ := am_ (Kd.R_below (R_ HO211.out) hb); have n2_ := am_ (Kd.R_below (R_ HO220.out) hb); have n3_ := am_ (Kd.R_below (R_ HO223.out) hb); have n4_ := am_ (Kd.R_below (R_ HO232.out) hb); have n5_ := am_ (Kd.R_below (R_ HO235.out) hb); have n6_ := am_ (blk_below (g := gb214) (o := .cells #[.string t203, .string t204, .string t205, .slice Ao13 t206.length co13, .slice Ao14 t209.length co14] 26 (0, 0)) (blk_ BK214.out) hb); have n7_ := am_ (blk_below (g := gb226) (o := .cells #[.string t215, .string t216, .string t217, .slice Ao19 t218.length co19, .slice Ao20 t221.length co20] 26 (0, 0)) (blk_ BK226.out) hb); have n8_ := am_ (below_step (bel_ HB.out) hb); have n9_ := am_ (hbox); have n10_ := am_ ((by rw [hg]; exact (below_size (bel_ HB.out)) : w.heap.size ≤ gb238)); have n11_ := am_ ((by rw [hg]; exact (below_size (bel_ HB.out)) : w.heap.size ≤ gb238)); have n12_ := am_ ((by rw [hg]; exact Nat.ne_of_lt (blk_lt (g := gb214) (o := .cells #[.string t203, .string t204, .string t205, .slice Ao13 t206.length co13, .slice Ao14 t209.length co14] 26 (0, 0)) (blk_ BK214.out)) : gb214 ≠ gb238)); have n13_ := am_ ((by rw [hg]; exact Nat.ne_of_gt (blk_lt (g := gb214) (o := .cells #[.string t203, .string t204, .string t205, .slice Ao13 t206.length co13, .slice Ao14 t209.length co14] 26 (0, 0)) (blk_ BK214.out)) : gb238 ≠ gb214)); have n14_ := am_ ((by rw [hg]; exact Nat.ne_of_lt (blk_lt (g := gb226) (o := .cells #[.string t215, .string t216, .string t217, .slice Ao19 t218.length co19, .slice Ao20 t221.length co20] 26 (0, 0)) (blk_ BK226.out)) : gb226 ≠ gb238)); have n15_ := am_ ((by rw [hg]; exact Nat.ne_of_gt (blk_lt (g := gb226) (o := .cells #[.string t215, .string t216, .string t217, .slice Ao19 t218.length co19, .slice Ao20 t221.length co20] 26 (0, 0)) (blk_ BK226.out)) : gb238 ≠ gb226)); clear HO208 HO211 HO220 HO223 HO232 HO235 BK214 BK226 HB; have HO208 := n0_; have HO211 := n1_; have HO220 := n2_; have HO223 := n3_; have HO232 := n4_; have HO235 := n5_; have BK214 := n6_; have BK226 := n7_; have HB := n8_; have BK238 := n9_; have GW238 := n10_; have GE238 := n11_; have NB214_238 := n12_; have NB238_214 := n13_; have NB226_238 := n14_; have NB238_226 := n15_; clear n0_ n1_ n2_ n3_ n4_ n5_ n6_ n7_ n8_ n9_ n10_ n11_ n12_ n13_ n14_ n15_ hb hbox hg; have hnb23 := NB238_214.out; have hnc23 := NB214_238.out; have hnb24 := NB238_226.out; have hnc24 := NB226_238.out; have hcz25_0 : w22.cell? ⟨gb238, 0, none⟩ = some (.string (⟨#[]⟩ : ByteArray)) := (blk_cell BK238.out 0).trans rfl; have hcz25_1 : w22.cell? ⟨gb238, 1, none⟩ = some (.string (⟨#[]⟩ : ByteArray)) := (blk_cell BK238.out 1).trans rfl; have hcz25_2 : w22.cell? ⟨gb238, 2, none⟩ = some (.string (⟨#[]⟩ : ByteArray)) := (blk_cell BK238.out 2).trans rfl; have hcz25_3 : w22.cell? ⟨gb238, 3, none⟩ = some (.slice none 0 0) := (blk_cell BK238.out 3).trans rfl; have hcz25_4 : w22.cell? ⟨gb238, 4, none⟩ = some (.slice none 0 0) := (blk_cell BK238.out 4).trans rfl; have hfz25_0 := blk_frozen BK238.out 0; have hfz25_1 := blk_frozen BK238.out 1; have hfz25_2 := blk_frozen BK238.out 2; have hfz25_3 := blk_frozen BK238.out 3; have hfz25_4 := blk_frozen BK238.out 4; obtain ⟨Ao26, co26, eo26⟩ := Kd.R_slice HO232.out; subst eo26; obtain ⟨Ao27, co27, eo27⟩ := Kd.R_slice HO235.out; subst eo27) | ((with_reducible refine gate_dst (N := 27) rfl ?_); refine Kd.R_lit k35 _ 35 ?hg (N := 27) ?hd (xs := ([(⟨(⟨#[98]⟩ : ByteArray), (⟨#[49]⟩ : ByteArray)⟩ : S35)] : List (S35))) (inner := [.string (⟨#[98]⟩ : ByteArray), .string (⟨#[49]⟩ : ByteArray)]) (ok := fun _ => True) (okp := fun _ => True) ?hr ?hp (fun _ hk => hk) trivial (Below.refl _ _) (Nat.le_refl _) (by simp) ?_; (case hd => rfl); (case hg => rfl); (case hr => first | (go_simp; done) | (go_simp; rfl)); (case hp => exact (Reps.c2 (show Kd.M k35 _ _ _ (⟨(⟨#[98]⟩ : ByteArray), (⟨#[49]⟩ : ByteArray)⟩ : S35) [.string (⟨#[98]⟩ : ByteArray), .string (⟨#[49]⟩ : ByteArray)] from (k35_mkM _ _ _ (⟨(⟨#[98]⟩ : ByteArray), (⟨#[49]⟩ : ByteArray)⟩ : S35) )) (Reps.none _ _))); intro v240 w28 ho29 hb hg_ hnew_; clear hg_ hnew_; (first | rw [← Ny239.out] at ho29 | (simp only [Int.reduceToNat] at ho29; rw [← Ny239.out] at ho29)); have n0_ := am_ (Kd.R_elder' (by (with_reducible repeat (first | apply Kd.R_alloc | apply Kd.R_drewN | apply Kd.R_drew)); exact (Kd.R_mono (Kd.R_far (p := ⟨gb238, 4, none⟩) (Kd.R_far (p := ⟨gb238, 3, none⟩) (Kd.R_far (p := ⟨gb238, 2, none⟩) (Kd.R_far (p := ⟨gb238, 1, none⟩) (Kd.R_far (p := ⟨gb238, 0, none⟩) (Kd.R_types HO208.out BK238.out (by decide)) (fun _ hk => hk.2) (.string t227)) (fun _ hk => hk.2) (.string t228)) (fun _ hk => hk.2) (.string t229)) (fun _ hk => hk.2) (.slice Ao26 t230.length co26)) (fun _ hk => hk.2) (.slice Ao27 t233.length co27)) (fun _ h_ => h_.1))) (Kd.R_base ho29) hb); have n1_ := am_ (Kd.R_elder' (by (with_reducible repeat (first | apply Kd.R_alloc | apply Kd.R_drewN | apply Kd.R_drew)); exact (Kd.R_mono (Kd.R_far (p := ⟨gb238, 4, none⟩) (Kd.R_far (p := ⟨gb238, 3, none⟩) (Kd.R_far (p := ⟨gb238, 2, none⟩) (Kd.R_far (p := ⟨gb238, 1, none⟩) (Kd.R_far (p := ⟨gb238, 0, none⟩) (Kd.R_types HO211.out BK238.out (by decide)) (fun _ hk => hk.2) (.string t227)) (fun _ hk => hk.2) (.string t228)) (fun _ hk => hk.2) (.string t229)) (fun _ hk => hk.2) (.slice Ao26 t230.length co26)) (fun _ hk => hk.2) (.slice Ao27 t233.length co27)) (fun _ h_ => h_.1))) (Kd.R_base ho29) hb); have n2_ := am_ (Kd.R_elder' (by (with_reducible repeat (first | apply Kd.R_alloc | apply Kd.R_drewN | apply Kd.R_drew)); exact (Kd.R_mono (Kd.R_far (p := ⟨gb238, 4, none⟩) (Kd.R_far (p := ⟨gb238, 3, none⟩) (Kd.R_far (p := ⟨gb238, 2, none⟩) (Kd.R_far (p := ⟨gb238, 1, none⟩) (Kd.R_far (p := ⟨gb238, 0, none⟩) (Kd.R_types HO220.out BK238.out (by decide)) (fun _ hk => hk.2) (.string t227)) (fun _ hk => hk.2) (.string t228)) (fun _ hk => hk.2) (.string t229)) (fun _ hk => hk.2) (.slice Ao26 t230.length co26)) (fun _ hk => hk.2) (.slice Ao27 t233.length co27)) (fun _ h_ => h_.1))) (Kd.R_base ho29) hb); have n3_ := am_ (Kd.R_elder' (by (with_reducible repeat (first | apply Kd.R_alloc | apply Kd.R_drewN | apply Kd.R_drew)); exact (Kd.R_mono (Kd.R_far (p := ⟨gb238, 4, none⟩) (Kd.R_far (p := ⟨gb238, 3, none⟩) (Kd.R_far (p := ⟨gb238, 2, none⟩) (Kd.R_far (p := ⟨gb238, 1, none⟩) (Kd.R_far (p := ⟨gb238, 0, none⟩) (Kd.R_types HO223.out BK238.out (by decide)) (fun _ hk => hk.2) (.string t227)) (fun _ hk => hk.2) (.string t228)) (fun _ hk => hk.2) (.string t229)) (fun _ hk => hk.2) (.slice Ao26 t230.length co26)) (fun _ hk => hk.2) (.slice Ao27 t233.length co27)) (fun _ h_ => h_.1))) (Kd.R_base ho29) hb); have n4_ := am_ (Kd.R_elder' (by (with_reducible repeat (first | apply Kd.R_alloc | apply Kd.R_drewN | apply Kd.R_drew)); exact (Kd.R_mono (Kd.R_far (p := ⟨gb238, 4, none⟩) (Kd.R_far (p := ⟨gb238, 3, none⟩) (Kd.R_far (p := ⟨gb238, 2, none⟩) (Kd.R_far (p := ⟨gb238, 1, none⟩) (Kd.R_far (p := ⟨gb238, 0, none⟩) (Kd.R_types HO232.out BK238.out (by decide)) (fun _ hk => hk.2) (.string t227)) (fun _ hk => hk.2) (.string t228)) (fun _ hk => hk.2) (.string t229)) (fun _ hk => hk.2) (.slice Ao26 t230.length co26)) (fun _ hk => hk.2) (.slice Ao27 t233.length co27)) (fun _ h_ => h_.1))) (Kd.R_base ho29) hb); have n5_ := am_ (Kd.R_elder' (by (with_reducible repeat (first | apply Kd.R_alloc | apply Kd.R_drewN | apply Kd.R_drew)); exact (Kd.R_mono (Kd.R_far (p := ⟨gb238, 4, none⟩) (Kd.R_far (p := ⟨gb238, 3, none⟩) (Kd.R_far (p := ⟨gb238, 2, none⟩) (Kd.R_far (p := ⟨gb238, 1, none⟩) (Kd.R_far (p := ⟨gb238, 0, none⟩) (Kd.R_types HO235.out BK238.out (by decide)) (fun _ hk => hk.2) (.string t227)) (fun _ hk => hk.2) (.string t228)) (fun _ hk => hk.2) (.string t229)) (fun _ hk => hk.2) (.slice Ao26 t230.length co26)) (fun _ hk => hk.2) (.slice Ao27 t233.length co27)) (fun _ h_ => h_.1))) (Kd.R_base ho29) hb); have n6_ := am_ (Kd.R_lower (Kd.R_new' (Kd.R_new' (Kd.R_new' (Kd.R_new' (Kd.R_new' (Kd.R_new' ho29 (Kd.R_lt (by (with_reducible repeat (first | apply Kd.R_alloc | apply Kd.R_drewN | apply Kd.R_drew)); exact (Kd.R_mono (Kd.R_far (p := ⟨gb238, 4, none⟩) (Kd.R_far (p := ⟨gb238, 3, none⟩) (Kd.R_far (p := ⟨gb238, 2, none⟩) (Kd.R_far (p := ⟨gb238, 1, none⟩) (Kd.R_far (p := ⟨gb238, 0, none⟩) (Kd.R_types HO208.out BK238.out (by decide)) (fun _ hk => hk.2) (.string t227)) (fun _ hk => hk.2) (.string t228)) (fun _ hk => hk.2) (.string t229)) (fun _ hk => hk.2) (.slice Ao26 t230.length co26)) (fun _ hk => hk.2) (.slice Ao27 t233.length co27)) (fun _ h_ => h_.1))))) (Kd.R_lt (by (with_reducible repeat (first | apply Kd.R_alloc | apply Kd.R_drewN | apply Kd.R_drew)); exact (Kd.R_mono (Kd.R_far (p := ⟨gb238, 4, none⟩) (Kd.R_far (p := ⟨gb238, 3, none⟩) (Kd.R_far (p := ⟨gb238, 2, none⟩) (Kd.R_far (p := ⟨gb238, 1, none⟩) (Kd.R_far (p := ⟨gb238, 0, none⟩) (Kd.R_types HO211.out BK238.out (by decide)) (fun _ hk => hk.2) (.string t227)) (fun _ hk => hk.2) (.string t228)) (fun _ hk => hk.2) (.string t229)) (fun _ hk => hk.2) (.slice Ao26 t230.length co26)) (fun _ hk => hk.2) (.slice Ao27 t233.length co27)) (fun _ h_ => h_.1))))) (Kd.R_lt (by (with_reducible repeat (first | apply Kd.R_alloc | apply Kd.R_drewN | apply Kd.R_drew)); exact (Kd.R_mono (Kd.R_far (p := ⟨gb238, 4, none⟩) (Kd.R_far (p := ⟨gb238, 3, none⟩) (Kd.R_far (p := ⟨gb238, 2, none⟩) (Kd.R_far (p := ⟨gb238, 1, none⟩) (Kd.R_far (p := ⟨gb238, 0, none⟩) (Kd.R_types HO220.out BK238.out (by decide)) (fun _ hk => hk.2) (.string t227)) (fun _ hk => hk.2) (.string t228)) (fun _ hk => hk.2) (.string t229)) (fun _ hk => hk.2) (.slice Ao26 t230.length co26)) (fun _ hk => hk.2) (.slice Ao27 t233.length co27)) (fun _ h_ => h_.1))))) (Kd.R_lt (by (with_reducible repeat (first | apply Kd.R_alloc | apply Kd.R_drewN | apply Kd.R_drew)); exact (Kd.R_mono (Kd.R_far (p := ⟨gb238, 4, none⟩) (Kd.R_far (p := ⟨gb238, 3, none⟩) (Kd.R_far (p := ⟨gb238, 2, none⟩) (Kd.R_far (p := ⟨gb238, 1, none⟩) (Kd.R_far (p := ⟨gb238, 0, none⟩) (Kd.R_types HO223.out BK238.out (by decide)) (fun _ hk => hk.2) (.string t227)) (fun _ hk => hk.2) (.string t228)) (fun _ hk => hk.2) (.string t229)) (fun _ hk => hk.2) (.slice Ao26 t230.length co26)) (fun _ hk => hk.2) (.slice Ao27 t233.length co27)) (fun _ h_ => h_.1))))) (Kd.R_lt (by (with_reducible repeat (first | apply Kd.R_alloc | apply Kd.R_drewN | apply Kd.R_drew)); exact (Kd.R_mono (Kd.R_far (p := ⟨gb238, 4, none⟩) (Kd.R_far (p := ⟨gb238, 3, none⟩) (Kd.R_far (p := ⟨gb238, 2, none⟩) (Kd.R_far (p := ⟨gb238, 1, none⟩) (Kd.R_far (p := ⟨gb238, 0, none⟩) (Kd.R_types HO232.out BK238.out (by decide)) (fun _ hk => hk.2) (.string t227)) (fun _ hk => hk.2) (.string t228)) (fun _ hk => hk.2) (.string t229)) (fun _ hk => hk.2) (.slice Ao26 t230.length co26)) (fun _ hk => hk.2) (.slice Ao27 t233.length co27)) (fun _ h_ => h_.1))))) (Kd.R_lt (by (with_reducible repeat (first | apply Kd.R_alloc | apply Kd.R_drewN | apply Kd.R_drew)); exact (Kd.R_mono (Kd.R_far (p := ⟨gb238, 4, none⟩) (Kd.R_far (p := ⟨gb238, 3, none⟩) (Kd.R_far (p := ⟨gb238, 2, none⟩) (Kd.R_far (p := ⟨gb238, 1, none⟩) (Kd.R_far (p := ⟨gb238, 0, none⟩) (Kd.R_types HO235.out BK238.out (by decide)) (fun _ hk => hk.2) (.string t227)) (fun _ hk => hk.2) (.string t228)) (fun _ hk => hk.2) (.string t229)) (fun _ hk => hk.2) (.slice Ao26 t230.length co26)) (fun _ hk => hk.2) (.slice Ao27 t233.length co27)) (fun _ h_ => h_.1))))) (below_size (bel_ HB.out))); have n7_ := am_ (blk_below (g := gb214) (o := .cells #[.string t203, .string t204, .string t205, .slice Ao13 t206.length co13, .slice Ao14 t209.length co14] 26 (0, 0)) (by (with_reducible repeat (first | refine blk_drewN ?_ _ | refine blk_drew ?_ | refine blk_alloc ?_ _)); refine blk_far ?_ NB214_238.out _; (with_reducible repeat (first | refine blk_drewN ?_ _ | refine blk_drew ?_ | refine blk_alloc ?_ _)); refine blk_far ?_ NB214_238.out _; (with_reducible repeat (first | refine blk_drewN ?_ _ | refine blk_drew ?_ | refine blk_alloc ?_ _)); refine blk_far ?_ NB214_238.out _; (with_reducible repeat (first | refine blk_drewN ?_ _ | refine blk_drew ?_ | refine blk_alloc ?_ _)); refine blk_far ?_ NB214_238.out _; (with_reducible repeat (first | refine blk_drewN ?_ _ | refine blk_drew ?_ | refine blk_alloc ?_ _)); refine blk_far ?_ NB214_238.out _; (with_reducible repeat (first | refine blk_drewN ?_ _ | refine blk_drew ?_ | refine blk_alloc ?_ _)); exact BK214.out) hb); have n8_ := am_ (blk_below (g := gb226) (o := .cells #[.string t215, .string t216, .string t217, .slice Ao19 t218.length co19, .slice Ao20 t221.length co20] 26 (0, 0)) (by (with_reducible repeat (first | refine blk_drewN ?_ _ | refine blk_drew ?_ | refine blk_alloc ?_ _)); refine blk_far ?_ NB226_238.out _; (with_reducible repeat (first | refine blk_drewN ?_ _ | refine blk_drew ?_ | refine blk_alloc ?_ _)); refine blk_far ?_ NB226_238.out _; (with_reducible repeat (first | refine blk_drewN ?_ _ | refine blk_drew ?_ | refine blk_alloc ?_ _)); refine blk_far ?_ NB226_238.out _; (with_reducible repeat (first | refine blk_drewN ?_ _ | refine blk_drew ?_ | refine blk_alloc ?_ _)); refine blk_far ?_ NB226_238.out _; (with_reducible repeat (first | refine blk_drewN ?_ _ | refine blk_drew ?_ | refine blk_alloc ?_ _)); refine blk_far ?_ NB226_238.out _; (with_reducible repeat (first | refine blk_drewN ?_ _ | refine blk_drew ?_ | refine blk_alloc ?_ _)); exact BK226.out) hb); have n9_ := am_ (blk_below (g := gb238) (o := .cells #[.string t227, .string t228, .string t229, .slice Ao26 t230.length co26, .slice Ao27 t233.length co27] 26 (0, 0)) (by (with_reducible repeat (first | refine blk_drewN ?_ _ | refine blk_drew ?_ | refine blk_alloc ?_ _)); refine blk_put (cs := #[.string t227, .string t228, .string t229, .slice Ao26 t230.length co26, .slice none 0 0]) ?_ 4 _ rfl; (with_reducible repeat (first | refine blk_drewN ?_ _ | refine blk_drew ?_ | refine blk_alloc ?_ _)); refine blk_put (cs := #[.string t227, .string t228, .string t229, .slice none 0 0, .slice none 0 0]) ?_ 3 _ rfl; (with_reducible repeat (first | refine blk_drewN ?_ _ | refine blk_drew ?_ | refine blk_alloc ?_ _)); refine blk_put (cs := #[.string t227, .string t228, .string (⟨#[]⟩ : ByteArray), .slice none 0 0, .slice none 0 0]) ?_ 2 _ rfl; (with_reducible repeat (first | refine blk_drewN ?_ _ | refine blk_drew ?_ | refine blk_alloc ?_ _)); refine blk_put (cs := #[.string t227, .string (⟨#[]⟩ : ByteArray), .string (⟨#[]⟩ : ByteArray), .slice none 0 0, .slice none 0 0]) ?_ 1 _ rfl; (with_reducible repeat (first | refine blk_drewN ?_ _ | refine blk_drew ?_ | refine blk_alloc ?_ _)); refine blk_put (cs := #[.string (⟨#[]⟩ : ByteArray), .string (⟨#[]⟩ : ByteArray), .string (⟨#[]⟩ : ByteArray), .slice none 0 0, .slice none 0 0]) ?_ 0 _ rfl; (with_reducible repeat (first | refine blk_drewN ?_ _ | refine blk_drew ?_ | refine blk_alloc ?_ _)); exact BK238.out) hb); have n10_ := am_ (below_step (bel_ HB.out) hb); clear HO208 HO211 HO220 HO223 HO232 HO235 BK214 BK226 BK238 HB; have HO208 := n0_; have HO211 := n1_; have HO220 := n2_; have HO223 := n3_; have HO232 := n4_; have HO235 := n5_; have HO241 := n6_; have BK214 := n7_; have BK226 := n8_; have BK238 := n9_; have HB := n10_; clear n0_ n1_ n2_ n3_ n4_ n5_ n6_ n7_ n8_ n9_ n10_ hb ho29) | ((with_reducible refine gate_dst (N := 29) rfl ?_); refine Kd.R_lit k35 _ 35 ?hg (N := 29) ?hd (xs := ([(⟨(⟨#[72, 111, 115, 116]⟩ : ByteArray), (⟨#[65, 46, 116, 101, 115, 116, 58, 56, 48]⟩ : ByteArray)⟩ : S35)] : List (S35))) (inner := [.string (⟨#[72, 111, 115, 116]⟩ : ByteArray), .string (⟨#[65, 46, 116, 101, 115, 116, 58, 56, 48]⟩ : ByteArray)]) (ok := fun _ => True) (okp := fun _ => True) ?hr ?hp (fun _ hk => hk) trivial (Below.refl _ _) (Nat.le_refl _) (by simp) ?_; (case hd => rfl); (case hg => rfl); (case hr => first | (go_simp; done) | (go_simp; rfl)); (case hp => exact (Reps.c2 (show Kd.M k35 _ _ _ (⟨(⟨#[72, 111, 115, 116]⟩ : ByteArray), (⟨#[65, 46, 116, 101, 115, 116, 58, 56, 48]⟩ : ByteArray)⟩ : S35) [.string (⟨#[72, 111, 115, 116]⟩ : ByteArray), .string (⟨#[65, 46, 116, 101, 115, 116, 58, 56, 48]⟩ : ByteArray)] from (k35_mkM _ _ _ (⟨(⟨#[72, 111, 115, 116]⟩ : ByteArray), (⟨#[65, 46, 116, 101, 115, 116, 58, 56, 48]⟩ : ByteArray)⟩ : S35) )) (Reps.none _ _))); intro v243 w30 ho31 hb hg_ hnew_; clear hg_ hnew_; (first | rw [← Ny242.out] at ho31 | (simp only [Int.reduceToNat] at ho31; rw [← Ny242.out] at ho31)); have n0_ := am_ (Kd.R_elder' (R_ HO208.out) (Kd.R_base ho31) hb); have n1_ := am_ (Kd.R_elder' (R_ HO211.out) (Kd.R_base ho31) hb); have n2_ := am_ (Kd.R_elder' (R_ HO220.out) (Kd.R_base ho31) hb); have n3_ := am_ (Kd.R_elder' (R_ HO223.out) (Kd.R_base ho31) hb); have n4_ := am_ (Kd.R_elder' (R_ HO232.out) (Kd.R_base ho31) hb); have n5_ := am_ (Kd.R_elder' (R_ HO235.out) (Kd.R_base ho31) hb); have n6_ := am_ (Kd.R_elder' (R_ HO241.out) (Kd.R_base ho31) hb); have n7_ := am_ (Kd.R_lower (Kd.R_new' (Kd.R_new' (Kd.R_new' (Kd.R_new' (Kd.R_new' (Kd.R_new' (Kd.R_new' ho31 (Kd.R_lt (R_ HO208.out))) (Kd.R_lt (R_ HO211.out))) (Kd.R_lt (R_ HO220.out))) (Kd.R_lt (R_ HO223.out))) (Kd.R_lt (R_ HO232.out))) (Kd.R_lt (R_ HO235.out))) (Kd.R_lt (R_ HO241.out))) (below_size (bel_ HB.out))); have n8_ := am_ (blk_below (g := gb214) (o := .cells #[.string t203, .string t204, .string t205, .slice Ao13 t206.length co13, .slice Ao14 t209.length co14] 26 (0, 0)) (blk_ BK214.out) hb); have n9_ := am_ (blk_below (g := gb226) (o := .cells #[.string t215, .string t216, .string t217, .slice Ao19 t218.length co19, .slice Ao20 t221.length co20] 26 (0, 0)) (blk_ BK226.out) hb); have n10_ := am_ (blk_below (g := gb238) (o := .cells #[.string t227, .string t228, .string t229, .slice Ao26 t230.length co26, .slice Ao27 t233.length co27] 26 (0, 0)) (blk_ BK238.out) hb); have n11_ := am_ (below_step (bel_ HB.out) hb); clear HO208 HO211 HO220 HO223 HO232 HO235 HO241 BK214 BK226 BK238 HB; have HO208 := n0_; have HO211 := n1_; have HO220 := n2_; have HO223 := n3_; have HO232 := n4_; have HO235 := n5_; have HO241 := n6_; have HO244 := n7_; have BK214 := n8_; have BK226 := n9_; have BK238 := n10_; have HB := n11_; clear n0_ n1_ n2_ n3_ n4_ n5_ n6_ n7_ n8_ n9_ n10_ n11_ hb ho31; obtain ⟨Ao32, co32, eo32⟩ := Kd.R_slice HO244.out; subst eo32; obtain ⟨Ao33, co33, eo33⟩ := Kd.R_slice HO241.out; subst eo33) | ((with_reducible refine gate_dst (N := 10) rfl ?_); refine box_event ?hg (N := 10) ?hd (cs := #[.string (⟨#[]⟩ : ByteArray), .string (⟨#[]⟩ : ByteArray), .string (⟨#[]⟩ : ByteArray), .slice none 0 0, .slice none 0 0]) (t := 26) ?hr ?_; (case hd => rfl); (case hg => rfl); (case hr => first | (go_simp; done) | (go_simp; rfl)); intro gb245 hg w34 hbox hb; have n0_ := am_ (Kd.R_below (R_ HO208.out) hb); have n1_ := am_ (Kd.R_below (R_ HO211.out) hb); have n2_ := am_ (Kd.R_below (R_ HO220.out) hb); have n3_ := am_ (Kd.R_below (R_ HO223.out) hb); have n4_ := am_ (Kd.R_below (R_ HO232.out) hb); have n5_ := am_ (Kd.R_below (R_ HO235.out) hb); have n6_ := am_ (Kd.R_below (R_ HO241.out) hb); have n7_ := am_ (Kd.R_below (R_ HO244.out) hb); have n8_ := am_ (blk_below (g := gb214) (o := .cells #[.string t203, .string t204, .string t205, .slice Ao13 t206.length co13, .slice Ao14 t209.length co14] 26 (0, 0)) (blk_ BK214.out) hb); have n9_ := am_ (blk_below (g := gb226) (o := .cells #[.string t215, .string t216, .string t217, .slice Ao19 t218.length co19, .slice Ao20 t221.length co20] 26 (0, 0)) (blk_ BK226.out) hb); have n10_ := am_ (blk_below (g := gb238) (o := .cells #[.string t227, .string t228, .string t229, .slice Ao26 t230.length co26, .slice Ao27 t233.length co27] 26 (0, 0)) (blk_ BK238.out) hb); have n11_ := am_ (below_step (bel_ HB.out) hb); have n12_ := am_ (hbox); have n13_ := am_ ((by rw [hg]; exact (below_size (bel_ HB.out)) : w.heap.size ≤ gb245)); have n14_ := am_ ((by rw [hg]; exact (below_size (bel_ HB.out)) : w.heap.size ≤ gb245)); have n15_ := am_ ((by rw [hg]; exact Nat.ne_of_lt (blk_lt (g := gb214) (o := .cells #[.string t203, .string t204, .string t205, .slice Ao13 t206.length co13, .slice Ao14 t209.length co14] 26 (0, 0)) (blk_ BK214.out)) : gb214 ≠ gb245)); have n16_ := am_ ((by rw [hg]; exact Nat.ne_of_gt (blk_lt (g := gb214) (o := .cells #[.string t203, .string t204, .string t205, .slice Ao13 t206.length co13, .slice Ao14 t209.length co14] 26 (0, 0)) (blk_ BK214.out)) : gb245 ≠ gb214)); have n17_ := am_ ((by rw [hg]; exact Nat.ne_of_lt (blk_lt (g := gb226) (o := .cells #[.string t215, .string t216, .string t217, .slice Ao19 t218.length co19, .slice Ao20 t221.length co20] 26 (0, 0)) (blk_ BK226.out)) : gb226 ≠ gb245)); have n18_ := am_ ((by rw [hg]; exact Nat.ne_of_gt (blk_lt (g := gb226) (o := .cells #[.string t215, .string t216, .string t217, .slice Ao19 t218.length co19, .slice Ao20 t221.length co20] 26 (0, 0)) (blk_ BK226.out)) : gb245 ≠ gb226)); have n19_ := am_ ((by rw [hg]; exact Nat.ne_of_lt (blk_lt (g := gb238) (o := .cells #[.string t227, .string t228, .string t229, .slice Ao26 t230.length co26, .slice Ao27 t233.length co27] 26 (0, 0)) (blk_ BK238.out)) : gb238 ≠ gb245)); have n20_ := am_ ((by rw [hg]; exact Nat.ne_of_gt (blk_lt (g := gb238) (o := .cells #[.string t227, .string t228, .string t229, .slice Ao26 t230.length co26, .slice Ao27 t233.length co27] 26 (0, 0)) (blk_ BK238.out)) : gb245 ≠ gb238)); clear HO208 HO211 HO220 HO223 HO232 HO235 HO241 HO244 BK214 BK226 BK238 HB; have HO208 := n0_; have HO211 := n1_; have HO220 := n2_; have HO223 := n3_; have HO232 := n4_; have HO235 := n5_; have HO241 := n6_; have HO244 := n7_; have BK214 := n8_; have BK226 := n9_; have BK238 := n10_; have HB := n11_; have BK245 := n12_; have GW245 := n13_; have GE245 := n14_; have NB214_245 := n15_; have NB245_214 := n16_; have NB226_245 := n17_; have NB245_226 := n18_; have NB238_245 := n19_; have NB245_238 := n20_; clear n0_ n1_ n2_ n3_ n4_ n5_ n6_ n7_ n8_ n9_ n10_ n11_ n12_ n13_ n14_ n15_ n16_ n17_ n18_ n19_ n20_ hb hbox hg; have hnb35 := NB245_214.out; have hnc35 := NB214_245.out; have hnb36 := NB245_226.out; have hnc36 := NB226_245.out; have hnb37 := NB245_238.out; have hnc37 := NB238_245.out; have hcz38_0 : w34.cell? ⟨gb245, 0, none⟩ = some (.string (⟨#[]⟩ : ByteArray)) := (blk_cell BK245.out 0).trans rfl; have hcz38_1 : w34.cell? ⟨gb245, 1, none⟩ = some (.string (⟨#[]⟩ : ByteArray)) := (blk_cell BK245.out 1).trans rfl; have hcz38_2 : w34.cell? ⟨gb245, 2, none⟩ = some (.string (⟨#[]⟩ : ByteArray)) := (blk_cell BK245.out 2).trans rfl; have hcz38_3 : w34.cell? ⟨gb245, 3, none⟩ = some (.slice none 0 0) := (blk_cell BK245.out 3).trans rfl; have hcz38_4 : w34.cell? ⟨gb245, 4, none⟩ = some (.slice none 0 0) := (blk_cell BK245.out 4).trans rfl; have hfz38_0 := blk_frozen BK245.out 0; have hfz38_1 := blk_frozen BK245.out 1; have hfz38_2 := blk_frozen BK245.out 2; have hfz38_3 := blk_frozen BK245.out 3; have hfz38_4 := blk_frozen BK245.out 4; have hcz39_0 : w34.cell? ⟨gb214, 0, none⟩ = some (.string t203) := (blk_cell BK214.out 0).trans rfl; have hcz39_1 : w34.cell? ⟨gb214, 1, none⟩ = some (.string t204) := (blk_cell BK214.out 1).trans rfl; have hcz39_2 : w34.cell? ⟨gb214, 2, none⟩ = some (.string t205) := (blk_cell BK214.out 2).trans rfl; have hcz39_3 : w34.cell? ⟨gb214, 3, none⟩ = some (.slice Ao13 t206.length co13) := (blk_cell BK214.out 3).trans rfl; have hcz39_4 : w34.cell? ⟨gb214, 4, none⟩ = some (.slice Ao14 t209.length co14) := (blk_cell BK214.out 4).trans rfl; have hfz39_0 := blk_frozen BK214.out 0; have hfz39_1 := blk_frozen BK214.out 1; have hfz39_2 := blk_frozen BK214.out 2; have hfz39_3 := blk_frozen BK214.out 3; have hfz39_4 := blk_frozen BK214.out 4) | ((with_reducible refine gate_callee (f := 10) rfl ?_); refine goesL_ (some 33) rfl rfl Tryd.func10 kr_ rfl #[.agg #[.string t203, .string t204, .string t205, .slice Ao13 t206.length co13, .slice Ao14 t209.length co14], .agg #[.string (⟨#[71, 69, 84]⟩ : ByteArray), .string (⟨#[97, 46, 116, 101, 115, 116]⟩ : ByteArray), .string (⟨#[47, 97]⟩ : ByteArray), .slice Ao33 y239.length co33, .slice Ao32 y242.length co32]] rfl rl_ ?_; (with_reducible refine (tollref07_SameAsk.calls k t203 t204 t205 _ _ t206 _ _ t209 (⟨#[71, 69, 84]⟩ : ByteArray) (⟨#[97, 46, 116, 101, 115, 116]⟩ : ByteArray) (⟨#[47, 97]⟩ : ByteArray) _ _ y239 _ _ y242 true _ ?side1 ?side2 ?side3 ?side4 ?side5 ?side6 ?side7 ?side8 A4.out).mono ?_); (case side1 => refine (Kd.R_reads' (e := 35) (base := w.heap.size) (ok := fun k_ => ((((((some k_ ≠ (.slice Ao14 t209.length co14 : Value).ownBlock ∧ some k_ ≠ (.slice Ao19 t218.length co19 : Value).ownBlock) ∧ some k_ ≠ (.slice Ao20 t221.length co20 : Value).ownBlock) ∧ some k_ ≠ (.slice Ao26 t230.length co26 : Value).ownBlock) ∧ some k_ ≠ (.slice Ao27 t233.length co27 : Value).ownBlock) ∧ some k_ ≠ (.slice Ao33 y239.length co33 : Value).ownBlock) ∧ some k_ ≠ (.slice Ao32 y242.length co32 : Value).ownBlock)) (n := t206.length) (c := co13) ?_).2.2; exact (by (with_reducible repeat (first | apply Kd.R_alloc | apply Kd.R_drewN | apply Kd.R_drew)); exact (Kd.R_mono (Kd.R_far (p := ⟨gb245, 4, none⟩) (Kd.R_far (p := ⟨gb245, 3, none⟩) (Kd.R_far (p := ⟨gb245, 2, none⟩) (Kd.R_far (p := ⟨gb245, 1, none⟩) (Kd.R_far (p := ⟨gb245, 0, none⟩) (Kd.R_types HO208.out BK245.out (by decide)) (fun _ hk => hk.2) (.string (⟨#[71, 69, 84]⟩ : ByteArray))) (fun _ hk => hk.2) (.string (⟨#[97, 46, 116, 101, 115, 116]⟩ : ByteArray))) (fun _ hk => hk.2) (.string (⟨#[47, 97]⟩ : ByteArray))) (fun _ hk => hk.2) (.slice Ao33 y239.length co33)) (fun _ hk => hk.2) (.slice Ao32 y242.length co32)) (fun _ h_ => h_.1)))); (case side2 => exact (Kd.R_reads' HO208.out).2.1); (case side3 => refine (Kd.R_reads' (e := 35) (base := w.heap.size) (ok := fun k_ => ((((((some k_ ≠ (.slice Ao13 t206.length co13 : Value).ownBlock ∧ some k_ ≠ (.slice Ao19 t218.length co19 : Value).ownBlock) ∧ some k_ ≠ (.slice Ao20 t221.length co20 : Value).ownBlock) ∧ some k_ ≠ (.slice Ao26 t230.length co26 : Value).ownBlock) ∧ some k_ ≠ (.slice Ao27 t233.length co27 : Value).ownBlock) ∧ some k_ ≠ (.slice Ao33 y239.length co33 : Value).ownBlock) ∧ some k_ ≠ (.slice Ao32 y242.length co32 : Value).ownBlock)) (n := t209.length) (c := co14) ?_).2.2; exact (by (with_reducible repeat (first | apply Kd.R_alloc | apply Kd.R_drewN | apply Kd.R_drew)); exact (Kd.R_mono (Kd.R_far (p := ⟨gb245, 4, none⟩) (Kd.R_far (p := ⟨gb245, 3, none⟩) (Kd.R_far (p := ⟨gb245, 2, none⟩) (Kd.R_far (p := ⟨gb245, 1, none⟩) (Kd.R_far (p := ⟨gb245, 0, none⟩) (Kd.R_types HO211.out BK245.out (by decide)) (fun _ hk => hk.2) (.string (⟨#[71, 69, 84]⟩ : ByteArray))) (fun _ hk => hk.2) (.string (⟨#[97, 46, 116, 101, 115, 116]⟩ : ByteArray))) (fun _ hk => hk.2) (.string (⟨#[47, 97]⟩ : ByteArray))) (fun _ hk => hk.2) (.slice Ao33 y239.length co33)) (fun _ hk => hk.2) (.slice Ao32 y242.length co32)) (fun _ h_ => h_.1)))); (case side4 => exact (Kd.R_reads' HO211.out).2.1); (case side5 => refine (Kd.R_reads' (e := 35) (base := w.heap.size) (ok := fun k_ => (((((((True ∧ some k_ ≠ (.slice Ao13 t206.length co13 : Value).ownBlock) ∧ some k_ ≠ (.slice Ao14 t209.length co14 : Value).ownBlock) ∧ some k_ ≠ (.slice Ao19 t218.length co19 : Value).ownBlock) ∧ some k_ ≠ (.slice Ao20 t221.length co20 : Value).ownBlock) ∧ some k_ ≠ (.slice Ao26 t230.length co26 : Value).ownBlock) ∧ some k_ ≠ (.slice Ao27 t233.length co27 : Value).ownBlock) ∧ some k_ ≠ (.slice Ao32 y242.length co32 : Value).ownBlock)) (n := y239.length) (c := co33) ?_).2.2; exact (by (with_reducible repeat (first | apply Kd.R_alloc | apply Kd.R_drewN | apply Kd.R_drew)); exact (Kd.R_mono (Kd.R_far (p := ⟨gb245, 4, none⟩) (Kd.R_far (p := ⟨gb245, 3, none⟩) (Kd.R_far (p := ⟨gb245, 2, none⟩) (Kd.R_far (p := ⟨gb245, 1, none⟩) (Kd.R_far (p := ⟨gb245, 0, none⟩) (Kd.R_types HO241.out BK245.out (by decide)) (fun _ hk => hk.2) (.string (⟨#[71, 69, 84]⟩ : ByteArray))) (fun _ hk => hk.2) (.string (⟨#[97, 46, 116, 101, 115, 116]⟩ : ByteArray))) (fun _ hk => hk.2) (.string (⟨#[47, 97]⟩ : ByteArray))) (fun _ hk => hk.2) (.slice Ao33 y239.length co33)) (fun _ hk => hk.2) (.slice Ao32 y242.length co32)) (fun _ h_ => h_.1)))); (case side6 => exact (Kd.R_reads' HO241.out).2.1); (case side7 => refine (Kd.R_reads' (e := 35) (base := w.heap.size) (ok := fun k_ => (((((((True ∧ some k_ ≠ (.slice Ao13 t206.length co13 : Value).ownBlock) ∧ some k_ ≠ (.slice Ao14 t209.length co14 : Value).ownBlock) ∧ some k_ ≠ (.slice Ao19 t218.length co19 : Value).ownBlock) ∧ some k_ ≠ (.slice Ao20 t221.length co20 : Value).ownBlock) ∧ some k_ ≠ (.slice Ao26 t230.length co26 : Value).ownBlock) ∧ some k_ ≠ (.slice Ao27 t233.length co27 : Value).ownBlock) ∧ some k_ ≠ (.slice Ao33 y239.length co33 : Value).ownBlock)) (n := y242.length) (c := co32) ?_).2.2; exact (by (with_reducible repeat (first | apply Kd.R_alloc | apply Kd.R_drewN | apply Kd.R_drew)); exact (Kd.R_mono (Kd.R_far (p := ⟨gb245, 4, none⟩) (Kd.R_far (p := ⟨gb245, 3, none⟩) (Kd.R_far (p := ⟨gb245, 2, none⟩) (Kd.R_far (p := ⟨gb245, 1, none⟩) (Kd.R_far (p := ⟨gb245, 0, none⟩) (Kd.R_types HO244.out BK245.out (by decide)) (fun _ hk => hk.2) (.string (⟨#[71, 69, 84]⟩ : ByteArray))) (fun _ hk => hk.2) (.string (⟨#[97, 46, 116, 101, 115, 116]⟩ : ByteArray))) (fun _ hk => hk.2) (.string (⟨#[47, 97]⟩ : ByteArray))) (fun _ hk => hk.2) (.slice Ao33 y239.length co33)) (fun _ hk => hk.2) (.slice Ao32 y242.length co32)) (fun _ h_ => h_.1)))); (case side8 => exact (Kd.R_reads' HO244.out).2.1); rintro e w40 ⟨rfl, hb⟩; refine ⟨_, rfl, ?_⟩; have n0_ := am_ (Kd.R_below (by (with_reducible repeat (first | apply Kd.R_alloc | apply Kd.R_drewN | apply Kd.R_drew)); exact (Kd.R_mono (Kd.R_far (p := ⟨gb245, 4, none⟩) (Kd.R_far (p := ⟨gb245, 3, none⟩) (Kd.R_far (p := ⟨gb245, 2, none⟩) (Kd.R_far (p := ⟨gb245, 1, none⟩) (Kd.R_far (p := ⟨gb245, 0, none⟩) (Kd.R_types HO208.out BK245.out (by decide)) (fun _ hk => hk.2) (.string (⟨#[71, 69, 84]⟩ : ByteArray))) (fun _ hk => hk.2) (.string (⟨#[97, 46, 116, 101, 115, 116]⟩ : ByteArray))) (fun _ hk => hk.2) (.string (⟨#[47, 97]⟩ : ByteArray))) (fun _ hk => hk.2) (.slice Ao33 y239.length co33)) (fun _ hk => hk.2) (.slice Ao32 y242.length co32)) (fun _ h_ => h_.1))) hb); have n1_ := am_ (Kd.R_below (by (with_reducible repeat (first | apply Kd.R_alloc | apply Kd.R_drewN | apply Kd.R_drew)); exact (Kd.R_mono (Kd.R_far (p := ⟨gb245, 4, none⟩) (Kd.R_far (p := ⟨gb245, 3, none⟩) (Kd.R_far (p := ⟨gb245, 2, none⟩) (Kd.R_far (p := ⟨gb245, 1, none⟩) (Kd.R_far (p := ⟨gb245, 0, none⟩) (Kd.R_types HO211.out BK245.out (by decide)) (fun _ hk => hk.2) (.string (⟨#[71, 69, 84]⟩ : ByteArray))) (fun _ hk => hk.2) (.string (⟨#[97, 46, 116, 101, 115, 116]⟩ : ByteArray))) (fun _ hk => hk.2) (.string (⟨#[47, 97]⟩ : ByteArray))) (fun _ hk => hk.2) (.slice Ao33 y239.length co33)) (fun _ hk => hk.2) (.slice Ao32 y242.length co32)) (fun _ h_ => h_.1))) hb); have n2_ := am_ (Kd.R_below (by (with_reducible repeat (first | apply Kd.R_alloc | apply Kd.R_drewN | apply Kd.R_drew)); exact (Kd.R_mono (Kd.R_far (p := ⟨gb245, 4, none⟩) (Kd.R_far (p := ⟨gb245, 3, none⟩) (Kd.R_far (p := ⟨gb245, 2, none⟩) (Kd.R_far (p := ⟨gb245, 1, none⟩) (Kd.R_far (p := ⟨gb245, 0, none⟩) (Kd.R_types HO220.out BK245.out (by decide)) (fun _ hk => hk.2) (.string (⟨#[71, 69, 84]⟩ : ByteArray))) (fun _ hk => hk.2) (.string (⟨#[97, 46, 116, 101, 115, 116]⟩ : ByteArray))) (fun _ hk => hk.2) (.string (⟨#[47, 97]⟩ : ByteArray))) (fun _ hk => hk.2) (.slice Ao33 y239.length co33)) (fun _ hk => hk.2) (.slice Ao32 y242.length co32)) (fun _ h_ => h_.1))) hb); have n3_ := am_ (Kd.R_below (by (with_reducible repeat (first | apply Kd.R_alloc | apply Kd.R_drewN | apply Kd.R_drew)); exact (Kd.R_mono (Kd.R_far (p := ⟨gb245, 4, none⟩) (Kd.R_far (p := ⟨gb245, 3, none⟩) (Kd.R_far (p := ⟨gb245, 2, none⟩) (Kd.R_far (p := ⟨gb245, 1, none⟩) (Kd.R_far (p := ⟨gb245, 0, none⟩) (Kd.R_types HO223.out BK245.out (by decide)) (fun _ hk => hk.2) (.string (⟨#[71, 69, 84]⟩ : ByteArray))) (fun _ hk => hk.2) (.string (⟨#[97, 46, 116, 101, 115, 116]⟩ : ByteArray))) (fun _ hk => hk.2) (.string (⟨#[47, 97]⟩ : ByteArray))) (fun _ hk => hk.2) (.slice Ao33 y239.length co33)) (fun _ hk => hk.2) (.slice Ao32 y242.length co32)) (fun _ h_ => h_.1))) hb); have n4_ := am_ (Kd.R_below (by (with_reducible repeat (first | apply Kd.R_alloc | apply Kd.R_drewN | apply Kd.R_drew)); exact (Kd.R_mono (Kd.R_far (p := ⟨gb245, 4, none⟩) (Kd.R_far (p := ⟨gb245, 3, none⟩) (Kd.R_far (p := ⟨gb245, 2, none⟩) (Kd.R_far (p := ⟨gb245, 1, none⟩) (Kd.R_far (p := ⟨gb245, 0, none⟩) (Kd.R_types HO232.out BK245.out (by decide)) (fun _ hk => hk.2) (.string (⟨#[71, 69, 84]⟩ : ByteArray))) (fun _ hk => hk.2) (.string (⟨#[97, 46, 116, 101, 115, 116]⟩ : ByteArray))) (fun _ hk => hk.2) (.string (⟨#[47, 97]⟩ : ByteArray))) (fun _ hk => hk.2) (.slice Ao33 y239.length co33)) (fun _ hk => hk.2) (.slice Ao32 y242.length co32)) (fun _ h_ => h_.1))) hb); have n5_ := am_ (Kd.R_below (by (with_reducible repeat (first | apply Kd.R_alloc | apply Kd.R_drewN | apply Kd.R_drew)); exact (Kd.R_mono (Kd.R_far (p := ⟨gb245, 4, none⟩) (Kd.R_far (p := ⟨gb245, 3, none⟩) (Kd.R_far (p := ⟨gb245, 2, none⟩) (Kd.R_far (p := ⟨gb245, 1, none⟩) (Kd.R_far (p := ⟨gb245, 0, none⟩) (Kd.R_types HO235.out BK245.out (by decide)) (fun _ hk => hk.2) (.string (⟨#[71, 69, 84]⟩ : ByteArray))) (fun _ hk => hk.2) (.string (⟨#[97, 46, 116, 101, 115, 116]⟩ : ByteArray))) (fun _ hk => hk.2) (.string (⟨#[47, 97]⟩ : ByteArray))) (fun _ hk => hk.2) (.slice Ao33 y239.length co33)) (fun _ hk => hk.2) (.slice Ao32 y242.length co32)) (fun _ h_ => h_.1))) hb); have n6_ := am_ (Kd.R_below (by (with_reducible repeat (first | apply Kd.R_alloc | apply Kd.R_drewN | apply Kd.R_drew)); exact (Kd.R_mono (Kd.R_far (p := ⟨gb245, 4, none⟩) (Kd.R_far (p := ⟨gb245, 3, none⟩) (Kd.R_far (p := ⟨gb245, 2, none⟩) (Kd.R_far (p := ⟨gb245, 1, none⟩) (Kd.R_far (p := ⟨gb245, 0, none⟩) (Kd.R_types HO241.out BK245.out (by decide)) (fun _ hk => hk.2) (.string (⟨#[71, 69, 84]⟩ : ByteArray))) (fun _ hk => hk.2) (.string (⟨#[97, 46, 116, 101, 115, 116]⟩ : ByteArray))) (fun _ hk => hk.2) (.string (⟨#[47, 97]⟩ : ByteArray))) (fun _ hk => hk.2) (.slice Ao33 y239.length co33)) (fun _ hk => hk.2) (.slice Ao32 y242.length co32)) (fun _ h_ => h_.1))) hb); have n7_ := am_ (Kd.R_below (by (with_reducible repeat (first | apply Kd.R_alloc | apply Kd.R_drewN | apply Kd.R_drew)); exact (Kd.R_mono (Kd.R_far (p := ⟨gb245, 4, none⟩) (Kd.R_far (p := ⟨gb245, 3, none⟩) (Kd.R_far (p := ⟨gb245, 2, none⟩) (Kd.R_far (p := ⟨gb245, 1, none⟩) (Kd.R_far (p := ⟨gb245, 0, none⟩) (Kd.R_types HO244.out BK245.out (by decide)) (fun _ hk => hk.2) (.string (⟨#[71, 69, 84]⟩ : ByteArray))) (fun _ hk => hk.2) (.string (⟨#[97, 46, 116, 101, 115, 116]⟩ : ByteArray))) (fun _ hk => hk.2) (.string (⟨#[47, 97]⟩ : ByteArray))) (fun _ hk => hk.2) (.slice Ao33 y239.length co33)) (fun _ hk => hk.2) (.slice Ao32 y242.length co32)) (fun _ h_ => h_.1))) hb); have n8_ := am_ (blk_below (g := gb214) (o := .cells #[.string t203, .string t204, .string t205, .slice Ao13 t206.length co13, .slice Ao14 t209.length co14] 26 (0, 0)) (by (with_reducible repeat (first | refine blk_drewN ?_ _ | refine blk_drew ?_ | refine blk_alloc ?_ _)); refine blk_far ?_ NB214_245.out _; (with_reducible repeat (first | refine blk_drewN ?_ _ | refine blk_drew ?_ | refine blk_alloc ?_ _)); refine blk_far ?_ NB214_245.out _; (with_reducible repeat (first | refine blk_drewN ?_ _ | refine blk_drew ?_ | refine blk_alloc ?_ _)); refine blk_far ?_ NB214_245.out _; (with_reducible repeat (first | refine blk_drewN ?_ _ | refine blk_drew ?_ | refine blk_alloc ?_ _)); refine blk_far ?_ NB214_245.out _; (with_reducible repeat (first | refine blk_drewN ?_ _ | refine blk_drew ?_ | refine blk_alloc ?_ _)); refine blk_far ?_ NB214_245.out _; (with_reducible repeat (first | refine blk_drewN ?_ _ | refine blk_drew ?_ | refine blk_alloc ?_ _)); exact BK214.out) hb); have n9_ := am_ (blk_below (g := gb226) (o := .cells #[.string t215, .string t216, .string t217, .slice Ao19 t218.length co19, .slice Ao20 t221.length co20] 26 (0, 0)) (by (with_reducible repeat (first | refine blk_drewN ?_ _ | refine blk_drew ?_ | refine blk_alloc ?_ _)); refine blk_far ?_ NB226_245.out _; (with_reducible repeat (first | refine blk_drewN ?_ _ | refine blk_drew ?_ | refine blk_alloc ?_ _)); refine blk_far ?_ NB226_245.out _; (with_reducible repeat (first | refine blk_drewN ?_ _ | refine blk_drew ?_ | refine blk_alloc ?_ _)); refine blk_far ?_ NB226_245.out _; (with_reducible repeat (first | refine blk_drewN ?_ _ | refine blk_drew ?_ | refine blk_alloc ?_ _)); refine blk_far ?_ NB226_245.out _; (with_reducible repeat (first | refine blk_drewN ?_ _ | refine blk_drew ?_ | refine blk_alloc ?_ _)); refine blk_far ?_ NB226_245.out _; (with_reducible repeat (first | refine blk_drewN ?_ _ | refine blk_drew ?_ | refine blk_alloc ?_ _)); exact BK226.out) hb); have n10_ := am_ (blk_below (g := gb238) (o := .cells #[.string t227, .string t228, .string t229, .slice Ao26 t230.length co26, .slice Ao27 t233.length co27] 26 (0, 0)) (by (with_reducible repeat (first | refine blk_drewN ?_ _ | refine blk_drew ?_ | refine blk_alloc ?_ _)); refine blk_far ?_ NB238_245.out _; (with_reducible repeat (first | refine blk_drewN ?_ _ | refine blk_drew ?_ | refine blk_alloc ?_ _)); refine blk_far ?_ NB238_245.out _; (with_reducible repeat (first | refine blk_drewN ?_ _ | refine blk_drew ?_ | refine blk_alloc ?_ _)); refine blk_far ?_ NB238_245.out _; (with_reducible repeat (first | refine blk_drewN ?_ _ | refine blk_drew ?_ | refine blk_alloc ?_ _)); refine blk_far ?_ NB238_245.out _; (with_reducible repeat (first | refine blk_drewN ?_ _ | refine blk_drew ?_ | refine blk_alloc ?_ _)); refine blk_far ?_ NB238_245.out _; (with_reducible repeat (first | refine blk_drewN ?_ _ | refine blk_drew ?_ | refine blk_alloc ?_ _)); exact BK238.out) hb); have n11_ := am_ (blk_below (g := gb245) (o := .cells #[.string (⟨#[71, 69, 84]⟩ : ByteArray), .string (⟨#[97, 46, 116, 101, 115, 116]⟩ : ByteArray), .string (⟨#[47, 97]⟩ : ByteArray), .slice Ao33 y239.length co33, .slice Ao32 y242.length co32] 26 (0, 0)) (by (with_reducible repeat (first | refine blk_drewN ?_ _ | refine blk_drew ?_ | refine blk_alloc ?_ _)); refine blk_put (cs := #[.string (⟨#[71, 69, 84]⟩ : ByteArray), .string (⟨#[97, 46, 116, 101, 115, 116]⟩ : ByteArray), .string (⟨#[47, 97]⟩ : ByteArray), .slice Ao33 y239.length co33, .slice none 0 0]) ?_ 4 _ rfl; (with_reducible repeat (first | refine blk_drewN ?_ _ | refine blk_drew ?_ | refine blk_alloc ?_ _)); refine blk_put (cs := #[.string (⟨#[71, 69, 84]⟩ : ByteArray), .string (⟨#[97, 46, 116, 101, 115, 116]⟩ : ByteArray), .string (⟨#[47, 97]⟩ : ByteArray), .slice none 0 0, .slice none 0 0]) ?_ 3 _ rfl; (with_reducible repeat (first | refine blk_drewN ?_ _ | refine blk_drew ?_ | refine blk_alloc ?_ _)); refine blk_put (cs := #[.string (⟨#[71, 69, 84]⟩ : ByteArray), .string (⟨#[97, 46, 116, 101, 115, 116]⟩ : ByteArray), .string (⟨#[]⟩ : ByteArray), .slice none 0 0, .slice none 0 0]) ?_ 2 _ rfl; (with_reducible repeat (first | refine blk_drewN ?_ _ | refine blk_drew ?_ | refine blk_alloc ?_ _)); refine blk_put (cs := #[.string (⟨#[71, 69, 84]⟩ : ByteArray), .string (⟨#[]⟩ : ByteArray), .string (⟨#[]⟩ : ByteArray), .slice none 0 0, .slice none 0 0]) ?_ 1 _ rfl; (with_reducible repeat (first | refine blk_drewN ?_ _ | refine blk_drew ?_ | refine blk_alloc ?_ _)); refine blk_put (cs := #[.string (⟨#[]⟩ : ByteArray), .string (⟨#[]⟩ : ByteArray), .string (⟨#[]⟩ : ByteArray), .slice none 0 0, .slice none 0 0]) ?_ 0 _ rfl; (with_reducible repeat (first | refine blk_drewN ?_ _ | refine blk_drew ?_ | refine blk_alloc ?_ _)); exact BK245.out) hb); have n12_ := am_ (below_step (bel_ HB.out) hb); clear HO208 HO211 HO220 HO223 HO232 HO235 HO241 HO244 BK214 BK226 BK238 BK245 HB; have HO208 := n0_; have HO211 := n1_; have HO220 := n2_; have HO223 := n3_; have HO232 := n4_; have HO235 := n5_; have HO241 := n6_; have HO244 := n7_; have BK214 := n8_; have BK226 := n9_; have BK238 := n10_; have BK245 := n11_; have HB := n12_; clear n0_ n1_ n2_ n3_ n4_ n5_ n6_ n7_ n8_ n9_ n10_ n11_ n12_; (try clear hb); (try clear hb2); (try clear hk); (try clear hi)))
      go_ret
      exact ⟨fi_, bel_ HB.out⟩
     ·rw [if_neg c9] at H
      exact absurd H (by simp)
    ·rw [if_neg c8] at H
     exact absurd H (by simp)
   ·rw [if_neg c7] at H
    exact absurd H (by simp)
  ·rw [if_neg c6] at H
   exact absurd H (by simp)
 ·replace c5 := Bool.eq_false_iff.mpr c5
  subst c5
  have H1 : (none) = some r := by rw [if_neg (show ¬ (false = true) by decide)] at H; exact H
  clear H
  have H := H1
  clear H1
  exact absurd H (by simp)

/-! ### query_Plain: function 55 -/
mutual
def query_Plain.j0 : Nat → Int → Bool → Option (Bool)
 | 0, _, _ => none
 | k + 1, x0, x3 => if x3 = true then (some true) else (if x0 ≥ 65 then (query_Plain.j1 k x0 (decide (x0 ≤ 90))) else (query_Plain.j1 k x0 false))
def query_Plain.j1 : Nat → Int → Bool → Option (Bool)
 | 0, _, _ => none
 | k + 1, x0, x3 => if x3 = true then (some true) else (if x0 ≥ 48 then (if x0 ≤ 57 then (some true) else ((strings_IndexByte.f (⟨#[45, 46, 95, 126]⟩ : ByteArray) x0).bind fun t313 => (some (decide (t313 ≥ 0))))) else ((strings_IndexByte.f (⟨#[45, 46, 95, 126]⟩ : ByteArray) x0).bind fun t314 => (some (decide (t314 ≥ 0)))))
end
def query_Plain.f (k : Nat) (a0 : Int) : Option (Bool) := if a0 ≥ 97 then (query_Plain.j0 k a0 (decide (a0 ≤ 122))) else (query_Plain.j0 k a0 false)
theorem query_Plain.mono_l : ∀ k, (∀ y0 y1, LeO (query_Plain.j0 k y0 y1) (query_Plain.j0 (k + 1) y0 y1)) ∧ (∀ y0 y1, LeO (query_Plain.j1 k y0 y1) (query_Plain.j1 (k + 1) y0 y1))
 | 0 => ⟨fun _ _ r h => by simp [query_Plain.j0] at h, fun _ _ r h => by simp [query_Plain.j1] at h⟩
 | k + 1 => by
  obtain ⟨ih0, ih1⟩ := query_Plain.mono_l k
  refine ⟨?_, ?_⟩
  ·intro y0 y1
   unfold query_Plain.j0
   repeat' first
   | (with_reducible exact ih0 _ _)
   | (with_reducible exact ih1 _ _)
   | (with_reducible exact LeO.refl _)
   | (with_reducible exact LeO.none _)
   | (with_reducible refine LeO.ite ?_ ?_)
   | (with_reducible refine LeO.bind ?_ (fun _ => ?_))
   | exact ih0 _ _
   | exact ih1 _ _
   | exact LeO.none _
   | refine LeO.ite ?_ ?_
   | refine LeO.bind ?_ (fun _ => ?_)
  ·intro y0 y1
   unfold query_Plain.j1
   repeat' first
   | (with_reducible exact ih0 _ _)
   | (with_reducible exact ih1 _ _)
   | (with_reducible exact LeO.refl _)
   | (with_reducible exact LeO.none _)
   | (with_reducible refine LeO.ite ?_ ?_)
   | (with_reducible refine LeO.bind ?_ (fun _ => ?_))
   | exact ih0 _ _
   | exact ih1 _ _
   | exact LeO.none _
   | refine LeO.ite ?_ ?_
   | refine LeO.bind ?_ (fun _ => ?_)
theorem query_Plain.mono : ∀ a0 k, LeO (query_Plain.f k a0) (query_Plain.f (k + 1) a0) := by
 intro a0 k
 obtain ⟨ih0, ih1⟩ := query_Plain.mono_l k
 unfold query_Plain.f
 repeat' first
   | (with_reducible exact ih0 _ _)
   | (with_reducible exact ih1 _ _)
   | (with_reducible exact LeO.refl _)
   | (with_reducible exact LeO.none _)
   | (with_reducible refine LeO.ite ?_ ?_)
   | (with_reducible refine LeO.bind ?_ (fun _ => ?_))
   | exact ih0 _ _
   | exact ih1 _ _
   | exact LeO.none _
   | refine LeO.ite ?_ ?_
   | refine LeO.bind ?_ (fun _ => ?_)
set_option maxHeartbeats 8000000 in
set_option maxRecDepth 100000 in
theorem query_Plain.calls (k : Nat) (a0 : Int) (r : Bool) (w : World) (h : query_Plain.f k a0 = some r) :
  Calls Tryd.prog 55 #[.int .u8 a0] w fun e w' => e = .returned (.bool r) ∧ Drawn0 w w' := by
 have H : (if a0 ≥ 97 then (query_Plain.j0 k a0 (decide (a0 ≤ 122))) else (query_Plain.j0 k a0 false)) = some r := h
 clear h
 have HC2 := Aside0.mk H
 clear H
 go_enter Tryd.func55, Tryd.ntmps55
 go_upto_region 1 with (fail)
 go_cut [3] (fun v3 wc => ∃ (kq : Nat) (x3_1 : Bool), v3 = .bool x3_1 ∧ Aside0 (query_Plain.j0 kq a0 x3_1 = some r) ∧ Aside0 (kq ≤ k) ∧ Drawn0 w wc)
 case first =>
  have H := HC2.out
  clear HC2
  by_cases c3 : a0 ≥ 97
  ·rw [if_pos c3] at H
   have c3b0 : decide (97 ≤ a0) = true := decide_eq_true c3
   clear c3
   (first | rw [c3b0] | rw [c3b1] | rw [c3b2] | (simp only [i64_w, i32_w]; rw [c3b0]) | skip)
   have H' := Aside0.mk H
   clear H
   go_wp2
   go_meet
   case rel => exact ⟨_, (decide (a0 ≤ 122)), sd_, H', ⟨by first | omega | exact Nat.le_refl _⟩, by repeat (first | exact Drawn0.refl _ | apply Drawn0.step)⟩
  ·rw [if_neg c3] at H
   have c3b0 : decide (97 ≤ a0) = false := decide_eq_false c3
   clear c3
   (first | rw [c3b0] | rw [c3b1] | rw [c3b2] | (simp only [i64_w, i32_w]; rw [c3b0]) | skip)
   have H' := Aside0.mk H
   clear H
   go_wp2
   go_meet
   case rel => exact ⟨_, (false), sd_, H', ⟨by first | omega | exact Nat.le_refl _⟩, by repeat (first | exact Drawn0.refl _ | apply Drawn0.step)⟩
 case rest =>
  clear HC2
  try clear p2
  try clear c3
  try clear c3b0
  try clear c3b1
  try clear c3b2
  obtain ⟨kq, x3_1, rfl, HA, HJ1, ⟨mc1, rfl⟩⟩ := hcut
  cases kq with
  | zero => exact absurd HA.out (by simp [query_Plain.j0])
  | succ kj1 =>
   have H := HA.out
   clear HA
   simp only [query_Plain.j0] at H
   by_cases c4 : x3_1 = true
   ·subst c4
    have H1 : (some true) = some r := by rw [if_pos rfl] at H; exact H
    clear H
    have H := H1
    clear H1
    obtain rfl := Option.some.inj H
    go_wp2
    go_ret
    exact ⟨by first | rfl | (simp; done) | (simp [*]; done) | (simp [bne_nil_isEmpty, beq_nil_isEmpty]; done) | (simp [*, bne_nil_isEmpty, beq_nil_isEmpty]; done), by repeat (first | exact Drawn0.refl _ | apply Drawn0.step)⟩
   ·replace c4 := Bool.eq_false_iff.mpr c4
    subst c4
    have H1 : (if a0 ≥ 65 then (query_Plain.j1 kj1 a0 (decide (a0 ≤ 90))) else (query_Plain.j1 kj1 a0 false)) = some r := by rw [if_neg (show ¬ (false = true) by decide)] at H; exact H
    clear H
    have H := H1
    clear H1
    have HC5 := Aside0.mk H
    clear H
    go_upto_region 2 with (fail)
    go_cut [3] (fun v3 wc => ∃ (kq : Nat) (x3_4 : Bool), v3 = .bool x3_4 ∧ Aside0 (query_Plain.j1 kq a0 x3_4 = some r) ∧ Aside0 (kq ≤ kj1) ∧ Drawn0 w wc)
    case first =>
     have H := HC5.out
     clear HC5
     by_cases c6 : a0 ≥ 65
     ·rw [if_pos c6] at H
      have c6b0 : decide (65 ≤ a0) = true := decide_eq_true c6
      clear c6
      (first | rw [c6b0] | rw [c6b1] | rw [c6b2] | (simp only [i64_w, i32_w]; rw [c6b0]) | skip)
      have H' := Aside0.mk H
      clear H
      go_wp2
      go_meet
      case rel => exact ⟨_, (decide (a0 ≤ 90)), sd_, H', ⟨by have := HJ1.out; first | omega | exact Nat.le_refl _⟩, by repeat (first | exact Drawn0.refl _ | apply Drawn0.step)⟩
     ·rw [if_neg c6] at H
      have c6b0 : decide (65 ≤ a0) = false := decide_eq_false c6
      clear c6
      (first | rw [c6b0] | rw [c6b1] | rw [c6b2] | (simp only [i64_w, i32_w]; rw [c6b0]) | skip)
      have H' := Aside0.mk H
      clear H
      go_wp2
      go_meet
      case rel => exact ⟨_, (false), sd_, H', ⟨by have := HJ1.out; first | omega | exact Nat.le_refl _⟩, by repeat (first | exact Drawn0.refl _ | apply Drawn0.step)⟩
    case rest =>
     clear HC5
     try clear c1
     try clear p2
     try clear c3
     try clear c3b0
     try clear c3b1
     try clear c3b2
     try clear c4
     try clear c5
     try clear c6
     try clear c6b0
     try clear c6b1
     try clear c6b2
     try clear p2
     obtain ⟨kq, x3_4, rfl, HA, HJ4, ⟨mc4, rfl⟩⟩ := hcut
     cases kq with
     | zero => exact absurd HA.out (by simp [query_Plain.j1])
     | succ kj4 =>
      have H := HA.out
      clear HA
      simp only [query_Plain.j1] at H
      by_cases c7 : x3_4 = true
      ·subst c7
       have H1 : (some true) = some r := by rw [if_pos rfl] at H; exact H
       clear H
       have H := H1
       clear H1
       obtain rfl := Option.some.inj H
       go_wp2
       go_ret
       exact ⟨by first | rfl | (simp; done) | (simp [*]; done) | (simp [bne_nil_isEmpty, beq_nil_isEmpty]; done) | (simp [*, bne_nil_isEmpty, beq_nil_isEmpty]; done), by repeat (first | exact Drawn0.refl _ | apply Drawn0.step)⟩
      ·replace c7 := Bool.eq_false_iff.mpr c7
       subst c7
       have H1 : (if a0 ≥ 48 then (if a0 ≤ 57 then (some true) else ((strings_IndexByte.f (⟨#[45, 46, 95, 126]⟩ : ByteArray) a0).bind fun t313 => (some (decide (t313 ≥ 0))))) else ((strings_IndexByte.f (⟨#[45, 46, 95, 126]⟩ : ByteArray) a0).bind fun t314 => (some (decide (t314 ≥ 0))))) = some r := by rw [if_neg (show ¬ (false = true) by decide)] at H; exact H
       clear H
       have H := H1
       clear H1
       by_cases c8 : a0 ≥ 48
       ·rw [if_pos c8] at H
        have c8b0 : decide (48 ≤ a0) = true := decide_eq_true c8
        clear c8
        by_cases c9 : a0 ≤ 57
        ·rw [if_pos c9] at H
         have c9b0 : decide (a0 ≤ 57) = true := decide_eq_true c9
         clear c9
         obtain rfl := Option.some.inj H
         go_wp2
         go_ret
         exact ⟨by first | rfl | (simp; done) | (simp [*]; done) | (simp [bne_nil_isEmpty, beq_nil_isEmpty]; done) | (simp [*, bne_nil_isEmpty, beq_nil_isEmpty]; done), by repeat (first | exact Drawn0.refl _ | apply Drawn0.step)⟩
        ·rw [if_neg c9] at H
         have c9b0 : decide (a0 ≤ 57) = false := decide_eq_false c9
         clear c9
         replace H := Option.bind_eq_some_iff.mp H
         obtain ⟨t313, A100, H⟩ := H
         replace H : (some (decide (t313 ≥ 0))) = some r := H
         have A10 := Aside0.mk A100
         clear A100
         obtain rfl := Option.some.inj H
         go_wp2_with (first | ((with_reducible refine gate_callee (f := 46) rfl ?_); refine goesL_ (some 23) rfl rfl Tryd.func46 kr_ rfl #[.string (⟨#[45, 46, 95, 126]⟩ : ByteArray), .int .u8 a0] rfl rl_ ?_; (with_reducible refine (strings_IndexByte.calls (⟨#[45, 46, 95, 126]⟩ : ByteArray) a0 t313 _ A10.out).mono ?_); rintro e w' ⟨rfl, ⟨nd, rfl⟩⟩; refine ⟨_, rfl, ?_⟩))
         go_ret
         exact ⟨by first | rfl | (simp; done) | (simp [*]; done) | (simp [bne_nil_isEmpty, beq_nil_isEmpty]; done) | (simp [*, bne_nil_isEmpty, beq_nil_isEmpty]; done), by repeat (first | exact Drawn0.refl _ | apply Drawn0.step)⟩
       ·rw [if_neg c8] at H
        have c8b0 : decide (48 ≤ a0) = false := decide_eq_false c8
        clear c8
        replace H := Option.bind_eq_some_iff.mp H
        obtain ⟨t314, A110, H⟩ := H
        replace H : (some (decide (t314 ≥ 0))) = some r := H
        have A11 := Aside0.mk A110
        clear A110
        obtain rfl := Option.some.inj H
        go_wp2_with (first | ((with_reducible refine gate_callee (f := 46) rfl ?_); refine goesL_ (some 23) rfl rfl Tryd.func46 kr_ rfl #[.string (⟨#[45, 46, 95, 126]⟩ : ByteArray), .int .u8 a0] rfl rl_ ?_; (with_reducible refine (strings_IndexByte.calls (⟨#[45, 46, 95, 126]⟩ : ByteArray) a0 t314 _ A11.out).mono ?_); rintro e w' ⟨rfl, ⟨nd, rfl⟩⟩; refine ⟨_, rfl, ?_⟩))
        go_ret
        exact ⟨by first | rfl | (simp; done) | (simp [*]; done) | (simp [bne_nil_isEmpty, beq_nil_isEmpty]; done) | (simp [*, bne_nil_isEmpty, beq_nil_isEmpty]; done), by repeat (first | exact Drawn0.refl _ | apply Drawn0.step)⟩

/-! ### the shelf's Lays.n156 at this program -/
def laysB_ren : Go.Shelf.Ren := ⟨fun | 167 => 56 | 170 => 29 | 156 => 39 | 165 => 57 | 166 => 26 | 169 => 30 | 240 => 45 | 241 => 80 | 276 => 66 | 277 => 89 | n => n, fun | 31 => 65 | 9 => 9 | 3 => 3 | 4 => 4 | 0 => 0 | 20 => 20 | 72 => 51 | 76 => 54 | 70 => 49 | 37 => 33 | 75 => 53 | 127 => 73 | 164 => 85 | 5 => 5 | 80 => 57 | n => n, fun  | n => n⟩
theorem laysB : Lays.n156 Tryd.prog laysB_ren where
 mixed := by kernel_rfl
 f156 := Tryd.func39.trans (congrArg some kr_)
 f165 := Tryd.func57.trans (congrArg some kr_)
 f166 := Tryd.func26.trans (congrArg some kr_)
 f169 := Tryd.func30.trans (congrArg some kr_)
 f240 := Tryd.func45.trans (congrArg some kr_)
 f241 := Tryd.func80.trans (congrArg some kr_)
 f276 := Tryd.func66.trans (congrArg some kr_)
 f277 := Tryd.func89.trans (congrArg some kr_)
 t0 := Tryd.underlying0
 a0 := Tryd.isAgg0
 z0 := Tryd.sizeOf0
 v0 := Tryd.zeroValue0
 t3 := Tryd.underlying3
 a3 := Tryd.isAgg3
 z3 := Tryd.sizeOf3
 v3 := Tryd.zeroValue3
 t4 := Tryd.underlying4
 a4 := Tryd.isAgg4
 z4 := Tryd.sizeOf4
 v4 := Tryd.zeroValue4
 t9 := Tryd.underlying9
 a9 := Tryd.isAgg9
 z9 := Tryd.sizeOf9
 v9 := Tryd.zeroValue9
 t20 := Tryd.underlying20
 a20 := Tryd.isAgg20
 z20 := Tryd.sizeOf20
 v20 := Tryd.zeroValue20
 t31 := Tryd.underlying65
 a31 := Tryd.isAgg65
 z31 := Tryd.sizeOf65
 v31 := Tryd.zeroValue65
 t37 := Tryd.underlying33
 a37 := Tryd.isAgg33
 z37 := Tryd.sizeOf33
 v37 := Tryd.zeroValue33
 t70 := Tryd.underlying49
 a70 := Tryd.isAgg49
 z70 := Tryd.sizeOf49
 v70 := Tryd.zeroValue49
 t72 := Tryd.underlying51
 a72 := Tryd.isAgg51
 z72 := Tryd.sizeOf51
 v72 := Tryd.zeroValue51
 t75 := Tryd.underlying53
 a75 := Tryd.isAgg53
 z75 := Tryd.sizeOf53
 v75 := Tryd.zeroValue53
 t76 := Tryd.underlying54
 a76 := Tryd.isAgg54
 z76 := Tryd.sizeOf54
 v76 := Tryd.zeroValue54
 t127 := Tryd.underlying73
 a127 := Tryd.isAgg73
 z127 := Tryd.sizeOf73
 v127 := Tryd.zeroValue73
 t164 := Tryd.underlying85
 a164 := Tryd.isAgg85
 z164 := Tryd.sizeOf85
 v164 := Tryd.zeroValue85

/-! ### builder_own: a text under way, in a block that a call has made itself -/
theorem extraB : Builder.Extra Tryd.prog laysB_ren where
 sizeBuilder := by kernel_rfl
 liesBuilder := by kernel_rfl
 t5 := Tryd.underlying5
 a5 := Tryd.isAgg5
 z5 := Tryd.sizeOf5
 v5 := Tryd.zeroValue5
 infoByte := by kernel_rfl
 cellsByte := by kernel_rfl
 sizeByte := by kernel_rfl
 neB5 := by decide
theorem laysB166 : Lays.n166 Tryd.prog laysB_ren := { laysB with }
theorem laysB167 : Lays.n167 Tryd.prog laysB_ren := { laysB with f167 := Tryd.func56.trans (congrArg some kr_), t5 := Tryd.underlying5, a5 := Tryd.isAgg5, z5 := Tryd.sizeOf5, v5 := Tryd.zeroValue5 }
theorem laysB169 : Lays.n169 Tryd.prog laysB_ren := { laysB with }
theorem laysB170 : Lays.n170 Tryd.prog laysB_ren := { laysB with f170 := Tryd.func29.trans (congrArg some kr_) }
/-- The builder of block B, B the first of a call's own, holds these octets. -/
def Bld (B : Nat) (l : List UInt8) (w : World) : Prop := Lib.IsBuilder 51 5 B B (Lib.byteCells l) w
theorem bld_new (w : World) : Bld w.heap.size [] (w.alloc (.cells #[.pointer none, .slice none 0 0] 51)) := Lib.fresh_isBuilder 51 5 w
theorem bld_byte (B : Nat) (l : List UInt8) (c : UInt8) (w : World) (h : Bld B l w) (hlen : l.length + 1 ≤ 140737488355328) (hBw : B ≤ w.heap.size) :
  Calls Tryd.prog 56 #[.pointer (some ⟨B, 0, none⟩), .int .u8 c.toNat] w fun e w' => e = .returned .nilIface ∧ Bld B (l ++ [c]) w' ∧ Below B w w' := by
 refine (Any.Builder_WriteByte laysB167 extraB B B (Lib.byteCells l) c.toNat w h (by rw [Lib.byteCells_length]; exact hlen) hBw).mono ?_
 rintro e w' ⟨rfl, h1, h2⟩
 refine ⟨rfl, Or.inr ?_, h2⟩
 rw [Lib.byteCells_append]
 exact h1
theorem bld_text (B : Nat) (l : List UInt8) (s : ByteArray) (w : World) (h : Bld B l w) (hlen : l.length + s.size ≤ 140737488355328) (hBw : B ≤ w.heap.size) :
  Calls Tryd.prog 26 #[.pointer (some ⟨B, 0, none⟩), .string s] w fun e w' => e = .returned (.tuple #[.int .i64 s.size, .nilIface]) ∧ Bld B (l ++ s.data.toList) w' ∧ Below B w w' := by
 refine (Any.Builder_WriteString laysB166 extraB B B (Lib.byteCells l) s w h (by rw [Lib.byteCells_length]; exact hlen) hBw).mono ?_
 rintro e w' ⟨rfl, h1, h2⟩
 refine ⟨rfl, Or.inr ?_, h2⟩
 rw [Lib.byteCells_append, ← Lib.strCells_eq]
 exact h1
theorem bld_len (B : Nat) (l : List UInt8) (w : World) (h : Bld B l w) :
  Calls Tryd.prog 29 #[.pointer (some ⟨B, 0, none⟩)] w fun e w' => e = .returned (.int .i64 l.length) ∧ w' = w := by
 refine (Any.Builder_Len laysB170 B B (Lib.byteCells l) w h).mono ?_
 rintro e w' ⟨rfl, rfl⟩
 rw [Lib.byteCells_length]
 exact ⟨rfl, rfl⟩
theorem bld_done (B : Nat) (l : List UInt8) (w : World) (h : Bld B l w) (hBw : B ≤ w.heap.size) :
  Calls Tryd.prog 30 #[.pointer (some ⟨B, 0, none⟩)] w fun e w' => e = .returned (.string ⟨l.toArray⟩) ∧ Below B w w' :=
 Any.Builder_String_any laysB169 extraB B B l w h hBw
theorem bld_below {B : Nat} {l : List UInt8} {w w' : World} (h : Bld B l w) (hb : Below w.heap.size w w') : Bld B l w' := by
 have f : ∀ p, Lib.BuilderAt 51 5 B B p (Lib.byteCells l) w → Lib.BuilderAt 51 5 B B p (Lib.byteCells l) w' := by
  rintro p ⟨h1, v, h2, h3, h4⟩
  exact ⟨h1, v, (hb.block _ (blk_lt h2)).trans h2, h3.kept (row := none) ⟨hb.os, hb.tape, hb.output, hb.size, fun k hk _ => hb.block k hk⟩ (Classical.em _), h4⟩
 exact h.elim (fun x => .inl (f _ x)) (fun x => .inr (f _ x))

/-! ### query_written: function 38 -/
def query_written.x (n : Nat) : UInt8 := UInt8.ofNat (if n < 10 then 48 + n else 55 + n)
def query_written.o (k : Nat) (c : UInt8) : Option (List UInt8) := (query_Plain.f k c.toNat).bind fun b => if b = true then some [c] else if c.toNat = 32 then some [43] else some [37, query_written.x (c.toNat / 16), query_written.x (c.toNat % 16)]
def query_written.g (k : Nat) : List UInt8 → Option (List UInt8)
 | [] => some []
 | c :: r => (query_written.o k c).bind fun x => (query_written.g k r).bind fun y => some (x ++ y)
def query_written.f (k : Nat) (a0 : ByteArray) : Option (ByteArray) := if a0.size ≤ 40000000000000 then (query_written.g k a0.data.toList).bind fun l => some ⟨l.toArray⟩ else none
theorem query_written.o_mono : ∀ c k, LeO (query_written.o k c) (query_written.o (k + 1) c) := by
 intro c k
 unfold query_written.o
 refine LeO.bind (query_Plain.mono _ _) (fun _ => ?_)
 exact LeO.refl _
theorem query_written.g_mono : ∀ l k, LeO (query_written.g k l) (query_written.g (k + 1) l) := by
 intro l k
 induction l with
 | nil => exact LeO.refl _
 | cons c r ih =>
  unfold query_written.g
  exact LeO.bind (query_written.o_mono c k) (fun _ => LeO.bind ih (fun _ => LeO.refl _))
theorem query_written.mono : ∀ a0 k, LeO (query_written.f k a0) (query_written.f (k + 1) a0) := by
 intro a0 k
 unfold query_written.f
 refine LeO.ite (LeO.bind (query_written.g_mono _ _) (fun _ => LeO.refl _)) (LeO.refl _)
theorem query_written.g_snoc (k : Nat) : ∀ (l : List UInt8) (c : UInt8) (x y : List UInt8), query_written.g k l = some x → query_written.o k c = some y → query_written.g k (l ++ [c]) = some (x ++ y) := by
 intro l
 induction l with
 | nil => intro c x y h1 h2; rw [query_written.g] at h1; obtain rfl := Option.some.inj h1; simp [query_written.g, h2]
 | cons a r ih =>
  intro c x y h1 h2
  rw [query_written.g] at h1
  obtain ⟨u, e1, h1⟩ := Option.bind_eq_some_iff.1 h1
  obtain ⟨v, e2, h1⟩ := Option.bind_eq_some_iff.1 h1
  obtain rfl := Option.some.inj h1
  rw [List.cons_append, query_written.g, e1, Option.bind_some, ih c v y e2 h2, Option.bind_some, List.append_assoc]
theorem query_written.g_get (k : Nat) : ∀ (l : List UInt8) (x : List UInt8), query_written.g k l = some x → ∀ (j : Nat) c, l[j]? = some c → ∃ y, query_written.o k c = some y := by
 intro l
 induction l with
 | nil => intro x _ j c h; simp at h
 | cons a r ih =>
  intro x h1 j c hj
  rw [query_written.g] at h1
  obtain ⟨u, e1, h1⟩ := Option.bind_eq_some_iff.1 h1
  obtain ⟨v, e2, h1⟩ := Option.bind_eq_some_iff.1 h1
  cases j with
  | zero => rw [List.getElem?_cons_zero] at hj; obtain rfl := Option.some.inj hj; exact ⟨u, e1⟩
  | succ j => rw [List.getElem?_cons_succ] at hj; exact ih v e2 j c hj
theorem query_written.o_len (k : Nat) (c : UInt8) (y : List UInt8) (h : query_written.o k c = some y) : y.length ≤ 3 := by
 unfold query_written.o at h
 obtain ⟨b, _, h⟩ := Option.bind_eq_some_iff.1 h
 split at h
 ·obtain rfl := Option.some.inj h; simp
 ·split at h
  ·obtain rfl := Option.some.inj h; simp
  ·obtain rfl := Option.some.inj h; simp
noncomputable def query_written.T6 : Bool × List (List Nat × List Nat) := (true, [([], []), ([0], [0]), ([], []), ([2], [2]), ([3], [3]), ([1, 4], [1, 4]), ([5], [5]), ([], []), ([7], [7]), ([], []), ([9], [9]), ([10], [10]), ([8, 11], [8, 11]), ([6, 12], [6, 12]), ([13], [13])])
noncomputable def query_written.B6 : List Nat := [0, 1, 0, 4, 12, 31, 63, 0, 128, 0, 512, 1536, 3968, 8191, 16383]
theorem query_written.tab6 : rtab .any (opsOf Tryd.f38 6) = query_written.T6 := by kernel_rfl
theorem query_written.bits6 : waitsOk query_written.T6.2 query_written.B6 = true := by kernel_rfl
set_option maxRecDepth 100000 in
theorem query_written.cut (n : Nat) (h : n < 16) (w : World) : (Instr.slice 9 (Value.string { data := #[48, 49, 50, 51, 52, 53, 54, 55, 56, 57, 65, 66, 67, 68, 69, 70] }) (some (Value.int IntKind.u8 (n : Int))) (some (Value.int IntKind.u8 (IntKind.u8.wrap ((n : Int) + 1)))) none).run Tryd.prog w = .ok (.string ⟨#[query_written.x n]⟩) w := by
 match n, h, w with
 | 0, _, _ => rfl
 | 1, _, _ => rfl
 | 2, _, _ => rfl
 | 3, _, _ => rfl
 | 4, _, _ => rfl
 | 5, _, _ => rfl
 | 6, _, _ => rfl
 | 7, _, _ => rfl
 | 8, _, _ => rfl
 | 9, _, _ => rfl
 | 10, _, _ => rfl
 | 11, _, _ => rfl
 | 12, _, _ => rfl
 | 13, _, _ => rfl
 | 14, _, _ => rfl
 | 15, _, _ => rfl
 | n + 16, h, _ => exact absurd h (by omega)
theorem query_written.low (c : UInt8) : Go.bits .and .u8 (c.toNat : Int) 15 = ((c.toNat % 16 : Nat) : Int) := by
 have h : ∀ n : Fin 256, Go.bits .and .u8 (n.val : Int) 15 = ((n.val % 16 : Nat) : Int) := by decide +kernel
 exact h ⟨c.toNat, c.toNat_lt⟩
set_option maxHeartbeats 8000000 in
set_option maxRecDepth 100000 in
theorem query_written.calls (k : Nat) (a0 : ByteArray) (r : ByteArray) (w : World) (h : query_written.f k a0 = some r) :
  Calls Tryd.prog 38 #[.string a0] w fun e w' => e = .returned (.string r) ∧ Below w.heap.size w w' := by
 have hmx : a0.size ≤ 40000000000000 := by
  by_cases hx : a0.size ≤ 40000000000000
  ·exact hx
  ·rw [query_written.f, if_neg hx] at h; cases h
 rw [query_written.f, if_pos hmx] at h
 obtain ⟨L, hL, h⟩ := Option.bind_eq_some_iff.1 h
 obtain rfl := Option.some.inj h
 clear h
 have HL := Aside0.mk hL
 clear hL
 have hsz : a0.data.toList.length = a0.size := data_length a0
 have HSZ := Aside0.mk hsz
 clear hsz
 have HB0 := am_ (bld_new w)
 have HW0 := am_ ((Below.refl w.heap.size w).alloc (Nat.le_refl _) (.cells #[.pointer none, .slice none 0 0] 51))
 go_enter Tryd.func38, Tryd.ntmps38
 go_wp2
 go_loopw [8] (fun i wr => ∃ (j : Nat) (l : List UInt8), j ≤ a0.size ∧ i = .int .i64 j ∧ Aside0 (query_written.g k (a0.data.toList.take j) = some l) ∧ Aside0 (l.length ≤ 3 * j) ∧ Aside0 (Bld w.heap.size l wr) ∧ Aside0 (Below w.heap.size w wr)) (fun i _ => a0.size - (intOf i).toNat)
 case atStart => exact ⟨0, [], Nat.zero_le _, rfl, ⟨by rw [List.take_zero]; rfl⟩, ⟨Nat.zero_le _⟩, HB0, HW0⟩
 case round =>
  clear HB0 HW0
  obtain ⟨j, l, hj, rfl, HG, HN, HB, HW⟩ := hrel
  by_cases hlt : j < a0.size
  ·have p1 : (0 ≤ (j : Int)) = True := eq_true (by omega)
   have q1 : ((j : Int) < (a0.size : Int)) = True := eq_true (by omega)
   obtain ⟨y, hy⟩ := query_written.g_get k _ L HL.out j (a0[j]'hlt) (by rw [Array.getElem?_toList]; exact Array.getElem?_eq_getElem hlt)
   have hnx : query_written.g k (a0.data.toList.take (j + 1)) = some (l ++ y) := by
    rw [List.take_add_one, show a0.data.toList[j]? = some (a0[j]'hlt) from by rw [Array.getElem?_toList]; exact Array.getElem?_eq_getElem hlt]
    exact query_written.g_snoc k _ _ l y HG.out hy
   have hyl := query_written.o_len k _ y hy
   have hNN := HN.out
   have HNX := Aside0.mk hnx
   clear hnx
   unfold query_written.o at hy
   obtain ⟨b, hb, hy⟩ := Option.bind_eq_some_iff.1 hy
   have HY := Aside0.mk hy
   clear hy
   have hws := HW.out.size
   go_wp2_with fail
   generalize (a0[j]'hlt) = c at *
   refine (query_Plain.calls k _ b wr hb).mono ?_
   rintro e w1 ⟨rfl, nd, rfl⟩
   have HB1 := am_ (show Bld w.heap.size l (wr.drewN nd) from HB.out)
   have HW1 := am_ (show Below w.heap.size w (wr.drewN nd) from HW.out.trans ⟨rfl, rfl, rfl, Nat.le_refl _, fun _ _ => rfl⟩)
   have hws1 : w.heap.size ≤ (wr.drewN nd).heap.size := hws
   generalize wr.drewN nd = w2 at HB1 HW1 hws1 ⊢
   cases b with
   | true =>
    obtain rfl := Option.some.inj (HY.out.symm.trans (if_pos rfl))
    go_wp2_with fail
    refine (bld_byte _ l c w2 HB1.out (by omega) hws1).mono ?_
    rintro e w3 ⟨rfl, h1, h2⟩
    have H1 := Aside0.mk h1
    have H2 := am_ (HW1.out.trans h2)
    clear h1 h2
    go_wp2
    exact ⟨⟨j + 1, l ++ [c], by omega, by go_num, HNX, ⟨by simp; omega⟩, H1, H2⟩, by simp [intOf]; omega⟩
   | false =>
    by_cases h32 : c.toNat = 32
    ·have e32 : ((c.toNat : Int) == 32) = true := by rw [h32]; rfl
     obtain rfl := Option.some.inj (HY.out.symm.trans ((if_neg (by decide)).trans (if_pos h32)))
     go_wp2_with fail
     refine (bld_byte _ l 43 w2 HB1.out (by omega) hws1).mono ?_
     rintro e w3 ⟨rfl, h1, h2⟩
     have H1 := Aside0.mk h1
     have H2 := am_ (HW1.out.trans h2)
     clear h1 h2
     go_wp2
     exact ⟨⟨j + 1, l ++ [43], by omega, by go_num, HNX, ⟨by simp; omega⟩, H1, H2⟩, by simp [intOf]; omega⟩
    ·have e32 : ((c.toNat : Int) == 32) = false := beq_eq_false_iff_ne.2 (by omega)
     obtain rfl := Option.some.inj (HY.out.symm.trans ((if_neg (by decide)).trans (if_neg h32)))
     go_wp2_with fail
     have HB2 := am_ (show Bld w.heap.size l w2.drew from HB1.out)
     have HW2 := am_ (below_drew1 HW1.out)
     have hws2 : w.heap.size ≤ w2.drew.heap.size := hws1
     clear HB1 HW1 hws1 HB HW hws
     refine start_ (n := 15) (S := fun w' => True) (ds := []) #[false, false, false, false, false, false, false, false, false, false, false, false, false, false, false] kr_ rfl rfl trivial (fun hHeld => ?_); refine with_tabW query_written.tab6 query_written.bits6 (fun HT_ HW_ => ?_)
     generalize w2.drew = w4 at HB2 HW2 hws2 hHeld ⊢
     have S1 : ∀ w' : World, (Instr.slice 9 (Value.string { data := #[48, 49, 50, 51, 52, 53, 54, 55, 56, 57, 65, 66, 67, 68, 69, 70] }) (some (Value.int IntKind.u8 ((c.toNat : Int) / 16))) (some (Value.int IntKind.u8 (IntKind.u8.wrap ((c.toNat : Int) / 16 + 1)))) none).run Tryd.prog w' = .ok (.string ⟨#[query_written.x (c.toNat / 16)]⟩) w' := fun w' => query_written.cut (c.toNat / 16) (by have := c.toNat_lt; omega) w'
     have S2 : ∀ w' : World, (Instr.slice 9 (Value.string { data := #[48, 49, 50, 51, 52, 53, 54, 55, 56, 57, 65, 66, 67, 68, 69, 70] }) (some (Value.int IntKind.u8 (bits BinOp.and IntKind.u8 (c.toNat : Int) 15))) (some (Value.int IntKind.u8 (IntKind.u8.wrap (bits BinOp.and IntKind.u8 (c.toNat : Int) 15 + 1)))) none).run Tryd.prog w' = .ok (.string ⟨#[query_written.x (c.toNat % 16)]⟩) w' := fun w' => by rw [query_written.low]; exact query_written.cut (c.toNat % 16) (by omega) w'
     refine pure_ (i := 0) (N := some 14) (v := ?_) (a' := ?_) #[true, false, false, false, false, false, false, false, false, false, false, false, false, false, false] rfl rfl (any_of HT_.out kr_) (fun _ _ _ h => h) (Or.inl ⟨by rfl, ?_⟩) ?_ ?_
     rotate_left
     ·intro w'
      go_simp
      with_reducible rfl
     rotate_left
     ·simp only [Act.put, sx_, s0_, s1_, i64_w, i32_w]
      rfl
     refine pure_ (i := 1) (N := some 15) (v := ?_) (a' := ?_) #[true, true, false, false, false, false, false, false, false, false, false, false, false, false, false] rfl rfl (any_of HT_.out kr_) (fun _ _ _ h => h) (Or.inl ⟨by rfl, ?_⟩) ?_ ?_
     rotate_left
     ·intro w'
      go_simp
      with_reducible rfl
     rotate_left
     ·simp only [Act.put, sx_, s0_, s1_, i64_w, i32_w]
      rfl
     refine pure_ (i := 2) (N := some 16) (v := ?_) (a' := ?_) #[true, true, true, false, false, false, false, false, false, false, false, false, false, false, false] rfl rfl (any_of HT_.out kr_) (fun _ _ _ h => h) (Or.inl ⟨by rfl, ?_⟩) ?_ ?_
     rotate_left
     ·intro w'
      go_simp
      with_reducible rfl
     rotate_left
     ·simp only [Act.put, sx_, s0_, s1_, i64_w, i32_w]
      rfl
     refine pure_ (i := 3) (N := some 17) (v := ?_) (a' := ?_) #[true, true, true, true, false, false, false, false, false, false, false, false, false, false, false] rfl rfl (any_of HT_.out kr_) (fun _ _ _ h => h) (Or.inl ⟨by rfl, ?_⟩) ?_ ?_
     rotate_left
     ·intro w'
      go_simp
      with_reducible rfl
     rotate_left
     ·simp only [Act.put, sx_, s0_, s1_, i64_w, i32_w]
      rfl
     refine pure_ (i := 4) (N := some 18) (v := ?_) (a' := ?_) #[true, true, true, true, true, false, false, false, false, false, false, false, false, false, false] rfl rfl (any_of HT_.out kr_) (fun _ _ _ h => h) (Or.inl ⟨by rfl, ?_⟩) ?_ ?_
     rotate_left
     ·intro w'
      go_simp
      with_reducible rfl
     rotate_left
     ·simp only [Act.put, sx_, s0_, s1_, i64_w, i32_w]
      rfl
     refine pure_ (i := 5) (N := some 19) (v := ?_) (a' := ?_) #[true, true, true, true, true, true, false, false, false, false, false, false, false, false, false] rfl rfl (any_of HT_.out kr_) (fun _ _ _ h => h) (Or.inl ⟨by rfl, ?_⟩) ?_ ?_
     rotate_left
     ·intro w'
      go_simp
      with_reducible rfl
     rotate_left
     ·simp only [Act.put, sx_, s0_, s1_, i64_w, i32_w]
      rfl
     refine pure_ (i := 6) (N := some 20) (v := ?_) (a' := ?_) #[true, true, true, true, true, true, true, false, false, false, false, false, false, false, false] rfl rfl (any_of HT_.out kr_) (fun _ _ _ h => h) (Or.inl ⟨by rfl, ?_⟩) ?_ ?_
     rotate_left
     ·intro w'
      go_simp
      with_reducible rfl
     rotate_left
     ·simp only [Act.put, sx_, s0_, s1_, i64_w, i32_w]
      rfl
     refine pure_ (i := 7) (N := some 21) (v := ?_) (a' := ?_) #[true, true, true, true, true, true, true, true, false, false, false, false, false, false, false] rfl rfl (any_of HT_.out kr_) (fun _ _ _ h => h) (Or.inl ⟨by rfl, ?_⟩) ?_ ?_
     rotate_left
     ·intro w'
      go_simp
      with_reducible rfl
     rotate_left
     ·simp only [Act.put, sx_, s0_, s1_, i64_w, i32_w]
      rfl
     refine pure_ (i := 8) (N := some 22) (v := ?_) (a' := ?_) #[true, true, true, true, true, true, true, true, true, false, false, false, false, false, false] rfl rfl (any_of HT_.out kr_) (fun _ _ _ h => h) (Or.inl ⟨by rfl, ?_⟩) ?_ ?_
     rotate_left
     ·intro w'
      go_simp
      with_reducible rfl
     rotate_left
     ·simp only [Act.put, sx_, s0_, s1_, i64_w, i32_w]
      rfl
     refine pure_ (i := 9) (N := some 23) (v := ?_) (a' := ?_) #[true, true, true, true, true, true, true, true, true, true, false, false, false, false, false] rfl rfl (any_of HT_.out kr_) (fun _ _ _ h => h) (Or.inl ⟨by rfl, ?_⟩) ?_ ?_
     rotate_left
     ·intro w'
      go_simp
      with_reducible rfl
     rotate_left
     ·simp only [Act.put, sx_, s0_, s1_, i64_w, i32_w]
      rfl
     refine pure_ (i := 10) (N := some 24) (v := ?_) (a' := ?_) #[true, true, true, true, true, true, true, true, true, true, true, false, false, false, false] rfl rfl (any_of HT_.out kr_) (fun _ _ _ h => h) (Or.inl ⟨by rfl, ?_⟩) ?_ ?_
     rotate_left
     ·intro w'
      go_simp
      with_reducible rfl
     rotate_left
     ·simp only [Act.put, sx_, s0_, s1_, i64_w, i32_w]
      rfl
     refine pure_ (i := 11) (N := some 25) (v := ?_) (a' := ?_) #[true, true, true, true, true, true, true, true, true, true, true, true, false, false, false] rfl rfl (any_of HT_.out kr_) (fun _ _ _ h => h) (Or.inl ⟨by rfl, ?_⟩) ?_ ?_
     rotate_left
     ·intro w'
      go_simp
      with_reducible rfl
     rotate_left
     ·simp only [Act.put, sx_, s0_, s1_, i64_w, i32_w]
      rfl
     refine pure_ (i := 12) (N := some 26) (v := ?_) (a' := ?_) #[true, true, true, true, true, true, true, true, true, true, true, true, true, false, false] rfl rfl (any_of HT_.out kr_) (fun _ _ _ h => h) (Or.inl ⟨by rfl, ?_⟩) ?_ ?_
     rotate_left
     ·intro w'
      go_simp
      with_reducible rfl
     rotate_left
     ·simp only [Act.put, sx_, s0_, s1_, i64_w, i32_w]
      rfl
     refine pure_ (i := 13) (N := some 27) (v := ?_) (a' := ?_) #[true, true, true, true, true, true, true, true, true, true, true, true, true, true, false] rfl rfl (any_of HT_.out kr_) (fun _ _ _ h => h) (Or.inl ⟨by rfl, ?_⟩) ?_ ?_
     rotate_left
     ·intro w'
      go_simp
      with_reducible rfl
     rotate_left
     ·simp only [Act.put, sx_, s0_, s1_, i64_w, i32_w]
      rfl
     generalize hS : ((⟨#[37]⟩ : ByteArray) ++ ⟨#[query_written.x (c.toNat / 16)]⟩ ++ ⟨#[query_written.x (c.toNat % 16)]⟩) = S3
     have hS3 : S3.data.toList = [37, query_written.x (c.toNat / 16), query_written.x (c.toNat % 16)] := by rw [← hS]; rfl
     have hZ3 : S3.size = 3 := by rw [← hS]; rfl
     clear hS
     refine one_ (i := 14) (N := some 28) #[true, true, true, true, true, true, true, true, true, true, true, true, true, true, true] rfl rfl (one_of HT_.out kr_) (by decide) (fun K hK => ?_)
     refine goes_ Tryd.func26 kr_ rfl #[.pointer (some ⟨w.heap.size, 0, none⟩), .string S3] (by rfl) rfl rfl (by (try simp only [List.map_toArray, List.map_cons, List.map_nil]); first | done | rfl) ?_
     refine (bld_text _ l S3 w4 HB2.out (by omega) hws2).mono ?_
     rintro e w5 ⟨rfl, h1, h2⟩
     rw [hS3] at h1
     have H1 := Aside0.mk h1
     have H2 := am_ (HW2.out.trans h2)
     clear h1 h2
     refine ⟨_, rfl, ?_⟩
     refine hK.out _ _ trivial ?_
     clear hK K
     intro _
     refine norm_ (a' := ?_) ?_ ?_
     rotate_left
     ·show Act.put _ (some 28) _ = _
      simp only [Act.put, sx_, s0_, s1_, i64_w, i32_w]
      rfl
     refine done_ (done_of HT_.out kr_) ?_
     try go_wp2
     exact ⟨⟨j + 1, l ++ [37, query_written.x (c.toNat / 16), query_written.x (c.toNat % 16)], by omega, by go_num, HNX, ⟨by simp; omega⟩, H1, H2⟩, by simp [intOf]; omega⟩
  ·have hje : j = a0.size := by omega
   subst hje
   go_wp2_with fail
   have hl : l = L := by
    have h1 := HG.out
    rw [← HSZ.out, List.take_length, HL.out] at h1
    exact (Option.some.inj h1).symm
   subst hl
   refine (bld_done _ l wr HB.out HW.out.size).mono ?_
   rintro e w5 ⟨rfl, h2⟩
   have H2 := am_ (HW.out.trans h2)
   clear h2
   go_wp2
   go_ret
   exact ⟨rfl, H2.out⟩

/-! ### strings_Join: function 39 -/
def strings_Join.f (a0 : List ByteArray) (a1 : ByteArray) : Option (ByteArray) := if (Lib.join (a0.map (·.data.toList)) a1.data.toList).length ≤ 140737488355328 ∧ a0.length ≤ 140737488355328 then some ⟨(Lib.join (a0.map (·.data.toList)) a1.data.toList).toArray⟩ else none
theorem strings_Join.calls (A0 : Option Addr) (c0 : Nat) (l0 : List ByteArray) (a1 : ByteArray) (r : ByteArray) (w : World) (hr0 : Kd.C Kd.string w A0 l0.length l0) (hc0 : l0.length ≤ c0) (h : strings_Join.f l0 a1 = some r) :
  Calls Tryd.prog 39 #[.slice A0 l0.length c0, .string a1] w fun e w' => e = .returned (.string r) ∧ Below w.heap.size w w' := by
 unfold strings_Join.f at h
 split at h
 ·next hb =>
  obtain rfl := Option.some.inj h
  by_cases h0 : l0 = []
  ·subst h0
   refine (Any.strings_Join_none laysB extraB A0 c0 a1 w).mono ?_
   rintro e w' ⟨rfl, rfl⟩
   exact ⟨rfl, Below.refl _ _⟩
  ·have hn : 0 < l0.length := List.length_pos_iff.2 h0
   obtain ⟨ad, rfl, _⟩ := hr0.2.2 hn
   have hcell : ∀ (j : Nat) x, l0[j]? = some x → w.cell? (ad.add j) = some (.string x) := by
    intro j x hj
    obtain ⟨hj1, hj2⟩ := List.getElem?_eq_some_iff.1 hj
    obtain ⟨ad', e, hx⟩ := Kd.at_string hr0 (j : Int) (by omega) (by omega)
    obtain rfl := Option.some.inj e
    rw [Int.toNat_natCast] at hx
    rw [hx]
    simp only [rdOf, Int.toNat_natCast, List.getD_eq_getElem?_getD, hj, Option.getD_some]
   obtain ⟨b, o, s⟩ := ad
   have hc0' := hcell 0 (l0[0]'hn) (List.getElem?_eq_getElem hn)
   have hs : s = none := by
    cases s with
    | none => rfl
    | some v =>
     rw [Addr.add, if_pos rfl, World.cell?] at hc0'
     split at hc0' <;> simp at hc0'
   subst hs
   refine (Any.strings_Join laysB extraB b o c0 l0 a1 w (fun j x hj => ?_) (World.block_lt_of_cell? w _ hc0') hb.2 hc0 hb.1)
   have hx := hcell j x hj
   unfold Addr.add at hx
   split at hx
   ·next hz => rw [hz]; exact hx
   ·exact hx
 ·cases h

end Go.Proofs.YtpmllmfamjpinaaDoor.P
