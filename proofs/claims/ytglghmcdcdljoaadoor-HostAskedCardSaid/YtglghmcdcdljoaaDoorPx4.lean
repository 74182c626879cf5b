-- written by wip/tool/hprint.py of this repo: the kit's print, with contracts by hand joined; Lean checks it.
import Derived.Test.YtglghmcdcdljoaaDoorPx0
import Derived.Test.YtglghmcdcdljoaaDoorPx1
import Derived.Test.YtglghmcdcdljoaaDoorPx2
import Derived.Test.YtglghmcdcdljoaaDoorPx3
import Derived.Laws.IdiomStrings
namespace Go.Proofs.YtglghmcdcdljoaaDoor.P
open Go.RowKit Go.Proofs.YtglghmcdcdljoaaDoorW.PrintWords Go.Proofs.YtglghmcdcdljoaaDoorW.PrintLast Go.Proofs.YtglghmcdcdljoaaDoorW.PrintMore
attribute [local go_sem] max2_int min2_int max_two min_two max_three min_three max_four min_four   -- for this text's walks alone
set_option linter.unusedVariables false
set_option linter.unusedSimpArgs false

/-! ### tolllaw02_HostAsked: function 3 -/
/-- Octets in a row of a conversion's making: the cell behind them is closed. -/
def MB (w : World) (g : Nat) (l : List UInt8) : Prop := ∃ cs : Array Value, w.heap[g]? = some (.cells cs 5 (cs.size, cs.size + 1)) ∧ l.length ≤ cs.size ∧ ∀ j (hj : j < l.length), cs[j]? = some (.int .u8 ((l[j]'hj).toNat : Int))
theorem MB.cell {w : World} {g : Nat} {l : List UInt8} (h : MB w g l) (j : Nat) (hj : j < l.length) : w.cell? ⟨g, j, none⟩ = some (.int .u8 ((l[j]'hj).toNat : Int)) := by
  obtain ⟨cs, hh, hs, hc⟩ := h
  exact (cell_of_row w g j cs 5 _ hh).trans (hc j hj)
theorem MB.frozen {w : World} {g : Nat} {l : List UInt8} (h : MB w g l) (j : Nat) (hj : j < l.length) : w.frozen? ⟨g, j, none⟩ = false := by
  obtain ⟨cs, hh, hs, hc⟩ := h
  simp [World.frozen?, hh]
  omega
theorem MB.put {w : World} {g : Nat} {l : List UInt8} (h : MB w g l) (j : Nat) (hj : j < l.length) (c : UInt8) : MB (w.setCell ⟨g, j, none⟩ (.int .u8 (c.toNat : Int))) g (l.set j c) := by
  obtain ⟨cs, hh, hs, hc⟩ := h
  refine ⟨cs.setIfInBounds j (.int .u8 (c.toNat : Int)), ?_, by simpa using hs, fun i hi => ?_⟩
  · simp [World.setCell, Array.getElem?_modify, hh]
  · have hi' : i < l.length := by simpa using hi
    rw [List.getElem_set]
    by_cases e : j = i
    · subst e
      rw [if_pos rfl, Array.getElem?_setIfInBounds_self_of_lt (by omega)]
    · rw [if_neg e, Array.getElem?_setIfInBounds_ne e]
      exact hc i hi'
theorem MB.lt {w : World} {g : Nat} {l : List UInt8} (h : MB w g l) : g < w.heap.size := by
  obtain ⟨cs, hh, _⟩ := h
  exact blk_lt hh
theorem MB.below {w w' : World} {g : Nat} {l : List UInt8} (h : MB w g l) (hb : Below w.heap.size w w') : MB w' g l := by
  obtain ⟨cs, hh, hs, hc⟩ := h
  exact ⟨cs, (hb.block g (blk_lt hh)).trans hh, hs, hc⟩
theorem mb_new (w : World) (s : ByteArray) (cap : Nat) : MB ((w.alloc (.cells (bytesRow s cap) 5 ((bytesRow s cap).size, (bytesRow s cap).size + 1))).drew) w.heap.size s.data.toList := by
  refine ⟨bytesRow s cap, heap_alloc_new w _, ?_, fun j hj => ?_⟩
  · simp [bytesRow]
  · have hj' : j < s.data.size := by simpa using hj
    have hj2 : j < s.size := hj'
    simp [bytesRow, Array.getElem?_append, hj', hj2]
/-- The first n octets, raised where asked. -/
def shStep (n : Nat) (l : List UInt8) (g : List Bool) : List UInt8 :=
  if g.getD n false = true ∧ 97 ≤ (l.getD n 0).toNat ∧ (l.getD n 0).toNat ≤ 122 then l.set n (l.getD n 0 - 32) else l
def shN : Nat → List UInt8 → List Bool → List UInt8
  | 0, l, _ => l
  | n + 1, l, g => shStep n (shN n l g) g
theorem shStep_length (n : Nat) (l : List UInt8) (g : List Bool) : (shStep n l g).length = l.length := by
  unfold shStep; split <;> simp
theorem shN_length : ∀ (n : Nat) (l : List UInt8) (g : List Bool), (shN n l g).length = l.length
  | 0, _, _ => rfl
  | n + 1, l, g => by rw [shN, shStep_length, shN_length n l g]
theorem mb_string {w : World} {g cap : Nat} {l : List UInt8} (h : MB w g l) (n : Nat) (hn : n = l.length) : (convert 27 9 (.slice (some ⟨g, 0, none⟩) n cap)).run Tryd.prog w = .ok (.string ⟨l.toArray⟩) w := by
  subst hn
  exact run_convert_bytes_back (P := Tryd.prog) w 27 9 5 ⟨g, 0, none⟩ cap l Tryd.underlying27 Tryd.underlying5 Tryd.underlying9 (fun j hj => by
    have := h.cell j hj
    by_cases e : j = 0
    · subst e; simpa [Addr.add] using this
    · simpa [Addr.add, e] using this)
def hostAsked_d : Nat → ByteArray → Int → Option ByteArray
  | 0, _, _ => none
  | k + 1, d, m => if m > 0 ∨ d.toList = [] then (if (strOfNums [(wrap64 (48 + (Int.tmod m 10))) % 256]).size + d.size ≤ 9223372036854775807 then hostAsked_d k ((strOfNums [(wrap64 (48 + (Int.tmod m 10))) % 256]) ++ d) (wrap64 (Int.tdiv m 10)) else none) else some d
theorem hostAsked_d.mono : ∀ k d m, LeO (hostAsked_d k d m) (hostAsked_d (k + 1) d m)
  | 0, _, _ => fun _ h => by simp [hostAsked_d] at h
  | k + 1, d, m => by
    rw [hostAsked_d, hostAsked_d]
    exact LeO.ite (LeO.ite (hostAsked_d.mono k _ _) (LeO.refl _)) (LeO.refl _)
def hostAsked_b (h : ByteArray) (l2 : List Bool) : ByteArray := ⟨(shN (min h.size l2.length) h.data.toList l2).toArray⟩
def hostAsked_e (k : Nat) (h b d : ByteArray) : Option Bool :=
  (host_Of.f k b).bind fun w => (host_Of.f k (b ++ ⟨#[46]⟩)).bind fun x => (host_Of.f k ((b ++ ⟨#[58]⟩) ++ d)).bind fun y => (host_Of.f k ((b ++ ⟨#[46, 58]⟩) ++ d)).bind fun z =>
    if w.1.toList = h.toList ∧ x.1.toList = h.toList ∧ y.1.toList = h.toList ∧ z.1.toList = h.toList ∧ w.2 = 0 ∧ x.2 = 0 ∧ y.2 = 0 ∧ z.2 = 0 then tolllaw02_awake.f k else none
def tolllaw02_HostAsked.f (k : Nat) (a0 : ByteArray) (a1 : Int) (l2 : List Bool) : Option (Bool) := (tolllaw01_Few.f a0).bind fun h => ((tollref01_Name.f k h).bind fun t => (if t = true then
    (hostAsked_d k (⟨#[]⟩ : ByteArray) (wrap64 a1)).bind fun d => if h.size + d.size + 4 ≤ 9223372036854775807 then hostAsked_e k h (hostAsked_b h l2) d else none
  else tolllaw02_awake.f k))
theorem tolllaw02_HostAsked.mono : ∀ a0 a1 a2 k, LeO (tolllaw02_HostAsked.f k a0 a1 a2) (tolllaw02_HostAsked.f (k + 1) a0 a1 a2) := by
  intro a0 a1 a2 k
  unfold tolllaw02_HostAsked.f hostAsked_e
  exact LeO.bind (LeO.refl _) fun _ => LeO.bind (tollref01_Name.mono _ _) fun _ => LeO.ite (LeO.bind (hostAsked_d.mono _ _ _) fun _ => LeO.ite (LeO.bind (host_Of.mono _ _) fun _ => LeO.bind (host_Of.mono _ _) fun _ => LeO.bind (host_Of.mono _ _) fun _ => LeO.bind (host_Of.mono _ _) fun _ => LeO.ite (tolllaw02_awake.mono _) (LeO.refl _)) (LeO.refl _)) (tolllaw02_awake.mono _)
set_option maxHeartbeats 8000000 in
set_option maxRecDepth 100000 in
theorem tolllaw02_HostAsked.calls (k : Nat) (a0 : ByteArray) (a1 : Int) (A2 : Option Addr) (c2 : Nat) (l2 : List Bool) (r : Bool) (w : World) (hr2 : Kd.C Kd.bool w A2 l2.length l2) (hc2 : l2.length ≤ c2) (h : tolllaw02_HostAsked.f k a0 a1 l2 = some r) :
  Calls Tryd.prog 3 #[.string a0, .int .u16 a1, .slice A2 l2.length c2] w fun e w' => e = .returned (.bool r) ∧ Below w.heap.size w w' := by
  have HR2 := Aside0.mk hr2
  have HC2 := Aside0.mk hc2
  have hmx := hr2.2.1
  clear hr2 hc2
  have HB := am_ (Below.refl w.heap.size w)
  rw [tolllaw02_HostAsked.f] at h
  obtain ⟨h0, hA, h'⟩ := Option.bind_eq_some_iff.1 h
  clear h
  obtain ⟨t, hN, h⟩ := Option.bind_eq_some_iff.1 h'
  clear h'
  have A4 := am_ hA
  have A5 := am_ hN
  have H1 := am_ h
  clear hA hN h
  go_enter Tryd.func3, Tryd.ntmps3
  cases t with
  | false =>
    have h := H1.out
    rw [if_neg (by decide)] at h
    have A7 := am_ h
    clear h H1
    go_wp2_with (first | (go_at_call 4; refine (tolllaw01_Few.calls a0 h0 _ A4.out).mono ?_; rintro e w' ⟨rfl, ⟨nd, rfl⟩⟩) | (go_at_call 5; refine (tollref01_Name.calls k h0 false _ A5.out).mono ?_; rintro e w8 ⟨rfl, hb⟩; replace HB := am_ (below_step (bel_ HB.out) hb); clear hb) | (go_at_call 6; refine (tolllaw02_awake.calls k r _ A7.out).mono ?_; rintro e w9 ⟨rfl, hb⟩; replace HB := am_ (below_step (bel_ HB.out) hb); clear hb))
    go_ret
    exact ⟨fi_, bel_ HB.out⟩
  | true =>
    have h := H1.out
    rw [if_pos rfl] at h
    obtain ⟨d, hd, h'⟩ := Option.bind_eq_some_iff.1 h
    clear h
    have h := h'
    clear h'
    by_cases hsz : h0.size + d.size + 4 ≤ 9223372036854775807
    · rw [if_pos hsz] at h
      have AD := am_ hd
      have AE := am_ h
      have SZ := am_ hsz
      clear h H1 hd hsz
      have hcv := fun (W : World) => run_bytes_of_string (P := Tryd.prog) W 9 27 5 h0 Tryd.underlying9 Tryd.underlying27 Tryd.underlying5
      go_wp2_with (first | (go_at_call 4; refine (tolllaw01_Few.calls a0 h0 _ A4.out).mono ?_; rintro e w' ⟨rfl, ⟨nd, rfl⟩⟩) | (go_at_call 5; refine (tollref01_Name.calls k h0 true _ A5.out).mono ?_; rintro e w8 ⟨rfl, hb⟩; replace HB := am_ (below_step (bel_ HB.out) hb); clear hb) | (simp only [hcv]))
      have hM := mb_new w8 h0 (grownCap w8 h0.size 0 5)
      have hB : Below w8.heap.size w8 ((w8.alloc (.cells (bytesRow h0 (grownCap w8 h0.size 0 5)) 5 ((bytesRow h0 (grownCap w8 h0.size 0 5)).size, (bytesRow h0 (grownCap w8 h0.size 0 5)).size + 1))).drew) := ((Below.refl _ w8).alloc (Nat.le_refl _) _).drew
      have hG : w.heap.size ≤ w8.heap.size := HB.out.size
      have hB2 := below_step (bel_ HB.out) hB
      generalize grownCap w8 h0.size 0 5 = cap at hM hB2 ⊢
      generalize ((w8.alloc (.cells (bytesRow h0 cap) 5 ((bytesRow h0 cap).size, (bytesRow h0 cap).size + 1))).drew) = w9 at hM hB2 ⊢
      generalize w8.heap.size = g at hM hG ⊢
      have M0 := am_ hM
      have B0 := am_ hB2
      have HG := am_ hG
      have HL : Aside0 (h0.data.toList.length = h0.size) := am_ (by simp)
      clear hM hB hB2 HB hcv hG
      go_loopg [8] h0.size (fun gg s8 wr => ∃ kk : Nat, kk ≤ h0.size ∧ kk ≤ l2.length ∧ h0.size - kk ≤ gg ∧ s8 = .int .i64 kk ∧ Aside0 (Below w.heap.size w wr) ∧ Aside0 (MB wr g (shN kk h0.data.toList l2)))
      case atStart => exact ⟨0, Nat.zero_le _, Nat.zero_le _, by omega, rfl, B0, M0⟩
      case round =>
        clear M0 B0
        obtain ⟨kk, hk1, hk2, hg, rfl, BW, HM⟩ := hrel
        by_cases h1 : kk < h0.size
        · by_cases h2 : kk < l2.length
          · have p0 : (0 : Int) ≤ (kk : Int) := by omega
            have p1 : (kk : Int) < (h0.size : Int) := by omega
            have p2 : (kk : Int) < (l2.length : Int) := by omega
            have p3 : kk < (shN kk h0.data.toList l2).length := by rw [shN_length, HL.out]; exact h1
            obtain ⟨ad, ea, hx⟩ := Kd.at_bool HR2.out (kk : Int) p0 p2
            subst ea
            replace hx := (BW.out.cell (World.block_lt_of_cell? w _ hx)).trans hx
            have hc := HM.out.cell kk p3
            have hf := HM.out.frozen kk p3
            have hy0 : rdOf false l2 (kk : Int) = l2.getD kk false := rfl
            have hc0 : (shN kk h0.data.toList l2)[kk]'p3 = (shN kk h0.data.toList l2).getD kk 0 := (getD_at _ _ p3).symm
            rw [hc0] at hc
            rw [hy0] at hx
            simp only [Int.toNat_natCast] at hx
            have HS : Aside0 (shN (kk + 1) h0.data.toList l2 = shStep kk (shN kk h0.data.toList l2) l2) := am_ rfl
            have P3 := am_ p3
            clear p3 hc0 hy0
            generalize (shN kk h0.data.toList l2) = L at *
            replace p0 := eq_true p0
            replace p1 := eq_true p1
            replace p2 := eq_true p2
            have hs : shStep kk L l2 = if l2.getD kk false = true ∧ 97 ≤ (L.getD kk 0).toNat ∧ (L.getD kk 0).toNat ≤ 122 then L.set kk (L.getD kk 0 - 32) else L := rfl
            generalize (L.getD kk 0) = c at *
            cases hb : l2.getD kk false with
            | false =>
              rw [hb] at hx hs
              rw [if_neg (by simp)] at hs
              have HM2 : Aside0 (MB wr g (shN (kk + 1) h0.data.toList l2)) := am_ (by rw [HS.out, hs]; exact HM.out)
              clear hb hs HS
              go_wp2
              go_roundg (h0.size - (kk + 1))
              case measure => omega
              case rel => exact ⟨kk + 1, by omega, by omega, by omega, by go_num, BW, HM2⟩
            | true =>
              rw [hb] at hx hs
              by_cases h97 : 97 ≤ c.toNat
              · by_cases h122 : c.toNat ≤ 122
                · rw [if_pos ⟨rfl, h97, h122⟩] at hs
                  have q1 : ((97 : Int) ≤ (c.toNat : Int)) = True := eq_true (by omega)
                  have q2 : ((c.toNat : Int) ≤ (122 : Int)) = True := eq_true (by omega)
                  have hv : ((c.toNat : Int) - 32) % 256 = ((c - 32).toNat : Int) := by rw [UInt8.toNat_sub_of_le c 32 (by show (32 : Nat) ≤ c.toNat; omega)]; have : (32 : UInt8).toNat = 32 := rfl; omega
                  have hw0 := HM.out.put kk P3.out (c - 32)
                  have HM2 : Aside0 (MB (wr.setCell ⟨g, kk, none⟩ (.int .u8 ((c - 32).toNat : Int))) g (shN (kk + 1) h0.data.toList l2)) := am_ (by rw [HS.out, hs]; exact hw0)
                  have BW2 := am_ (BW.out.setCell (p := ⟨g, kk, none⟩) HG.out (.int .u8 ((c - 32).toNat : Int)))
                  clear hb hs HS h97 h122 hw0
                  go_wp2
                  go_roundg (h0.size - (kk + 1))
                  case measure => omega
                  case rel => exact ⟨kk + 1, by omega, by omega, by omega, by go_num, BW2, HM2⟩
                · rw [if_neg (by simp [h122])] at hs
                  have q1 : ((97 : Int) ≤ (c.toNat : Int)) = True := eq_true (by omega)
                  have q2 : ((c.toNat : Int) ≤ (122 : Int)) = False := eq_false (by omega)
                  have HM2 : Aside0 (MB wr g (shN (kk + 1) h0.data.toList l2)) := am_ (by rw [HS.out, hs]; exact HM.out)
                  clear hb hs HS h97 h122
                  go_wp2
                  go_roundg (h0.size - (kk + 1))
                  case measure => omega
                  case rel => exact ⟨kk + 1, by omega, by omega, by omega, by go_num, BW, HM2⟩
              · rw [if_neg (by simp [h97])] at hs
                have q1 : ((97 : Int) ≤ (c.toNat : Int)) = False := eq_false (by omega)
                have HM2 : Aside0 (MB wr g (shN (kk + 1) h0.data.toList l2)) := am_ (by rw [HS.out, hs]; exact HM.out)
                clear hb hs HS h97
                go_wp2
                go_roundg (h0.size - (kk + 1))
                case measure => omega
                case rel => exact ⟨kk + 1, by omega, by omega, by omega, by go_num, BW, HM2⟩
          · have p1 : ((kk : Int) < (h0.size : Int)) = True := eq_true (by omega)
            have p2 : ((kk : Int) < (l2.length : Int)) = False := eq_false (by omega)
            have HF : Aside0 (hostAsked_e k h0 (⟨(shN kk h0.data.toList l2).toArray⟩ : ByteArray) d = some r) := am_ (by have := AE.out; rw [hostAsked_b, show min h0.size l2.length = kk by omega] at this; exact this)
            have HLF : Aside0 ((shN kk h0.data.toList l2).length = h0.size) := am_ (by rw [shN_length]; exact HL.out)
            clear AE HL
            generalize (shN kk h0.data.toList l2) = LF at *
            go_wp2
            go_loopg [9, 10] k (fun kq v9 v10 w' => ∃ (x9 : ByteArray) (x10 : Int), v9 = .string x9 ∧ v10 = .int .i64 x10 ∧ Aside0 (hostAsked_d kq x9 x10 = some d) ∧ Aside0 (kq ≤ k) ∧ Aside0 (Below w.heap.size w w') ∧ Aside0 (MB w' g LF))
            case atStart => exact ⟨(⟨#[]⟩ : ByteArray), wrap64 a1, rfl, rfl, AD, ⟨Nat.le_refl _⟩, BW, HM⟩
            case round =>
              clear BW HM AD
              obtain ⟨x9, x10, rfl, rfl, HA, HK1, HB, HM⟩ := hrel
              cases gk with
              | zero => exact absurd HA.out (by simp [hostAsked_d])
              | succ k1 =>
                have H := HA.out
                clear HA
                rw [hostAsked_d] at H
                by_cases c1 : x10 > 0
                · rw [if_pos (.inl c1)] at H
                  have c1b : decide (0 < x10) = true := decide_eq_true c1
                  clear c1
                  by_cases c3 : (strOfNums [(wrap64 (48 + (Int.tmod x10 10))) % 256]).size + x9.size ≤ 9223372036854775807
                  · rw [if_pos c3] at H
                    obtain ⟨y, hy⟩ : ∃ y_ : List Int, y_ = (([(wrap64 (48 + (Int.tmod x10 10))) % 256] : List Int)) := ⟨_, rfl⟩
                    rw [← hy] at H c3
                    have c3b0 := eq_true c3
                    have c3b1 : decide ((strOfNums y).size + x9.size ≤ 9223372036854775807) = true := decide_eq_true c3
                    have c3b2 : (9223372036854775807 < (strOfNums y).size + x9.size) = False := eq_false (Nat.not_lt.2 c3)
                    have NY := am_ hy
                    have H' := am_ H
                    clear H hy c3
                    go_wp2_with (first | ((with_reducible refine gate_dst (N := 77) rfl ?_); refine Kd.R_lit (Kd.int .u8) _ 5 ?hg (N := 77) ?hd (xs := ([(wrap64 (48 + (Int.tmod x10 10))) % 256] : List Int)) (inner := [.int .u8 ((wrap64 (48 + (Int.tmod x10 10))) % 256)]) (ok := fun _ => True) (okp := fun _ => True) ?hr ?hp (fun _ hk => hk) trivial (Below.refl _ _) (Nat.le_refl _) (by simp) ?_; (case hd => rfl); (case hg => rfl); (case hr => first | (go_simp; done) | (go_simp; rfl)); (case hp => exact (Reps.one (show Kd.M (Kd.int .u8) _ _ _ ((wrap64 (48 + (Int.tmod x10 10))) % 256) [.int .u8 ((wrap64 (48 + (Int.tmod x10 10))) % 256)] from rfl) (Reps.none _ _))); intro v368 w4 ho5 hb hg_ hnew_; clear hg_ hnew_; rw [← NY.out] at ho5; replace HM := am_ (HM.out.below hb); replace HB := am_ (below_step (bel_ HB.out) hb); have HO := am_ ho5; clear hb ho5; have hcv6 := own_string (P := Tryd.prog) Tryd.underlying27 Tryd.underlying5 Tryd.underlying9 (Kd.own_of_R HO.out)))
                    go_roundg k1
                    case measure => have := HK1.out; omega
                    case rel => exact ⟨_, _, rfl, rfl, H', ⟨by have := HK1.out; omega⟩, HB, HM⟩
                  · rw [if_neg c3] at H; cases H
                · have c1b : decide (0 < x10) = false := decide_eq_false c1
                  by_cases c2 : x9.toList = []
                  · rw [if_pos (.inr c2)] at H
                    have c2b : x9.toList.isEmpty = true := by rw [c2]; rfl
                    have c2c : (x9.toList == []) = true := by rw [c2]; rfl
                    clear c1 c2
                    by_cases c3 : (strOfNums [(wrap64 (48 + (Int.tmod x10 10))) % 256]).size + x9.size ≤ 9223372036854775807
                    · rw [if_pos c3] at H
                      obtain ⟨y, hy⟩ : ∃ y_ : List Int, y_ = (([(wrap64 (48 + (Int.tmod x10 10))) % 256] : List Int)) := ⟨_, rfl⟩
                      rw [← hy] at H c3
                      have c3b0 := eq_true c3
                      have c3b1 : decide ((strOfNums y).size + x9.size ≤ 9223372036854775807) = true := decide_eq_true c3
                      have c3b2 : (9223372036854775807 < (strOfNums y).size + x9.size) = False := eq_false (Nat.not_lt.2 c3)
                      have NY := am_ hy
                      have H' := am_ H
                      clear H hy c3
                      go_wp2_with (first | ((with_reducible refine gate_dst (N := 77) rfl ?_); refine Kd.R_lit (Kd.int .u8) _ 5 ?hg (N := 77) ?hd (xs := ([(wrap64 (48 + (Int.tmod x10 10))) % 256] : List Int)) (inner := [.int .u8 ((wrap64 (48 + (Int.tmod x10 10))) % 256)]) (ok := fun _ => True) (okp := fun _ => True) ?hr ?hp (fun _ hk => hk) trivial (Below.refl _ _) (Nat.le_refl _) (by simp) ?_; (case hd => rfl); (case hg => rfl); (case hr => first | (go_simp; done) | (go_simp; rfl)); (case hp => exact (Reps.one (show Kd.M (Kd.int .u8) _ _ _ ((wrap64 (48 + (Int.tmod x10 10))) % 256) [.int .u8 ((wrap64 (48 + (Int.tmod x10 10))) % 256)] from rfl) (Reps.none _ _))); intro v368 w4 ho5 hb hg_ hnew_; clear hg_ hnew_; rw [← NY.out] at ho5; replace HM := am_ (HM.out.below hb); replace HB := am_ (below_step (bel_ HB.out) hb); have HO := am_ ho5; clear hb ho5; have hcv6 := own_string (P := Tryd.prog) Tryd.underlying27 Tryd.underlying5 Tryd.underlying9 (Kd.own_of_R HO.out)))
                      go_roundg k1
                      case measure => have := HK1.out; omega
                      case rel => exact ⟨_, _, rfl, rfl, H', ⟨by have := HK1.out; omega⟩, HB, HM⟩
                    · rw [if_neg c3] at H; cases H
                  · rw [if_neg (by rintro (h | h); exact c1 h; exact c2 h)] at H
                    obtain rfl := Option.some.inj H
                    have c2b : x9.toList.isEmpty = false := by rw [List.isEmpty_eq_false_iff]; exact c2
                    have c2c : (x9.toList == []) = false := beq_eq_false_iff_ne.mpr c2
                    clear c1 c2 H
                    have hF := HF.out
                    rw [hostAsked_e] at hF
                    have hS : ∀ W, MB W g LF → (convert 27 9 (.slice (some ⟨g, 0, none⟩) h0.size cap)).run Tryd.prog W = .ok (.string ⟨LF.toArray⟩) W := fun W hM => mb_string hM h0.size HLF.out.symm
                    have hbs : (⟨LF.toArray⟩ : ByteArray).size = h0.size := by have := HLF.out; show LF.toArray.size = _; simpa using this
                    generalize (⟨LF.toArray⟩ : ByteArray) = b at hF hS hbs
                    obtain ⟨⟨t1, e1⟩, ha1, hF⟩ := Option.bind_eq_some_iff.1 hF
                    obtain ⟨⟨t2, e2⟩, ha2, hF⟩ := Option.bind_eq_some_iff.1 hF
                    obtain ⟨⟨t3, e3⟩, ha3, hF⟩ := Option.bind_eq_some_iff.1 hF
                    obtain ⟨⟨t4, e4⟩, ha4, hF⟩ := Option.bind_eq_some_iff.1 hF
                    have W1 := am_ ha1
                    have W2 := am_ ha2
                    have W3 := am_ ha3
                    have W4 := am_ ha4
                    have HSS := am_ hS
                    clear ha1 ha2 ha3 ha4 HF HLF hS
                    by_cases hq : t1.toList = h0.toList ∧ t2.toList = h0.toList ∧ t3.toList = h0.toList ∧ t4.toList = h0.toList ∧ e1 = 0 ∧ e2 = 0 ∧ e3 = 0 ∧ e4 = 0
                    · rw [if_pos hq] at hF
                      have A7 := am_ hF
                      obtain ⟨q1, q2, q3, q4, q5, q6, q7, q8⟩ := hq
                      subst q5 q6 q7 q8
                      have d1 := (beq_iff_eq.mpr q1 : (t1.toList == h0.toList) = true)
                      have d2 := (beq_iff_eq.mpr q2 : (t2.toList == h0.toList) = true)
                      have d3 := (beq_iff_eq.mpr q3 : (t3.toList == h0.toList) = true)
                      have d4 := (beq_iff_eq.mpr q4 : (t4.toList == h0.toList) = true)
                      clear hF
                      have hsz := SZ.out
                      have z1 : (9223372036854775807 < b.size + 1) = False := eq_false (by omega)
                      have hcs := HSS.out _ HM.out
                      go_wp2_with (first | (go_at_call 7; (first | with_reducible refine (host_Of.calls k _ _ _ _ W1.out).mono ?_ | with_reducible refine (host_Of.calls k _ _ _ _ W2.out).mono ?_ | with_reducible refine (host_Of.calls k _ _ _ _ W3.out).mono ?_ | with_reducible refine (host_Of.calls k _ _ _ _ W4.out).mono ?_); rintro e w5 ⟨rfl, hb⟩; replace HM := am_ (HM.out.below hb); replace HB := am_ (below_step (bel_ HB.out) hb); clear hb hcs; have hcs := HSS.out _ HM.out) | (go_at_call 6; refine (tolllaw02_awake.calls k r _ A7.out).mono ?_; rintro e w9 ⟨rfl, hb⟩; replace HB := am_ (below_step (bel_ HB.out) hb); clear hb))
                      go_ret
                      exact ⟨fi_, bel_ HB.out⟩
                    · rw [if_neg hq] at hF; cases hF
        · have p1 : ((kk : Int) < (h0.size : Int)) = False := eq_false (by omega)
          have HF : Aside0 (hostAsked_e k h0 (⟨(shN kk h0.data.toList l2).toArray⟩ : ByteArray) d = some r) := am_ (by have := AE.out; rw [hostAsked_b, show min h0.size l2.length = kk by omega] at this; exact this)
          have HLF : Aside0 ((shN kk h0.data.toList l2).length = h0.size) := am_ (by rw [shN_length]; exact HL.out)
          clear AE HL
          generalize (shN kk h0.data.toList l2) = LF at *
          go_wp2
          go_loopg [9, 10] k (fun kq v9 v10 w' => ∃ (x9 : ByteArray) (x10 : Int), v9 = .string x9 ∧ v10 = .int .i64 x10 ∧ Aside0 (hostAsked_d kq x9 x10 = some d) ∧ Aside0 (kq ≤ k) ∧ Aside0 (Below w.heap.size w w') ∧ Aside0 (MB w' g LF))
          case atStart => exact ⟨(⟨#[]⟩ : ByteArray), wrap64 a1, rfl, rfl, AD, ⟨Nat.le_refl _⟩, BW, HM⟩
          case round =>
            clear BW HM AD
            obtain ⟨x9, x10, rfl, rfl, HA, HK1, HB, HM⟩ := hrel
            cases gk with
            | zero => exact absurd HA.out (by simp [hostAsked_d])
            | succ k1 =>
              have H := HA.out
              clear HA
              rw [hostAsked_d] at H
              by_cases c1 : x10 > 0
              · rw [if_pos (.inl c1)] at H
                have c1b : decide (0 < x10) = true := decide_eq_true c1
                clear c1
                by_cases c3 : (strOfNums [(wrap64 (48 + (Int.tmod x10 10))) % 256]).size + x9.size ≤ 9223372036854775807
                · rw [if_pos c3] at H
                  obtain ⟨y, hy⟩ : ∃ y_ : List Int, y_ = (([(wrap64 (48 + (Int.tmod x10 10))) % 256] : List Int)) := ⟨_, rfl⟩
                  rw [← hy] at H c3
                  have c3b0 := eq_true c3
                  have c3b1 : decide ((strOfNums y).size + x9.size ≤ 9223372036854775807) = true := decide_eq_true c3
                  have c3b2 : (9223372036854775807 < (strOfNums y).size + x9.size) = False := eq_false (Nat.not_lt.2 c3)
                  have NY := am_ hy
                  have H' := am_ H
                  clear H hy c3
                  go_wp2_with (first | ((with_reducible refine gate_dst (N := 77) rfl ?_); refine Kd.R_lit (Kd.int .u8) _ 5 ?hg (N := 77) ?hd (xs := ([(wrap64 (48 + (Int.tmod x10 10))) % 256] : List Int)) (inner := [.int .u8 ((wrap64 (48 + (Int.tmod x10 10))) % 256)]) (ok := fun _ => True) (okp := fun _ => True) ?hr ?hp (fun _ hk => hk) trivial (Below.refl _ _) (Nat.le_refl _) (by simp) ?_; (case hd => rfl); (case hg => rfl); (case hr => first | (go_simp; done) | (go_simp; rfl)); (case hp => exact (Reps.one (show Kd.M (Kd.int .u8) _ _ _ ((wrap64 (48 + (Int.tmod x10 10))) % 256) [.int .u8 ((wrap64 (48 + (Int.tmod x10 10))) % 256)] from rfl) (Reps.none _ _))); intro v368 w4 ho5 hb hg_ hnew_; clear hg_ hnew_; rw [← NY.out] at ho5; replace HM := am_ (HM.out.below hb); replace HB := am_ (below_step (bel_ HB.out) hb); have HO := am_ ho5; clear hb ho5; have hcv6 := own_string (P := Tryd.prog) Tryd.underlying27 Tryd.underlying5 Tryd.underlying9 (Kd.own_of_R HO.out)))
                  go_roundg k1
                  case measure => have := HK1.out; omega
                  case rel => exact ⟨_, _, rfl, rfl, H', ⟨by have := HK1.out; omega⟩, HB, HM⟩
                · rw [if_neg c3] at H; cases H
              · have c1b : decide (0 < x10) = false := decide_eq_false c1
                by_cases c2 : x9.toList = []
                · rw [if_pos (.inr c2)] at H
                  have c2b : x9.toList.isEmpty = true := by rw [c2]; rfl
                  have c2c : (x9.toList == []) = true := by rw [c2]; rfl
                  clear c1 c2
                  by_cases c3 : (strOfNums [(wrap64 (48 + (Int.tmod x10 10))) % 256]).size + x9.size ≤ 9223372036854775807
                  · rw [if_pos c3] at H
                    obtain ⟨y, hy⟩ : ∃ y_ : List Int, y_ = (([(wrap64 (48 + (Int.tmod x10 10))) % 256] : List Int)) := ⟨_, rfl⟩
                    rw [← hy] at H c3
                    have c3b0 := eq_true c3
                    have c3b1 : decide ((strOfNums y).size + x9.size ≤ 9223372036854775807) = true := decide_eq_true c3
                    have c3b2 : (9223372036854775807 < (strOfNums y).size + x9.size) = False := eq_false (Nat.not_lt.2 c3)
                    have NY := am_ hy
                    have H' := am_ H
                    clear H hy c3
                    go_wp2_with (first | ((with_reducible refine gate_dst (N := 77) rfl ?_); refine Kd.R_lit (Kd.int .u8) _ 5 ?hg (N := 77) ?hd (xs := ([(wrap64 (48 + (Int.tmod x10 10))) % 256] : List Int)) (inner := [.int .u8 ((wrap64 (48 + (Int.tmod x10 10))) % 256)]) (ok := fun _ => True) (okp := fun _ => True) ?hr ?hp (fun _ hk => hk) trivial (Below.refl _ _) (Nat.le_refl _) (by simp) ?_; (case hd => rfl); (case hg => rfl); (case hr => first | (go_simp; done) | (go_simp; rfl)); (case hp => exact (Reps.one (show Kd.M (Kd.int .u8) _ _ _ ((wrap64 (48 + (Int.tmod x10 10))) % 256) [.int .u8 ((wrap64 (48 + (Int.tmod x10 10))) % 256)] from rfl) (Reps.none _ _))); intro v368 w4 ho5 hb hg_ hnew_; clear hg_ hnew_; rw [← NY.out] at ho5; replace HM := am_ (HM.out.below hb); replace HB := am_ (below_step (bel_ HB.out) hb); have HO := am_ ho5; clear hb ho5; have hcv6 := own_string (P := Tryd.prog) Tryd.underlying27 Tryd.underlying5 Tryd.underlying9 (Kd.own_of_R HO.out)))
                    go_roundg k1
                    case measure => have := HK1.out; omega
                    case rel => exact ⟨_, _, rfl, rfl, H', ⟨by have := HK1.out; omega⟩, HB, HM⟩
                  · rw [if_neg c3] at H; cases H
                · rw [if_neg (by rintro (h | h); exact c1 h; exact c2 h)] at H
                  obtain rfl := Option.some.inj H
                  have c2b : x9.toList.isEmpty = false := by rw [List.isEmpty_eq_false_iff]; exact c2
                  have c2c : (x9.toList == []) = false := beq_eq_false_iff_ne.mpr c2
                  clear c1 c2 H
                  have hF := HF.out
                  rw [hostAsked_e] at hF
                  have hS : ∀ W, MB W g LF → (convert 27 9 (.slice (some ⟨g, 0, none⟩) h0.size cap)).run Tryd.prog W = .ok (.string ⟨LF.toArray⟩) W := fun W hM => mb_string hM h0.size HLF.out.symm
                  have hbs : (⟨LF.toArray⟩ : ByteArray).size = h0.size := by have := HLF.out; show LF.toArray.size = _; simpa using this
                  generalize (⟨LF.toArray⟩ : ByteArray) = b at hF hS hbs
                  obtain ⟨⟨t1, e1⟩, ha1, hF⟩ := Option.bind_eq_some_iff.1 hF
                  obtain ⟨⟨t2, e2⟩, ha2, hF⟩ := Option.bind_eq_some_iff.1 hF
                  obtain ⟨⟨t3, e3⟩, ha3, hF⟩ := Option.bind_eq_some_iff.1 hF
                  obtain ⟨⟨t4, e4⟩, ha4, hF⟩ := Option.bind_eq_some_iff.1 hF
                  have W1 := am_ ha1
                  have W2 := am_ ha2
                  have W3 := am_ ha3
                  have W4 := am_ ha4
                  have HSS := am_ hS
                  clear ha1 ha2 ha3 ha4 HF HLF hS
                  by_cases hq : t1.toList = h0.toList ∧ t2.toList = h0.toList ∧ t3.toList = h0.toList ∧ t4.toList = h0.toList ∧ e1 = 0 ∧ e2 = 0 ∧ e3 = 0 ∧ e4 = 0
                  · rw [if_pos hq] at hF
                    have A7 := am_ hF
                    obtain ⟨q1, q2, q3, q4, q5, q6, q7, q8⟩ := hq
                    subst q5 q6 q7 q8
                    have d1 := (beq_iff_eq.mpr q1 : (t1.toList == h0.toList) = true)
                    have d2 := (beq_iff_eq.mpr q2 : (t2.toList == h0.toList) = true)
                    have d3 := (beq_iff_eq.mpr q3 : (t3.toList == h0.toList) = true)
                    have d4 := (beq_iff_eq.mpr q4 : (t4.toList == h0.toList) = true)
                    clear hF
                    have hsz := SZ.out
                    have z1 : (9223372036854775807 < b.size + 1) = False := eq_false (by omega)
                    have hcs := HSS.out _ HM.out
                    go_wp2_with (first | (go_at_call 7; (first | with_reducible refine (host_Of.calls k _ _ _ _ W1.out).mono ?_ | with_reducible refine (host_Of.calls k _ _ _ _ W2.out).mono ?_ | with_reducible refine (host_Of.calls k _ _ _ _ W3.out).mono ?_ | with_reducible refine (host_Of.calls k _ _ _ _ W4.out).mono ?_); rintro e w5 ⟨rfl, hb⟩; replace HM := am_ (HM.out.below hb); replace HB := am_ (below_step (bel_ HB.out) hb); clear hb hcs; have hcs := HSS.out _ HM.out) | (go_at_call 6; refine (tolllaw02_awake.calls k r _ A7.out).mono ?_; rintro e w9 ⟨rfl, hb⟩; replace HB := am_ (below_step (bel_ HB.out) hb); clear hb))
                    go_ret
                    exact ⟨fi_, bel_ HB.out⟩
                  · rw [if_neg hq] at hF; cases hF
    · rw [if_neg hsz] at h; cases h

/-- THE ONE PURE STATEMENT of tolllaw02_HostAsked. -/
def tolllaw02_HostAsked.Pure : Prop := ∀ (a0 : ByteArray) (a1 : Int) (l2 : List Bool), (a0.size ≤ 140737488351232) → ((Lit.int .u16 a1).wf = true) → (l2.length ≤ maxLen ∧ l2.length * 1 ≤ 140737488351232 ∧ ∀ y ∈ l2, True) → ∃ k, tolllaw02_HostAsked.f k a0 a1 l2 = some true

end Go.Proofs.YtglghmcdcdljoaaDoor.P
