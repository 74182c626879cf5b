-- how an argument of any kind (numbers, bools, texts, structs, slices of these) reads as a value of the print's kinds; own text
import Derived.Test.YtglghmcdcdljoaaDoorWWords
import Derived.Deep.Slices
import Derived.ChangeArms
import Derived.DataReads
import Derived.SizedLaws
import Derived.OpenShut
import Derived.Handed
namespace Go.Proofs.YtglghmcdcdljoaaDoor.Open
open Go Go.RowKit Go.Proofs.YtglghmcdcdljoaaDoorW.PrintWords Go.ChangeShapes Go.WideShapes Go.Deep

/-- What reads as data of the type t is a value of the kind d, and S holds of it. -/
structure Opens {α : Type} (P : Program) (t : TypeId) (d : Kd α) (S : α → Prop) : Prop where
  cells : P.cellsOf t = d.sz
  get : ∀ {H : Type} {enc : TypeId × Value → H} {w : World} {base : Nat} {spare : Nat → Bool} {held : Bool} {fuel : Nat} {cs : List Value} {x : DataW H × List MemPlace},
    DataW.trod enc P w base spare held fuel t cs = some x → (∀ n ∈ x.1.weights P t, n ≤ reachBytes) → ∃ a, d.K w a cs ∧ S a

/-- The fields of a struct from one on, behind the first 'off' cells. -/
structure OpensF {α : Type} (P : Program) (off : Nat) (fs : List Field) (d : Kd α) (S : α → Prop) : Prop where
  get : ∀ {H : Type} {enc : TypeId × Value → H} {w : World} {base : Nat} {spare : Nat → Bool} {held : Bool} {fuel : Nat} {cs : List Value} {xs : List (DataW H × List MemPlace)},
    cs.length = off + d.sz → (∀ (i : Nat) (f : Field), fs[i]? = some f → DataW.trod enc P w base spare held fuel f.type ((cs.drop f.offset).take (P.cellsOf f.type)) = xs[i]?) → xs.length = fs.length →
    (∀ n ∈ DataW.weightsEach P (fs.map (·.type)) (xs.map (·.1)), n ≤ reachBytes) → ∃ a, d.K w a (cs.drop off) ∧ S a

section
variable {P : Program} {t e : TypeId}

theorem opens_int {k : IntKind} (hu : P.underlying t = some (.int k)) (hc : P.cellsOf t = 1) : Opens P t (Kd.int k) (fun n => (Lit.int k n).wf = true) where
  cells := hc
  get := by
    intro H enc w base spare held fuel cs x h _
    obtain ⟨n, rfl, _, hw⟩ := DataW.trod_int hu h
    exact ⟨n, rfl, hw⟩
theorem opens_bool (hu : P.underlying t = some .bool) (hc : P.cellsOf t = 1) : Opens P t Kd.bool (fun _ => True) where
  cells := hc
  get := by
    intro H enc w base spare held fuel cs x h _
    obtain ⟨n, rfl, _⟩ := DataW.trod_bool hu h
    exact ⟨n, rfl, trivial⟩
theorem opens_string (hu : P.underlying t = some .string) (hc : P.cellsOf t = 1) : Opens P t Kd.string (fun s => s.size ≤ 140737488351232) where
  cells := hc
  get := by
    intro H enc w base spare held fuel cs x h hw
    obtain ⟨s, rfl, rfl, _⟩ := DataW.trod_string hu h
    refine ⟨s, rfl, ?_⟩
    have := hw s.data.toList.length (by simp [DataW.weights])
    rw [Array.length_toList] at this
    exact this

theorem opens_slice {α : Type} {d : Kd α} {S : α → Prop} {b : Nat} (hu : P.underlying t = some (.slice e)) (hc : P.cellsOf t = 1) (he : Opens P e d S) (hb : P.bytesOf e = b) (n : Nat) :
    Opens P t (Kd.slice n d) (fun l => l.length ≤ maxLen ∧ l.length * b ≤ 140737488351232 ∧ ∀ x ∈ l, S x) where
  cells := hc
  get := by
    intro H enc w base spare held fuel cs x h hw
    rcases open_slice hu h with ⟨rfl, rfl⟩ | ⟨a, len, cap, m, n', D, Pl, rfl, hbl, hl, hm, hmm, rfl, hel⟩
    · exact ⟨[], ⟨none, 0, rfl, Nat.le_refl _, rfl, by simp, fun h0 => absurd h0 (by simp)⟩, by simp, by simp, by simp⟩
    · have hlm : len ≤ m := by rw [hmm]; split <;> omega
      have hwt : ∀ i, i < m → ∀ q ∈ (D i).weights P e, q ≤ reachBytes := by
        intro i hi q hq
        refine hw q ?_
        simp only [DataW.weights, hu, List.mem_cons, List.mem_append]
        refine .inr ?_
        by_cases hil : i < len
        · refine .inl ?_
          clear hw hel
          have : ∀ (l : List Nat), i ∈ l → q ∈ DataW.weightsAll P e (l.map D) := by
            intro l
            induction l with
            | nil => intro h; cases h
            | cons y r ih =>
              intro h
              simp only [List.map_cons, DataW.weightsAll, List.mem_append]
              rcases List.mem_cons.1 h with rfl | h
              · exact .inl hq
              · exact .inr (ih h)
          exact this _ (List.mem_range.2 hil)
        · refine .inr ?_
          clear hw hel
          have : ∀ (l : List Nat), i - len ∈ l → q ∈ DataW.weightsAll P e (l.map fun j => D (len + j)) := by
            intro l
            induction l with
            | nil => intro h; cases h
            | cons y r ih =>
              intro h
              simp only [List.map_cons, DataW.weightsAll, List.mem_append]
              rcases List.mem_cons.1 h with rfl | h
              · refine .inl ?_
                rw [show len + (i - len) = i from by omega]
                exact hq
              · exact .inr (ih h)
          exact this _ (List.mem_range.2 (by omega))
      have hex : ∀ i, i < len → ∃ y : α, (∃ c, w.cells? base (a.add (i * P.cellsOf e)) (P.cellsOf e) = some c ∧ d.K w y c) ∧ S y := by
        intro i hi
        obtain ⟨c, hc1, hc2⟩ := hel i (by omega)
        obtain ⟨y, hy, hs⟩ := he.get hc2 (hwt i (by omega))
        exact ⟨y, ⟨c, hc1, hy⟩, hs⟩
      have hall : ∃ l : List α, l.length = len ∧ ∀ i y, l[i]? = some y → (∃ c, w.cells? base (a.add (i * P.cellsOf e)) (P.cellsOf e) = some c ∧ d.K w y c) ∧ S y := by
        clear hw hwt hel hmm hlm hm hl h
        induction len with
        | zero => exact ⟨[], rfl, fun i y h => by simp at h⟩
        | succ len ih =>
          obtain ⟨l, hl, h⟩ := ih (fun i hi => hex i (by omega))
          obtain ⟨y, hy⟩ := hex len (by omega)
          refine ⟨l ++ [y], by simp [hl], fun i z hz => ?_⟩
          by_cases hi : i < l.length
          · rw [List.getElem?_append_left hi] at hz
            exact h i z hz
          · rw [List.getElem?_append_right (by omega)] at hz
            have h0 : i - l.length = 0 := by
              rcases Nat.eq_zero_or_pos (i - l.length) with h0 | h0
              · exact h0
              · rw [List.getElem?_eq_none (by simp; omega)] at hz; cases hz
            rw [h0] at hz
            simp at hz
            subst hz
            obtain rfl : i = len := by omega
            exact hy
      obtain ⟨l, hll, hl2⟩ := hall
      have hwl : (len + (m - len)) * P.bytesOf e ≤ reachBytes := by
        refine hw _ ?_
        simp [DataW.weights, hu]
      have hlb : len * b ≤ 140737488351232 := by
        rw [← hb]
        exact Nat.le_trans (Nat.mul_le_mul_right _ (by omega)) hwl
      refine ⟨l, ⟨some a, cap, by rw [hll], by omega, rfl, by have : maxLen = 9223372036854775807 := rfl; omega, fun _ => ⟨a, rfl, fun j p hp => ?_⟩⟩, by omega, by rw [hll]; exact hlb, fun x hx => ?_⟩
      · obtain ⟨⟨c, hc1, hk⟩, _⟩ := hl2 j p hp
        obtain ⟨_, hcl, hat⟩ := World.cells?_some hc1
        refine ⟨c, d.K_len hk, hk, fun i u hi => ?_⟩
        have hic : i < c.length := (List.getElem?_eq_some_iff.1 hi).1
        have h1 := hat i (by omega)
        rw [hi] at h1
        rw [← he.cells, ← Go.Deep.add_add]
        exact h1
      · obtain ⟨i, hi, rfl⟩ := List.getElem_of_mem hx
        exact (hl2 i _ (List.getElem?_eq_getElem hi)).2

theorem opensF_one {α : Type} {d : Kd α} {S : α → Prop} {f : Field} {off : Nat} (ho : f.offset = off) (h : Opens P f.type d S) : OpensF P off [f] d S where
  get := by
    intro H enc w base spare held fuel cs xs hl hx hxl hw
    have h0 := hx 0 f rfl
    have : (cs.drop f.offset).take (P.cellsOf f.type) = cs.drop off := by
      rw [ho, h.cells]
      exact List.take_of_length_le (by simp; omega)
    rw [this] at h0
    obtain ⟨x, rfl⟩ : ∃ x, xs = [x] := List.length_eq_one_iff.1 hxl
    simp only [List.getElem?_cons_zero] at h0
    exact h.get h0 (fun n hn => hw n (by simpa [DataW.weightsEach] using hn))
theorem opensF_cons {α β : Type} {a : Kd α} {b : Kd β} {S : α → Prop} {T : β → Prop} {f : Field} {r : List Field} {off : Nat} (ho : f.offset = off) (h : Opens P f.type a S) (hr : OpensF P (off + a.sz) r b T) :
    OpensF P off (f :: r) (Kd.pair a b) (fun x => S x.1 ∧ T x.2) where
  get := by
    intro H enc w base spare held fuel cs xs hl hx hxl hw
    have hps : (Kd.pair a b).sz = a.sz + b.sz := rfl
    obtain ⟨x, ys, rfl⟩ : ∃ x ys, xs = x :: ys := by
      cases xs with
      | nil => simp at hxl
      | cons x ys => exact ⟨x, ys, rfl⟩
    have h0 := hx 0 f rfl
    rw [ho, h.cells] at h0
    simp only [List.getElem?_cons_zero] at h0
    obtain ⟨u, hu, hs⟩ := h.get h0 (fun n hn => hw n (by simp only [List.map_cons, DataW.weightsEach, List.mem_append]; exact .inl hn))
    obtain ⟨v, hv, ht⟩ := hr.get (cs := cs) (xs := ys) (by omega) (fun i g hg => by have := hx (i + 1) g (by simpa using hg); simpa using this) (by simpa using hxl)
      (fun n hn => hw n (by simp only [List.map_cons, DataW.weightsEach, List.mem_append]; exact .inr hn))
    refine ⟨(u, v), ⟨_, _, ?_, hu, hv⟩, hs, ht⟩
    rw [← List.drop_drop]
    exact (List.take_append_drop _ _).symm
theorem opens_struct {α β : Type} {d : Kd β} {S : β → Prop} {fs : Array Field} (hu : P.underlying t = some (.struct fs)) (hc : P.cellsOf t = d.sz) (h : OpensF P 0 fs.toList d S) (f : α → β) (g : β → α) (hg : ∀ y, f (g y) = y) :
    Opens P t (Kd.iso d f) (fun x => S (f x)) where
  cells := hc
  get := by
    intro H enc w base spare held fuel cs x hx hw
    obtain ⟨ys, n, _, rfl, hcl, hyl, hf⟩ := DataW.trod_struct hu hx
    obtain ⟨a, ha, hs⟩ := h.get (cs := cs) (xs := ys) (fuel := n) (by omega) (fun i f hi => hf i f (by simpa using hi)) (by simpa using hyl) (fun q hq => hw q (by simp only [DataW.weights, hu]; exact hq))
    refine ⟨g a, ?_, by rw [hg]; exact hs⟩
    show d.K w (f (g a)) cs
    rw [hg]
    simpa using ha
end

/-- An argument: its value is told by its cells. -/
theorem Opens.arg {α : Type} {P : Program} {t : TypeId} {d : Kd α} {S : α → Prop} (h : Opens P t d S) {H : Type} {enc : TypeId × Value → H} {w : World} {base : Nat} {spare : Nat → Bool} {held : Bool} {v : Value} {D : DataW H} {ps : List MemPlace}
    (ht : DataW.Trod enc P w base spare held t v D ps) {ts : List TypeId} {ds : List (DataW H)} {j : Nat} (hsz : (DataW.weightsEach P ts ds).all (· ≤ reachBytes) = true) (hj : ts[j]? = some t) (hd : ds[j]? = some D) : ∃ a, d.K w a v.cells.toList ∧ S a := by
  obtain ⟨fuel, hf⟩ := ht
  exact h.get hf (fun n hn => by simpa using List.all_eq_true.1 hsz n (DataW.weights_mem_each hj hd n hn))
section
/-- A law's row out of its contract, where what is listed holds, and the world has its shape. -/
theorem returns_shaped {H : Type} {enc : TypeId × Value → H} {a : Assume} {C : Checked} {os : Os} {f : FuncId} {fn : Func} {s : ChangeSpec} {conds : List PathCond} {apart fresh handsOn again : Bool} {X : World → Array Value → Prop}
    (hX : ∀ (w w' : World) (args : Array Value), w.heap = w'.heap → X w args → X w' args) (own : ownKnob C.prog.godebug = none) (started : os.Started) (noInit : C.prog.inits.idxOf? f = none) (hfn : C.prog.funcs[f]? = some fn)
    (wit : ∃ (w : World) (tape : Tape) (i : Input), w.os = os ∧ (w.forCall tape i).Shaped C.prog ∧ i.vars = [] ∧ Input.okWide C.prog (w.forCall tape i) .any w.heap.size f i ∧ ((s.pre enc C.prog fn conds apart (w.forCall tape i).memory i.args ∧ X (w.forCall tape i).memory i.args) ∧ sizedMet enc C.prog fn (OpenSpec.ofChange s) apart (w.forCall tape i).memory i.args) ∧ a.holds C.prog (lone (Frame.enter C.prog f i.args .normal) [] (w.forCall tape i)))
    (body : ∀ (W : World) (base : Nat) (args : Array Value) (ds gs : List (DataW H)) (before : List MemPlace), (∀ (j : Nat) t v, fn.params[j]? = some t → args[j]? = some v → Value.okWide C.prog W .any base t v) → DataW.Whole enc C.prog fn.params.toList s.vars apart W args.toList ds gs before →
      conds.all (PathCond.test C.prog ⟨fn.params.toList, ds, s.plain.varTypes C.prog, gs⟩) = true → (DataW.weightsEach C.prog (fn.params.toList ++ s.plain.varTypes C.prog) (ds ++ gs)).all (· ≤ reachBytes) = true → X W args → W.ShapedOpen C.prog →
      Calls C.prog f args W fun e W' => ∃ v, e = .returned v ∧ s.post enc C.prog fn apart fresh handsOn again W args v W') :
    ReturnsInHanded a C os f .any (fun w args => (s.pre enc C.prog fn conds apart w args ∧ X w args) ∧ sizedMet enc C.prog fn (OpenSpec.ofChange s) apart w args) (s.post enc C.prog fn apart fresh handsOn again) :=
  returnsInHanded_of_calls own started noInit wit fun w tape i _ hsh _ hok hpre _ => by
    obtain ⟨-, -, -, fn', hfn', -, -, -, -, hval⟩ := hok
    obtain rfl : fn' = fn := Option.some.inj (hfn'.symm.trans hfn)
    obtain ⟨⟨⟨ds, gs, before, hw, hc⟩, hx⟩, hz⟩ := hpre
    refine (body _ _ _ ds gs before hval (DataW.Whole.of_heap (w' := w.forCall tape i) (by rfl) hw) hc (hz.weights hw) (hX _ _ _ (by rfl) hx) hsh).mono ?_
    rintro e W' ⟨v, rfl, hp⟩
    exact ChangeSpec.post_blind hp
end
end Go.Proofs.YtglghmcdcdljoaaDoor.Open
