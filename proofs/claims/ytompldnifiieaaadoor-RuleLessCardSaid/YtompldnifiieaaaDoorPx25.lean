-- written by wip/tool/hprint.py of this repo: the kit's print, with contracts by hand joined; Lean checks it.
import Derived.Test.YtompldnifiieaaaDoorPx0
import Derived.Test.YtompldnifiieaaaDoorPx1
import Derived.Test.YtompldnifiieaaaDoorPx3
import Derived.Test.YtompldnifiieaaaDoorPx4
import Derived.Test.YtompldnifiieaaaDoorPx5
import Derived.Test.YtompldnifiieaaaDoorPx7
import Derived.Test.YtompldnifiieaaaDoorPx8
namespace Go.Proofs.YtompldnifiieaaaDoor.P
open Go.RowKit Go.Proofs.YtompldnifiieaaaDoorW.PrintWords Go.Proofs.YtompldnifiieaaaDoorW.PrintLast Go.Proofs.YtompldnifiieaaaDoorW.PrintMore
attribute [local go_sem] max2_int min2_int max_two min_two max_three min_three max_four min_four   -- for this text's walks alone
set_option linter.unusedVariables false
set_option linter.unusedSimpArgs false

/-! ### tolllaw06_RuleLess: function 6 -/
mutual
noncomputable def tolllaw06_RuleLess.j1 : Nat → Int → ByteArray → ByteArray → List (S49) → List (S49) → ByteArray → ByteArray → ByteArray → List (S49) → List (S49) → Int → ByteArray → ByteArray → List (S49) → List (S49) → Option (Bool)
 | 0, _, _, _, _, _, _, _, _, _, _, _, _, _, _, _ => none
 | k + 1, x1536000, x1536001, x1536002, x1536003, x1536004, x1537000, x1537001, x1537002, x1537003, x1537004, x1559000, x1559001, x1559002, x1559003, x1559004 => (rule_May.f k x1559000 x1559001 x1559002 x1559003 x1559004).bind fun t1593 => (if t1593 = true then ((rule_Holds.f k x1536000 x1536001 x1536002 x1536003 x1536004 x1537000 x1537001 x1537002 x1537003 x1537004).bind fun t1594 => (if t1594 = true then ((rule_Holds.f k x1559000 x1559001 x1559002 x1559003 x1559004 x1537000 x1537001 x1537002 x1537003 x1537004).bind fun t1595 => (if t1595 = true then ((rule_Order.f x1559000 x1559001 x1559002 x1559003 x1559004 x1536000 x1536001 x1536002 x1536003 x1536004).bind fun t1596 => (if t1596 ≥ 0 then ((tolllaw06_awake.f).bind fun t1597 => (some t1597)) else (none))) else (none))) else ((rule_Order.f x1559000 x1559001 x1559002 x1559003 x1559004 x1536000 x1536001 x1536002 x1536003 x1536004).bind fun t1598 => (if t1598 ≥ 0 then ((tolllaw06_awake.f).bind fun t1599 => (some t1599)) else (none))))) else (none))
noncomputable def tolllaw06_RuleLess.j0 : Nat → Int → Bool → Int → ByteArray → ByteArray → List (S49) → List (S49) → ByteArray → ByteArray → ByteArray → List (S49) → List (S49) → Int → ByteArray → ByteArray → List (S49) → List (S49) → Option (Bool)
 | 0, _, _, _, _, _, _, _, _, _, _, _, _, _, _, _, _, _ => none
 | k + 1, x2, x30, x1536000, x1536001, x1536002, x1536003, x1536004, x1537000, x1537001, x1537002, x1537003, x1537004, x1559000, x1559001, x1559002, x1559003, x1559004 => if x30 = true then (if (x1536003.length : Int) = 0 then (none) else ((some (([] : List (S49)) : List (S49))).bind fun y1559 => (if 0 ≤ (((Int.tdiv x2 3) % 256) % (x1536003.length : Int)) then (if (((Int.tdiv x2 3) % 256) % (x1536003.length : Int)) ≤ (x1536003.length : Int) then ((some (x1536003.take ((((Int.tdiv x2 3) % 256) % (x1536003.length : Int)) : Int).toNat : List (S49))).bind fun y1562 => (if y1559.length + y1562.length < 4398046511104 then ((some (y1559 ++ y1562 : List (S49))).bind fun y1566 => (if 0 ≤ (wrap64 ((((Int.tdiv x2 3) % 256) % (x1536003.length : Int)) + 1)) then (if (wrap64 ((((Int.tdiv x2 3) % 256) % (x1536003.length : Int)) + 1)) ≤ (x1536003.length : Int) then ((some (x1536003.drop ((wrap64 ((((Int.tdiv x2 3) % 256) % (x1536003.length : Int)) + 1)) : Int).toNat : List (S49))).bind fun y1569 => (if y1566.length + y1569.length < 4398046511104 then (tolllaw06_RuleLess.j1 k x1536000 x1536001 x1536002 x1536003 x1536004 x1537000 x1537001 x1537002 x1537003 x1537004 x1559000 x1559001 x1559002 (y1566 ++ y1569) x1559004) else (none))) else (none)) else (none))) else (none))) else (none)) else (none)))) else (if (x1536004.length : Int) > 0 then (if (x1536004.length : Int) = 0 then (none) else ((some (([] : List (S49)) : List (S49))).bind fun y1576 => (if 0 ≤ (((Int.tdiv x2 3) % 256) % (x1536004.length : Int)) then (if (((Int.tdiv x2 3) % 256) % (x1536004.length : Int)) ≤ (x1536004.length : Int) then ((some (x1536004.take ((((Int.tdiv x2 3) % 256) % (x1536004.length : Int)) : Int).toNat : List (S49))).bind fun y1579 => (if y1576.length + y1579.length < 4398046511104 then ((some (y1576 ++ y1579 : List (S49))).bind fun y1583 => (if 0 ≤ (wrap64 ((((Int.tdiv x2 3) % 256) % (x1536004.length : Int)) + 1)) then (if (wrap64 ((((Int.tdiv x2 3) % 256) % (x1536004.length : Int)) + 1)) ≤ (x1536004.length : Int) then ((some (x1536004.drop ((wrap64 ((((Int.tdiv x2 3) % 256) % (x1536004.length : Int)) + 1)) : Int).toNat : List (S49))).bind fun y1586 => (if y1583.length + y1586.length < 4398046511104 then (tolllaw06_RuleLess.j1 k x1536000 x1536001 x1536002 x1536003 x1536004 x1537000 x1537001 x1537002 x1537003 x1537004 x1559000 x1559001 x1559002 x1559003 (y1583 ++ y1586)) else (none))) else (none)) else (none))) else (none))) else (none)) else (none)))) else (tolllaw06_RuleLess.j1 k x1536000 x1536001 x1536002 x1536003 x1536004 x1537000 x1537001 x1537002 x1537003 x1537004 x1559000 x1559001 x1559002 x1559003 x1559004))
end
noncomputable def tolllaw06_RuleLess.f (k : Nat) (a0_0 : Int) (a0_1 : ByteArray) (a0_2 : ByteArray) (l0_3 : List (S49)) (l0_4 : List (S49)) (a1_0 : ByteArray) (a1_1 : ByteArray) (a1_2 : ByteArray) (l1_3 : List (S49)) (l1_4 : List (S49)) (a2 : Int) : Option (Bool) := (tolllaw06_Few.f k a0_0 a0_1 a0_2 l0_3 l0_4).bind fun bt1537 => ((tolllaw06_Asked.f k a1_0 a1_1 a1_2 l1_3 l1_4).bind fun bt1546 => ((rule_May.f k bt1537.1 bt1537.2.1 bt1537.2.2.1 bt1537.2.2.2.1 bt1537.2.2.2.2).bind fun t1555 => (if t1555 = true then (if (Int.tmod a2 3) = 0 then (tolllaw06_RuleLess.j1 k bt1537.1 bt1537.2.1 bt1537.2.2.1 bt1537.2.2.2.1 bt1537.2.2.2.2 bt1546.1 bt1546.2.1 bt1546.2.2.1 bt1546.2.2.2.1 bt1546.2.2.2.2 bt1537.1 bt1537.2.1 (⟨#[]⟩ : ByteArray) bt1537.2.2.2.1 bt1537.2.2.2.2) else (if (Int.tmod a2 3) = 1 then (tolllaw06_RuleLess.j0 k a2 (decide ((bt1537.2.2.2.1.length : Int) > 0)) bt1537.1 bt1537.2.1 bt1537.2.2.1 bt1537.2.2.2.1 bt1537.2.2.2.2 bt1546.1 bt1546.2.1 bt1546.2.2.1 bt1546.2.2.2.1 bt1546.2.2.2.2 bt1537.1 bt1537.2.1 bt1537.2.2.1 bt1537.2.2.2.1 bt1537.2.2.2.2) else (tolllaw06_RuleLess.j0 k a2 false bt1537.1 bt1537.2.1 bt1537.2.2.1 bt1537.2.2.2.1 bt1537.2.2.2.2 bt1546.1 bt1546.2.1 bt1546.2.2.1 bt1546.2.2.2.1 bt1546.2.2.2.2 bt1537.1 bt1537.2.1 bt1537.2.2.1 bt1537.2.2.2.1 bt1537.2.2.2.2))) else ((rule_Holds.f k bt1537.1 bt1537.2.1 bt1537.2.2.1 bt1537.2.2.2.1 bt1537.2.2.2.2 bt1546.1 bt1546.2.1 bt1546.2.2.1 bt1546.2.2.2.1 bt1546.2.2.2.2).bind fun t1556 => (if t1556 = true then (none) else ((tolllaw06_awake.f).bind fun t1557 => (some t1557)))))))
theorem tolllaw06_RuleLess.mono_l : ∀ k, (∀ y0 y1 y2 y3 y4 y5 y6 y7 y8 y9 y10 y11 y12 y13 y14, LeO (tolllaw06_RuleLess.j1 k y0 y1 y2 y3 y4 y5 y6 y7 y8 y9 y10 y11 y12 y13 y14) (tolllaw06_RuleLess.j1 (k + 1) y0 y1 y2 y3 y4 y5 y6 y7 y8 y9 y10 y11 y12 y13 y14)) ∧ (∀ y0 y1 y2 y3 y4 y5 y6 y7 y8 y9 y10 y11 y12 y13 y14 y15 y16, LeO (tolllaw06_RuleLess.j0 k y0 y1 y2 y3 y4 y5 y6 y7 y8 y9 y10 y11 y12 y13 y14 y15 y16) (tolllaw06_RuleLess.j0 (k + 1) y0 y1 y2 y3 y4 y5 y6 y7 y8 y9 y10 y11 y12 y13 y14 y15 y16))
 | 0 => ⟨fun _ _ _ _ _ _ _ _ _ _ _ _ _ _ _ r h => by simp [tolllaw06_RuleLess.j1] at h, fun _ _ _ _ _ _ _ _ _ _ _ _ _ _ _ _ _ r h => by simp [tolllaw06_RuleLess.j0] at h⟩
 | k + 1 => by
  obtain ⟨ih0, ih1⟩ := tolllaw06_RuleLess.mono_l k
  refine ⟨?_, ?_⟩
  ·intro y0 y1 y2 y3 y4 y5 y6 y7 y8 y9 y10 y11 y12 y13 y14
   unfold tolllaw06_RuleLess.j1
   repeat' first
   | (with_reducible exact ih0 _ _ _ _ _ _ _ _ _ _ _ _ _ _ _)
   | (with_reducible exact ih1 _ _ _ _ _ _ _ _ _ _ _ _ _ _ _ _ _)
   | (with_reducible exact rule_Holds.mono _ _ _ _ _ _ _ _ _ _ _)
   | (with_reducible exact rule_May.mono _ _ _ _ _ _)
   | (with_reducible exact tolllaw06_Asked.mono _ _ _ _ _ _)
   | (with_reducible exact tolllaw06_Few.mono _ _ _ _ _ _)
   | (with_reducible exact LeO.refl _)
   | (with_reducible exact LeO.none _)
   | (with_reducible refine LeO.ite ?_ ?_)
   | (with_reducible refine LeO.bind ?_ (fun _ => ?_))
   | exact ih0 _ _ _ _ _ _ _ _ _ _ _ _ _ _ _
   | exact ih1 _ _ _ _ _ _ _ _ _ _ _ _ _ _ _ _ _
   | exact rule_Holds.mono _ _ _ _ _ _ _ _ _ _ _
   | exact rule_May.mono _ _ _ _ _ _
   | exact tolllaw06_Asked.mono _ _ _ _ _ _
   | exact tolllaw06_Few.mono _ _ _ _ _ _
   | exact LeO.none _
   | refine LeO.ite ?_ ?_
   | refine LeO.bind ?_ (fun _ => ?_)
  ·intro y0 y1 y2 y3 y4 y5 y6 y7 y8 y9 y10 y11 y12 y13 y14 y15 y16
   unfold tolllaw06_RuleLess.j0
   repeat' first
   | (with_reducible exact ih0 _ _ _ _ _ _ _ _ _ _ _ _ _ _ _)
   | (with_reducible exact ih1 _ _ _ _ _ _ _ _ _ _ _ _ _ _ _ _ _)
   | (with_reducible exact rule_Holds.mono _ _ _ _ _ _ _ _ _ _ _)
   | (with_reducible exact rule_May.mono _ _ _ _ _ _)
   | (with_reducible exact tolllaw06_Asked.mono _ _ _ _ _ _)
   | (with_reducible exact tolllaw06_Few.mono _ _ _ _ _ _)
   | (with_reducible exact LeO.refl _)
   | (with_reducible exact LeO.none _)
   | (with_reducible refine LeO.ite ?_ ?_)
   | (with_reducible refine LeO.bind ?_ (fun _ => ?_))
   | exact ih0 _ _ _ _ _ _ _ _ _ _ _ _ _ _ _
   | exact ih1 _ _ _ _ _ _ _ _ _ _ _ _ _ _ _ _ _
   | exact rule_Holds.mono _ _ _ _ _ _ _ _ _ _ _
   | exact rule_May.mono _ _ _ _ _ _
   | exact tolllaw06_Asked.mono _ _ _ _ _ _
   | exact tolllaw06_Few.mono _ _ _ _ _ _
   | exact LeO.none _
   | refine LeO.ite ?_ ?_
   | refine LeO.bind ?_ (fun _ => ?_)
theorem tolllaw06_RuleLess.mono : ∀ a0 a1 a2 a3 a4 a5 a6 a7 a8 a9 a10 k, LeO (tolllaw06_RuleLess.f k a0 a1 a2 a3 a4 a5 a6 a7 a8 a9 a10) (tolllaw06_RuleLess.f (k + 1) a0 a1 a2 a3 a4 a5 a6 a7 a8 a9 a10) := by
 intro a0 a1 a2 a3 a4 a5 a6 a7 a8 a9 a10 k
 obtain ⟨ih0, ih1⟩ := tolllaw06_RuleLess.mono_l k
 unfold tolllaw06_RuleLess.f
 repeat' first
   | (with_reducible exact ih0 _ _ _ _ _ _ _ _ _ _ _ _ _ _ _)
   | (with_reducible exact ih1 _ _ _ _ _ _ _ _ _ _ _ _ _ _ _ _ _)
   | (with_reducible exact rule_Holds.mono _ _ _ _ _ _ _ _ _ _ _)
   | (with_reducible exact rule_May.mono _ _ _ _ _ _)
   | (with_reducible exact tolllaw06_Asked.mono _ _ _ _ _ _)
   | (with_reducible exact tolllaw06_Few.mono _ _ _ _ _ _)
   | (with_reducible exact LeO.refl _)
   | (with_reducible exact LeO.none _)
   | (with_reducible refine LeO.ite ?_ ?_)
   | (with_reducible refine LeO.bind ?_ (fun _ => ?_))
   | exact ih0 _ _ _ _ _ _ _ _ _ _ _ _ _ _ _
   | exact ih1 _ _ _ _ _ _ _ _ _ _ _ _ _ _ _ _ _
   | exact rule_Holds.mono _ _ _ _ _ _ _ _ _ _ _
   | exact rule_May.mono _ _ _ _ _ _
   | exact tolllaw06_Asked.mono _ _ _ _ _ _
   | exact tolllaw06_Few.mono _ _ _ _ _ _
   | exact LeO.none _
   | refine LeO.ite ?_ ?_
   | refine LeO.bind ?_ (fun _ => ?_)
noncomputable def tolllaw06_RuleLess.T9 : Bool × List (List Nat × List Nat) := (true, [([], []), ([], []), ([1], [1]), ([], []), ([2, 3], [2, 3]), ([0, 4], [0, 4]), ([], []), ([6], [6]), ([], []), ([8], [8]), ([7, 9], [7, 9]), ([5, 10, 5], [5, 10]), ([0, 1, 2, 3, 4, 5, 6, 7, 8, 9, 10, 11], []), ([12, 11, 11, 0, 1, 2, 3, 4, 5, 6, 7, 8, 9, 10, 11], [11, 12])])
noncomputable def tolllaw06_RuleLess.B9 : List Nat := [0, 0, 2, 0, 14, 31, 0, 64, 0, 256, 960, 2047, 4095, 8191]
theorem tolllaw06_RuleLess.tab9 : rtab .any (opsOf Tryd.f6 9) = tolllaw06_RuleLess.T9 := by kernel_rfl
theorem tolllaw06_RuleLess.bits9 : waitsOk tolllaw06_RuleLess.T9.2 tolllaw06_RuleLess.B9 = true := by kernel_rfl
noncomputable def tolllaw06_RuleLess.T12 : Bool × List (List Nat × List Nat) := (true, [([], []), ([], []), ([1], [1]), ([], []), ([2, 3], [2, 3]), ([0, 4], [0, 4]), ([], []), ([6], [6]), ([], []), ([8], [8]), ([7, 9], [7, 9]), ([5, 10, 5], [5, 10]), ([0, 1, 2, 3, 4, 5, 6, 7, 8, 9, 10, 11], []), ([12, 11, 11, 0, 1, 2, 3, 4, 5, 6, 7, 8, 9, 10, 11], [11, 12])])
noncomputable def tolllaw06_RuleLess.B12 : List Nat := [0, 0, 2, 0, 14, 31, 0, 64, 0, 256, 960, 2047, 4095, 8191]
theorem tolllaw06_RuleLess.tab12 : rtab .any (opsOf Tryd.f6 12) = tolllaw06_RuleLess.T12 := by kernel_rfl
theorem tolllaw06_RuleLess.bits12 : waitsOk tolllaw06_RuleLess.T12.2 tolllaw06_RuleLess.B12 = true := by kernel_rfl
set_option maxHeartbeats 6000000 in
set_option maxRecDepth 100000 in
theorem tolllaw06_RuleLess.calls (k : Nat) (a0_0 : Int) (a0_1 : ByteArray) (a0_2 : ByteArray) (A0_3 : Option Addr) (c0_3 : Nat) (l0_3 : List (S49)) (A0_4 : Option Addr) (c0_4 : Nat) (l0_4 : List (S49)) (a1_0 : ByteArray) (a1_1 : ByteArray) (a1_2 : ByteArray) (A1_3 : Option Addr) (c1_3 : Nat) (l1_3 : List (S49)) (A1_4 : Option Addr) (c1_4 : Nat) (l1_4 : List (S49)) (a2 : Int) (r : Bool) (w : World) (hr0_3 : Kd.C k49 w A0_3 l0_3.length l0_3) (hc0_3 : l0_3.length ≤ c0_3) (hr0_4 : Kd.C k49 w A0_4 l0_4.length l0_4) (hc0_4 : l0_4.length ≤ c0_4) (hr1_3 : Kd.C k49 w A1_3 l1_3.length l1_3) (hc1_3 : l1_3.length ≤ c1_3) (hr1_4 : Kd.C k49 w A1_4 l1_4.length l1_4) (hc1_4 : l1_4.length ≤ c1_4) (h : tolllaw06_RuleLess.f k a0_0 a0_1 a0_2 l0_3 l0_4 a1_0 a1_1 a1_2 l1_3 l1_4 a2 = some r) :
  Calls Tryd.prog 6 #[.agg #[.int .i64 a0_0, .string a0_1, .string a0_2, .slice A0_3 l0_3.length c0_3, .slice A0_4 l0_4.length c0_4], .agg #[.string a1_0, .string a1_1, .string a1_2, .slice A1_3 l1_3.length c1_3, .slice A1_4 l1_4.length c1_4], .int .u8 a2] w fun e w' => e = .returned (.bool r) ∧ Below w.heap.size w w' := by
 have hu26 := Tryd.underlying26
 have hu28 := Tryd.underlying28
 have HR0_3 := Aside0.mk hr0_3
 have HC0_3 := Aside0.mk hc0_3
 clear hr0_3 hc0_3
 have HR0_4 := Aside0.mk hr0_4
 have HC0_4 := Aside0.mk hc0_4
 clear hr0_4 hc0_4
 have HR1_3 := Aside0.mk hr1_3
 have HC1_3 := Aside0.mk hc1_3
 clear hr1_3 hc1_3
 have HR1_4 := Aside0.mk hr1_4
 have HC1_4 := Aside0.mk hc1_4
 clear hr1_4 hc1_4
 have HB := am_ (Below.refl w.heap.size w)
 have H : ((tolllaw06_Few.f k a0_0 a0_1 a0_2 l0_3 l0_4).bind fun bt1537 => ((tolllaw06_Asked.f k a1_0 a1_1 a1_2 l1_3 l1_4).bind fun bt1546 => ((rule_May.f k bt1537.1 bt1537.2.1 bt1537.2.2.1 bt1537.2.2.2.1 bt1537.2.2.2.2).bind fun t1555 => (if t1555 = true then (if (Int.tmod a2 3) = 0 then (tolllaw06_RuleLess.j1 k bt1537.1 bt1537.2.1 bt1537.2.2.1 bt1537.2.2.2.1 bt1537.2.2.2.2 bt1546.1 bt1546.2.1 bt1546.2.2.1 bt1546.2.2.2.1 bt1546.2.2.2.2 bt1537.1 bt1537.2.1 (⟨#[]⟩ : ByteArray) bt1537.2.2.2.1 bt1537.2.2.2.2) else (if (Int.tmod a2 3) = 1 then (tolllaw06_RuleLess.j0 k a2 (decide ((bt1537.2.2.2.1.length : Int) > 0)) bt1537.1 bt1537.2.1 bt1537.2.2.1 bt1537.2.2.2.1 bt1537.2.2.2.2 bt1546.1 bt1546.2.1 bt1546.2.2.1 bt1546.2.2.2.1 bt1546.2.2.2.2 bt1537.1 bt1537.2.1 bt1537.2.2.1 bt1537.2.2.2.1 bt1537.2.2.2.2) else (tolllaw06_RuleLess.j0 k a2 false bt1537.1 bt1537.2.1 bt1537.2.2.1 bt1537.2.2.2.1 bt1537.2.2.2.2 bt1546.1 bt1546.2.1 bt1546.2.2.1 bt1546.2.2.2.1 bt1546.2.2.2.2 bt1537.1 bt1537.2.1 bt1537.2.2.1 bt1537.2.2.2.1 bt1537.2.2.2.2))) else ((rule_Holds.f k bt1537.1 bt1537.2.1 bt1537.2.2.1 bt1537.2.2.2.1 bt1537.2.2.2.2 bt1546.1 bt1546.2.1 bt1546.2.2.1 bt1546.2.2.2.1 bt1546.2.2.2.2).bind fun t1556 => (if t1556 = true then (none) else ((tolllaw06_awake.f).bind fun t1557 => (some t1557)))))))) = some r := h
 clear h
 replace H := Option.bind_eq_some_iff.mp H
 obtain ⟨⟨t1537, t1538, t1539, t1540, t1543⟩, A40, H⟩ := H
 replace H : ((tolllaw06_Asked.f k a1_0 a1_1 a1_2 l1_3 l1_4).bind fun bt1546 => ((rule_May.f k t1537 t1538 t1539 t1540 t1543).bind fun t1555 => (if t1555 = true then (if (Int.tmod a2 3) = 0 then (tolllaw06_RuleLess.j1 k t1537 t1538 t1539 t1540 t1543 bt1546.1 bt1546.2.1 bt1546.2.2.1 bt1546.2.2.2.1 bt1546.2.2.2.2 t1537 t1538 (⟨#[]⟩ : ByteArray) t1540 t1543) else (if (Int.tmod a2 3) = 1 then (tolllaw06_RuleLess.j0 k a2 (decide ((t1540.length : Int) > 0)) t1537 t1538 t1539 t1540 t1543 bt1546.1 bt1546.2.1 bt1546.2.2.1 bt1546.2.2.2.1 bt1546.2.2.2.2 t1537 t1538 t1539 t1540 t1543) else (tolllaw06_RuleLess.j0 k a2 false t1537 t1538 t1539 t1540 t1543 bt1546.1 bt1546.2.1 bt1546.2.2.1 bt1546.2.2.2.1 bt1546.2.2.2.2 t1537 t1538 t1539 t1540 t1543))) else ((rule_Holds.f k t1537 t1538 t1539 t1540 t1543 bt1546.1 bt1546.2.1 bt1546.2.2.1 bt1546.2.2.2.1 bt1546.2.2.2.2).bind fun t1556 => (if t1556 = true then (none) else ((tolllaw06_awake.f).bind fun t1557 => (some t1557))))))) = some r := H
 have A4 := Aside0.mk A40
 clear A40
 replace H := Option.bind_eq_some_iff.mp H
 obtain ⟨⟨t1546, t1547, t1548, t1549, t1552⟩, A50, H⟩ := H
 replace H : ((rule_May.f k t1537 t1538 t1539 t1540 t1543).bind fun t1555 => (if t1555 = true then (if (Int.tmod a2 3) = 0 then (tolllaw06_RuleLess.j1 k t1537 t1538 t1539 t1540 t1543 t1546 t1547 t1548 t1549 t1552 t1537 t1538 (⟨#[]⟩ : ByteArray) t1540 t1543) else (if (Int.tmod a2 3) = 1 then (tolllaw06_RuleLess.j0 k a2 (decide ((t1540.length : Int) > 0)) t1537 t1538 t1539 t1540 t1543 t1546 t1547 t1548 t1549 t1552 t1537 t1538 t1539 t1540 t1543) else (tolllaw06_RuleLess.j0 k a2 false t1537 t1538 t1539 t1540 t1543 t1546 t1547 t1548 t1549 t1552 t1537 t1538 t1539 t1540 t1543))) else ((rule_Holds.f k t1537 t1538 t1539 t1540 t1543 t1546 t1547 t1548 t1549 t1552).bind fun t1556 => (if t1556 = true then (none) else ((tolllaw06_awake.f).bind fun t1557 => (some t1557)))))) = some r := H
 have A5 := Aside0.mk A50
 clear A50
 replace H := Option.bind_eq_some_iff.mp H
 obtain ⟨t1555, A60, H⟩ := H
 replace H : (if t1555 = true then (if (Int.tmod a2 3) = 0 then (tolllaw06_RuleLess.j1 k t1537 t1538 t1539 t1540 t1543 t1546 t1547 t1548 t1549 t1552 t1537 t1538 (⟨#[]⟩ : ByteArray) t1540 t1543) else (if (Int.tmod a2 3) = 1 then (tolllaw06_RuleLess.j0 k a2 (decide ((t1540.length : Int) > 0)) t1537 t1538 t1539 t1540 t1543 t1546 t1547 t1548 t1549 t1552 t1537 t1538 t1539 t1540 t1543) else (tolllaw06_RuleLess.j0 k a2 false t1537 t1538 t1539 t1540 t1543 t1546 t1547 t1548 t1549 t1552 t1537 t1538 t1539 t1540 t1543))) else ((rule_Holds.f k t1537 t1538 t1539 t1540 t1543 t1546 t1547 t1548 t1549 t1552).bind fun t1556 => (if t1556 = true then (none) else ((tolllaw06_awake.f).bind fun t1557 => (some t1557))))) = some r := H
 have A6 := Aside0.mk A60
 clear A60
 by_cases c7 : t1555 = true
 ·subst c7
  have H1 : (if (Int.tmod a2 3) = 0 then (tolllaw06_RuleLess.j1 k t1537 t1538 t1539 t1540 t1543 t1546 t1547 t1548 t1549 t1552 t1537 t1538 (⟨#[]⟩ : ByteArray) t1540 t1543) else (if (Int.tmod a2 3) = 1 then (tolllaw06_RuleLess.j0 k a2 (decide ((t1540.length : Int) > 0)) t1537 t1538 t1539 t1540 t1543 t1546 t1547 t1548 t1549 t1552 t1537 t1538 t1539 t1540 t1543) else (tolllaw06_RuleLess.j0 k a2 false t1537 t1538 t1539 t1540 t1543 t1546 t1547 t1548 t1549 t1552 t1537 t1538 t1539 t1540 t1543))) = some r := by rw [if_pos rfl] at H; exact H
  clear H
  have H := H1
  clear H1
  have HC8 := Aside0.mk H
  clear H
  go_enter Tryd.func6, Tryd.ntmps6
  try go_wp2_with (first | ((with_reducible refine gate_dst (N := 3) rfl ?_); (try (refine gate_guard (by rfl) ?_; dsimp only)); refine box_event ?hg (N := 3) ?hd (cs := #[.int .i64 a0_0, .string a0_1, .string a0_2, .slice A0_3 l0_3.length c0_3, .slice A0_4 l0_4.length c0_4]) (t := 26) ?hr ?_; (case hd => rfl); (case hg => rfl); (case hr => first | (go_simp; done) | (go_simp; rfl)); intro gb1535 hg w9 hbox hb; have n0_ := am_ (below_step (bel_ HB.out) hb); have n1_ := am_ (hbox); have n2_ := am_ ((by rw [hg]; exact (below_size (bel_ HB.out)) : w.heap.size ≤ gb1535)); have n3_ := am_ ((by rw [hg]; exact (below_size (bel_ HB.out)) : w.heap.size ≤ gb1535)); clear HB; have HB := n0_; have BK1535 := n1_; have GW1535 := n2_; have GE1535 := n3_; clear n0_ n1_ n2_ n3_ hb hbox hg) | ((with_reducible refine gate_dst (N := 4) rfl ?_); (try (refine gate_guard (by rfl) ?_; dsimp only)); refine box_event ?hg (N := 4) ?hd (cs := #[.string a1_0, .string a1_1, .string a1_2, .slice A1_3 l1_3.length c1_3, .slice A1_4 l1_4.length c1_4]) (t := 28) ?hr ?_; (case hd => rfl); (case hg => rfl); (case hr => first | (go_simp; done) | (go_simp; rfl)); intro gb1536 hg w10 hbox hb; have n0_ := am_ (blk_below (g := gb1535) (o := .cells #[.int .i64 a0_0, .string a0_1, .string a0_2, .slice A0_3 l0_3.length c0_3, .slice A0_4 l0_4.length c0_4] 26 (0, 0)) (blk_ BK1535.out) hb); have n1_ := am_ (below_step (bel_ HB.out) hb); have n2_ := am_ (hbox); have n3_ := am_ ((by rw [hg]; exact (below_size (bel_ HB.out)) : w.heap.size ≤ gb1536)); have n4_ := am_ ((by rw [hg]; exact (below_size (bel_ HB.out)) : w.heap.size ≤ gb1536)); have n5_ := am_ ((by rw [hg]; exact Nat.ne_of_lt (blk_lt (g := gb1535) (o := .cells #[.int .i64 a0_0, .string a0_1, .string a0_2, .slice A0_3 l0_3.length c0_3, .slice A0_4 l0_4.length c0_4] 26 (0, 0)) (blk_ BK1535.out)) : gb1535 ≠ gb1536)); have n6_ := am_ ((by rw [hg]; exact Nat.ne_of_gt (blk_lt (g := gb1535) (o := .cells #[.int .i64 a0_0, .string a0_1, .string a0_2, .slice A0_3 l0_3.length c0_3, .slice A0_4 l0_4.length c0_4] 26 (0, 0)) (blk_ BK1535.out)) : gb1536 ≠ gb1535)); clear BK1535 HB; have BK1535 := n0_; have HB := n1_; have BK1536 := n2_; have GW1536 := n3_; have GE1536 := n4_; have NB1535_1536 := n5_; have NB1536_1535 := n6_; clear n0_ n1_ n2_ n3_ n4_ n5_ n6_ hb hbox hg))
  have n0_ := am_ (blk_drew BK1535.out)
  have n1_ := am_ (blk_drew BK1536.out)
  have n2_ := am_ (below_drew1 HB.out)
  clear BK1535 BK1536 HB
  have BK1535 := n0_
  have BK1536 := n1_
  have HB := n2_
  clear n0_ n1_ n2_
  refine start_ (n := 6) (S := fun w' => w'.cell? ⟨gb1535, 0, none⟩ = some (.int .i64 a0_0) ∧ w'.cell? ⟨gb1535, 1, none⟩ = some (.string a0_1) ∧ w'.cell? ⟨gb1535, 2, none⟩ = some (.string a0_2) ∧ w'.cell? ⟨gb1535, 3, none⟩ = some (.slice A0_3 l0_3.length c0_3) ∧ w'.cell? ⟨gb1535, 4, none⟩ = some (.slice A0_4 l0_4.length c0_4) ∧ w'.cell? ⟨gb1536, 0, none⟩ = some (.string a1_0) ∧ w'.cell? ⟨gb1536, 1, none⟩ = some (.string a1_1) ∧ w'.cell? ⟨gb1536, 2, none⟩ = some (.string a1_2) ∧ w'.cell? ⟨gb1536, 3, none⟩ = some (.slice A1_3 l1_3.length c1_3) ∧ w'.cell? ⟨gb1536, 4, none⟩ = some (.slice A1_4 l1_4.length c1_4)) (ds := [4, 5]) #[false, false, false, false, false, false] kr_ rfl rfl ⟨(blk_cell BK1535.out 0).trans rfl, (blk_cell BK1535.out 1).trans rfl, (blk_cell BK1535.out 2).trans rfl, (blk_cell BK1535.out 3).trans rfl, (blk_cell BK1535.out 4).trans rfl, (blk_cell BK1536.out 0).trans rfl, (blk_cell BK1536.out 1).trans rfl, (blk_cell BK1536.out 2).trans rfl, (blk_cell BK1536.out 3).trans rfl, (blk_cell BK1536.out 4).trans rfl⟩ (fun hHeld => ?_)
  generalize w10.drew = w11 at BK1535 BK1536 HB hHeld ⊢
  refine take_ (i := 0) (N := some 10) (v := ?_) (a' := ?_) #[true, false, false, false, false, false] rfl rfl kr_ (fun _ _ _ h => h) (Or.inl ⟨by rfl, ?_⟩) hHeld ?_ ?_
  rotate_left
  ·rintro w' ⟨s0, s1, s2, s3, s4, s5, s6, s7, s8, s9⟩
   go_simp
   with_reducible rfl
  rotate_left
  ·simp only [Act.put, sx_, s0_, s1_, i64_w, i32_w]
   rfl
  refine take_ (i := 2) (N := some 12) (v := ?_) (a' := ?_) #[true, false, true, false, false, false] rfl rfl kr_ (fun _ _ _ h => h) (Or.inl ⟨by rfl, ?_⟩) hHeld ?_ ?_
  rotate_left
  ·rintro w' ⟨s0, s1, s2, s3, s4, s5, s6, s7, s8, s9⟩
   go_simp
   with_reducible rfl
  rotate_left
  ·simp only [Act.put, sx_, s0_, s1_, i64_w, i32_w]
   rfl
  refine one_ (i := 1) (N := some 11) #[true, true, true, false, false, false] rfl rfl kr_ (by decide) (fun K hK => ?_)
  refine goes_ Tryd.func9 kr_ rfl #[.agg #[.int .i64 a0_0, .string a0_1, .string a0_2, .slice A0_3 l0_3.length c0_3, .slice A0_4 l0_4.length c0_4]] (by rfl) rfl rfl rl_ ?_
  with_reducible refine (tolllaw06_Few.calls k a0_0 a0_1 a0_2 _ _ l0_3 _ _ l0_4 t1537 t1538 t1539 t1540 t1543 _ ?side1 ?side2 ?side3 ?side4 A4.out).mono ?_
  (case side1 => exact C_ (Kd.C_below HR0_3.out HB.out))
  (case side2 => exact HC0_3.out)
  (case side3 => exact C_ (Kd.C_below HR0_4.out HB.out))
  (case side4 => exact HC0_4.out)
  rintro e w12 ⟨v1541, v1544, rfl, ho0, ho1, hb⟩
  refine ⟨_, rfl, ?_⟩
  have n0_ := am_ (Kd.R_lower ho0 (below_size (bel_ HB.out)))
  have n1_ := am_ (Kd.R_lower ho1 (below_size (bel_ HB.out)))
  have n2_ := am_ (blk_below (g := gb1535) (o := .cells #[.int .i64 a0_0, .string a0_1, .string a0_2, .slice A0_3 l0_3.length c0_3, .slice A0_4 l0_4.length c0_4] 26 (0, 0)) (blk_ BK1535.out) hb)
  have n3_ := am_ (blk_below (g := gb1536) (o := .cells #[.string a1_0, .string a1_1, .string a1_2, .slice A1_3 l1_3.length c1_3, .slice A1_4 l1_4.length c1_4] 28 (0, 0)) (blk_ BK1536.out) hb)
  have n4_ := am_ (below_step (bel_ HB.out) hb)
  clear BK1535 BK1536 HB
  have HO1542 := n0_
  have HO1545 := n1_
  have BK1535 := n2_
  have BK1536 := n3_
  have HB := n4_
  clear n0_ n1_ n2_ n3_ n4_
  (try clear hb)
  (try clear hb2)
  (try clear hk)
  (try clear hi)
  (try clear ho0)
  (try clear ho1)
  refine hK.out _ _ ⟨(blk_cell BK1535.out 0).trans rfl, (blk_cell BK1535.out 1).trans rfl, (blk_cell BK1535.out 2).trans rfl, (blk_cell BK1535.out 3).trans rfl, (blk_cell BK1535.out 4).trans rfl, (blk_cell BK1536.out 0).trans rfl, (blk_cell BK1536.out 1).trans rfl, (blk_cell BK1536.out 2).trans rfl, (blk_cell BK1536.out 3).trans rfl, (blk_cell BK1536.out 4).trans rfl⟩ (fun hHeld => ?_)
  clear hK K
  refine norm_ (a' := ?_) ?_ ?_
  rotate_left
  ·show Act.put _ (some 11) _ = _
   simp only [Act.put, sx_, s0_, s1_, i64_w, i32_w]
   rfl
  refine one_ (i := 3) (N := some 13) #[true, true, true, true, false, false] rfl rfl kr_ (by decide) (fun K hK => ?_)
  refine goes_ Tryd.func10 kr_ rfl #[.agg #[.string a1_0, .string a1_1, .string a1_2, .slice A1_3 l1_3.length c1_3, .slice A1_4 l1_4.length c1_4]] (by rfl) rfl rfl rl_ ?_
  with_reducible refine (tolllaw06_Asked.calls k a1_0 a1_1 a1_2 _ _ l1_3 _ _ l1_4 t1546 t1547 t1548 t1549 t1552 _ ?side1 ?side2 ?side3 ?side4 A5.out).mono ?_
  (case side1 => exact C_ (Kd.C_below HR1_3.out HB.out))
  (case side2 => exact HC1_3.out)
  (case side3 => exact C_ (Kd.C_below HR1_4.out HB.out))
  (case side4 => exact HC1_4.out)
  rintro e w13 ⟨v1550, v1553, rfl, ho0, ho1, hb⟩
  refine ⟨_, rfl, ?_⟩
  have n0_ := am_ (Kd.R_mono (Kd.R_told (Kd.R_told (Kd.R_old (R_ HO1542.out) hb) (Kd.R_base ho0)) (Kd.R_base ho1)) (fun _ h_ => h_.1))
  have n1_ := am_ (Kd.R_mono (Kd.R_told (Kd.R_told (Kd.R_old (R_ HO1545.out) hb) (Kd.R_base ho0)) (Kd.R_base ho1)) (fun _ h_ => h_.1))
  have n2_ := am_ (Kd.R_lower (Kd.R_new' (Kd.R_new' ho0 (Kd.R_lt (R_ HO1542.out))) (Kd.R_lt (R_ HO1545.out))) (below_size (bel_ HB.out)))
  have n3_ := am_ (Kd.R_lower (Kd.R_new' (Kd.R_new' ho1 (Kd.R_lt (R_ HO1542.out))) (Kd.R_lt (R_ HO1545.out))) (below_size (bel_ HB.out)))
  have n4_ := am_ (blk_below (g := gb1535) (o := .cells #[.int .i64 a0_0, .string a0_1, .string a0_2, .slice A0_3 l0_3.length c0_3, .slice A0_4 l0_4.length c0_4] 26 (0, 0)) (blk_ BK1535.out) hb)
  have n5_ := am_ (blk_below (g := gb1536) (o := .cells #[.string a1_0, .string a1_1, .string a1_2, .slice A1_3 l1_3.length c1_3, .slice A1_4 l1_4.length c1_4] 28 (0, 0)) (blk_ BK1536.out) hb)
  have n6_ := am_ (below_step (bel_ HB.out) hb)
  clear HO1542 HO1545 BK1535 BK1536 HB
  have HO1542 := n0_
  have HO1545 := n1_
  have HO1551 := n2_
  have HO1554 := n3_
  have BK1535 := n4_
  have BK1536 := n5_
  have HB := n6_
  clear n0_ n1_ n2_ n3_ n4_ n5_ n6_
  (try clear hb)
  (try clear hb2)
  (try clear hk)
  (try clear hi)
  (try clear ho0)
  (try clear ho1)
  obtain ⟨Ao17, co17, eo17⟩ := Kd.R_slice HO1542.out
  (first | subst eo17 | (injection eo17 with f1_ f2_ f3_; have f4_ := f1_.symm; have f5_ := f3_.symm; clear f1_ f2_ f3_; subst f4_; subst f5_))
  obtain ⟨Ao19, co19, eo19⟩ := Kd.R_slice HO1545.out
  (first | subst eo19 | (injection eo19 with f1_ f2_ f3_; have f4_ := f1_.symm; have f5_ := f3_.symm; clear f1_ f2_ f3_; subst f4_; subst f5_))
  obtain ⟨Ao24, co24, eo24⟩ := Kd.R_slice HO1551.out
  (first | subst eo24 | (injection eo24 with f1_ f2_ f3_; have f4_ := f1_.symm; have f5_ := f3_.symm; clear f1_ f2_ f3_; subst f4_; subst f5_))
  obtain ⟨Ao26, co26, eo26⟩ := Kd.R_slice HO1554.out
  (first | subst eo26 | (injection eo26 with f1_ f2_ f3_; have f4_ := f1_.symm; have f5_ := f3_.symm; clear f1_ f2_ f3_; subst f4_; subst f5_))
  refine hK.out _ _ ⟨(blk_cell BK1535.out 0).trans rfl, (blk_cell BK1535.out 1).trans rfl, (blk_cell BK1535.out 2).trans rfl, (blk_cell BK1535.out 3).trans rfl, (blk_cell BK1535.out 4).trans rfl, (blk_cell BK1536.out 0).trans rfl, (blk_cell BK1536.out 1).trans rfl, (blk_cell BK1536.out 2).trans rfl, (blk_cell BK1536.out 3).trans rfl, (blk_cell BK1536.out 4).trans rfl⟩ (fun hHeld => ?_)
  clear hK K
  refine norm_ (a' := ?_) ?_ ?_
  rotate_left
  ·show Act.put _ (some 13) _ = _
   simp only [Act.put, sx_, s0_, s1_, i64_w, i32_w]
   rfl
  refine last_ (i := 4) (N := none) #[true, true, true, true, true, false] rfl rfl kr_ (by decide) (fun K hK => ?_)
  have hs14 : w13.cell? ⟨gb1535, 0, none⟩ = some (.int .i64 a0_0) := (blk_cell BK1535.out 0).trans rfl
  have hfs14 := blk_frozen BK1535.out 0
  have hns14_1 := NB1536_1535.out
  have hms14_1 := NB1535_1536.out
  have hs15 : w13.cell? ⟨gb1535, 1, none⟩ = some (.string a0_1) := (blk_cell BK1535.out 1).trans rfl
  have hfs15 := blk_frozen BK1535.out 1
  have hns15_1 := NB1536_1535.out
  have hms15_1 := NB1535_1536.out
  have hs16 : w13.cell? ⟨gb1535, 2, none⟩ = some (.string a0_2) := (blk_cell BK1535.out 2).trans rfl
  have hfs16 := blk_frozen BK1535.out 2
  have hns16_1 := NB1536_1535.out
  have hms16_1 := NB1535_1536.out
  have hs18 : w13.cell? ⟨gb1535, 3, none⟩ = some (.slice A0_3 l0_3.length c0_3) := (blk_cell BK1535.out 3).trans rfl
  have hfs18 := blk_frozen BK1535.out 3
  have hns18_1 := NB1536_1535.out
  have hms18_1 := NB1535_1536.out
  have hs20 : w13.cell? ⟨gb1535, 4, none⟩ = some (.slice A0_4 l0_4.length c0_4) := (blk_cell BK1535.out 4).trans rfl
  have hfs20 := blk_frozen BK1535.out 4
  have hns20_1 := NB1536_1535.out
  have hms20_1 := NB1535_1536.out
  refine skip_ (w1 := ?_) (by rfl) rfl ?_ ?_
  rotate_left
  ·go_simp
   rfl
  refine hK.out _ _ ?_
  clear hK K
  refine last_ (i := 5) (N := none) #[true, true, true, true, true, true] rfl rfl kr_ (by decide) (fun K hK => ?_)
  have hs21 : w13.cell? ⟨gb1536, 0, none⟩ = some (.string a1_0) := (blk_cell BK1536.out 0).trans rfl
  have hfs21 := blk_frozen BK1536.out 0
  have hns21_0 := NB1535_1536.out
  have hms21_0 := NB1536_1535.out
  have hs22 : w13.cell? ⟨gb1536, 1, none⟩ = some (.string a1_1) := (blk_cell BK1536.out 1).trans rfl
  have hfs22 := blk_frozen BK1536.out 1
  have hns22_0 := NB1535_1536.out
  have hms22_0 := NB1536_1535.out
  have hs23 : w13.cell? ⟨gb1536, 2, none⟩ = some (.string a1_2) := (blk_cell BK1536.out 2).trans rfl
  have hfs23 := blk_frozen BK1536.out 2
  have hns23_0 := NB1535_1536.out
  have hms23_0 := NB1536_1535.out
  have hs25 : w13.cell? ⟨gb1536, 3, none⟩ = some (.slice A1_3 l1_3.length c1_3) := (blk_cell BK1536.out 3).trans rfl
  have hfs25 := blk_frozen BK1536.out 3
  have hns25_0 := NB1535_1536.out
  have hms25_0 := NB1536_1535.out
  have hs27 : w13.cell? ⟨gb1536, 4, none⟩ = some (.slice A1_4 l1_4.length c1_4) := (blk_cell BK1536.out 4).trans rfl
  have hfs27 := blk_frozen BK1536.out 4
  have hns27_0 := NB1535_1536.out
  have hms27_0 := NB1536_1535.out
  refine skip_ (w1 := ?_) (by rfl) rfl ?_ ?_
  rotate_left
  ·go_simp
   rfl
  refine hK.out _ _ ?_
  clear hK K
  refine done_ kr_ ?_
  have hnb28 := NB1535_1536.out
  have hnc28 := NB1536_1535.out
  have hcz29_0 : w13.cell? ⟨gb1535, 0, none⟩ = some (.int .i64 a0_0) := (blk_cell BK1535.out 0).trans rfl
  have hcz29_1 : w13.cell? ⟨gb1535, 1, none⟩ = some (.string a0_1) := (blk_cell BK1535.out 1).trans rfl
  have hcz29_2 : w13.cell? ⟨gb1535, 2, none⟩ = some (.string a0_2) := (blk_cell BK1535.out 2).trans rfl
  have hcz29_3 : w13.cell? ⟨gb1535, 3, none⟩ = some (.slice A0_3 l0_3.length c0_3) := (blk_cell BK1535.out 3).trans rfl
  have hcz29_4 : w13.cell? ⟨gb1535, 4, none⟩ = some (.slice A0_4 l0_4.length c0_4) := (blk_cell BK1535.out 4).trans rfl
  have hfz29_0 := blk_frozen BK1535.out 0
  have hfz29_1 := blk_frozen BK1535.out 1
  have hfz29_2 := blk_frozen BK1535.out 2
  have hfz29_3 := blk_frozen BK1535.out 3
  have hfz29_4 := blk_frozen BK1535.out 4
  go_upto_block 0 with (first | ((with_reducible refine gate_callee (f := 12) rfl ?_); refine goesL_ (some 15) rfl rfl Tryd.func12 kr_ rfl #[.agg #[.int .i64 t1537, .string t1538, .string t1539, .slice Ao17 t1540.length co17, .slice Ao19 t1543.length co19]] rfl rl_ ?_; (with_reducible refine (rule_May.calls k t1537 t1538 t1539 _ _ t1540 _ _ t1543 true _ ?side1 ?side2 ?side3 ?side4 A6.out).mono ?_); (case side1 => refine (Kd.R_reads' (e := 49) (base := w.heap.size) (ok := fun k_ => ((some k_ ≠ (.slice Ao19 t1543.length co19 : Value).ownBlock ∧ some k_ ≠ (.slice Ao24 t1549.length co24 : Value).ownBlock) ∧ some k_ ≠ (.slice Ao26 t1552.length co26 : Value).ownBlock)) (n := t1540.length) (c := co17) ?_).2.2; exact (by (with_reducible repeat (first | apply Kd.R_alloc | apply Kd.R_drewN | apply Kd.R_drew)); exact (Kd.R_mono (Kd.R_mono (Kd.R_far (p := ⟨gb1536, 4, none⟩) (Kd.R_far (p := ⟨gb1536, 3, none⟩) (Kd.R_far (p := ⟨gb1536, 2, none⟩) (Kd.R_far (p := ⟨gb1536, 1, none⟩) (Kd.R_far (p := ⟨gb1536, 0, none⟩) (Kd.R_far (p := ⟨gb1535, 4, none⟩) (Kd.R_far (p := ⟨gb1535, 3, none⟩) (Kd.R_far (p := ⟨gb1535, 2, none⟩) (Kd.R_far (p := ⟨gb1535, 1, none⟩) (Kd.R_far (p := ⟨gb1535, 0, none⟩) (Kd.R_types (Kd.R_types HO1542.out BK1535.out (by decide)) BK1536.out (by decide)) (fun _ hk => hk.1.2) (.int .i64 t1537)) (fun _ hk => hk.1.2) (.string t1538)) (fun _ hk => hk.1.2) (.string t1539)) (fun _ hk => hk.1.2) (.slice Ao17 t1540.length co17)) (fun _ hk => hk.1.2) (.slice Ao19 t1543.length co19)) (fun _ hk => hk.2) (.string t1546)) (fun _ hk => hk.2) (.string t1547)) (fun _ hk => hk.2) (.string t1548)) (fun _ hk => hk.2) (.slice Ao24 t1549.length co24)) (fun _ hk => hk.2) (.slice Ao26 t1552.length co26)) (fun _ h_ => h_.1)) (fun _ h_ => h_.1)))); (case side2 => exact (Kd.R_reads' HO1542.out).2.1); (case side3 => refine (Kd.R_reads' (e := 49) (base := w.heap.size) (ok := fun k_ => ((some k_ ≠ (.slice Ao17 t1540.length co17 : Value).ownBlock ∧ some k_ ≠ (.slice Ao24 t1549.length co24 : Value).ownBlock) ∧ some k_ ≠ (.slice Ao26 t1552.length co26 : Value).ownBlock)) (n := t1543.length) (c := co19) ?_).2.2; exact (by (with_reducible repeat (first | apply Kd.R_alloc | apply Kd.R_drewN | apply Kd.R_drew)); exact (Kd.R_mono (Kd.R_mono (Kd.R_far (p := ⟨gb1536, 4, none⟩) (Kd.R_far (p := ⟨gb1536, 3, none⟩) (Kd.R_far (p := ⟨gb1536, 2, none⟩) (Kd.R_far (p := ⟨gb1536, 1, none⟩) (Kd.R_far (p := ⟨gb1536, 0, none⟩) (Kd.R_far (p := ⟨gb1535, 4, none⟩) (Kd.R_far (p := ⟨gb1535, 3, none⟩) (Kd.R_far (p := ⟨gb1535, 2, none⟩) (Kd.R_far (p := ⟨gb1535, 1, none⟩) (Kd.R_far (p := ⟨gb1535, 0, none⟩) (Kd.R_types (Kd.R_types HO1545.out BK1535.out (by decide)) BK1536.out (by decide)) (fun _ hk => hk.1.2) (.int .i64 t1537)) (fun _ hk => hk.1.2) (.string t1538)) (fun _ hk => hk.1.2) (.string t1539)) (fun _ hk => hk.1.2) (.slice Ao17 t1540.length co17)) (fun _ hk => hk.1.2) (.slice Ao19 t1543.length co19)) (fun _ hk => hk.2) (.string t1546)) (fun _ hk => hk.2) (.string t1547)) (fun _ hk => hk.2) (.string t1548)) (fun _ hk => hk.2) (.slice Ao24 t1549.length co24)) (fun _ hk => hk.2) (.slice Ao26 t1552.length co26)) (fun _ h_ => h_.1)) (fun _ h_ => h_.1)))); (case side4 => exact (Kd.R_reads' HO1545.out).2.1); rintro e w30 ⟨rfl, hb⟩; refine ⟨_, rfl, ?_⟩; have n0_ := am_ (Kd.R_below (by (with_reducible repeat (first | apply Kd.R_alloc | apply Kd.R_drewN | apply Kd.R_drew)); exact (Kd.R_mono (Kd.R_mono (Kd.R_far (p := ⟨gb1536, 4, none⟩) (Kd.R_far (p := ⟨gb1536, 3, none⟩) (Kd.R_far (p := ⟨gb1536, 2, none⟩) (Kd.R_far (p := ⟨gb1536, 1, none⟩) (Kd.R_far (p := ⟨gb1536, 0, none⟩) (Kd.R_far (p := ⟨gb1535, 4, none⟩) (Kd.R_far (p := ⟨gb1535, 3, none⟩) (Kd.R_far (p := ⟨gb1535, 2, none⟩) (Kd.R_far (p := ⟨gb1535, 1, none⟩) (Kd.R_far (p := ⟨gb1535, 0, none⟩) (Kd.R_types (Kd.R_types HO1542.out BK1535.out (by decide)) BK1536.out (by decide)) (fun _ hk => hk.1.2) (.int .i64 t1537)) (fun _ hk => hk.1.2) (.string t1538)) (fun _ hk => hk.1.2) (.string t1539)) (fun _ hk => hk.1.2) (.slice Ao17 t1540.length co17)) (fun _ hk => hk.1.2) (.slice Ao19 t1543.length co19)) (fun _ hk => hk.2) (.string t1546)) (fun _ hk => hk.2) (.string t1547)) (fun _ hk => hk.2) (.string t1548)) (fun _ hk => hk.2) (.slice Ao24 t1549.length co24)) (fun _ hk => hk.2) (.slice Ao26 t1552.length co26)) (fun _ h_ => h_.1)) (fun _ h_ => h_.1))) hb); have n1_ := am_ (Kd.R_below (by (with_reducible repeat (first | apply Kd.R_alloc | apply Kd.R_drewN | apply Kd.R_drew)); exact (Kd.R_mono (Kd.R_mono (Kd.R_far (p := ⟨gb1536, 4, none⟩) (Kd.R_far (p := ⟨gb1536, 3, none⟩) (Kd.R_far (p := ⟨gb1536, 2, none⟩) (Kd.R_far (p := ⟨gb1536, 1, none⟩) (Kd.R_far (p := ⟨gb1536, 0, none⟩) (Kd.R_far (p := ⟨gb1535, 4, none⟩) (Kd.R_far (p := ⟨gb1535, 3, none⟩) (Kd.R_far (p := ⟨gb1535, 2, none⟩) (Kd.R_far (p := ⟨gb1535, 1, none⟩) (Kd.R_far (p := ⟨gb1535, 0, none⟩) (Kd.R_types (Kd.R_types HO1545.out BK1535.out (by decide)) BK1536.out (by decide)) (fun _ hk => hk.1.2) (.int .i64 t1537)) (fun _ hk => hk.1.2) (.string t1538)) (fun _ hk => hk.1.2) (.string t1539)) (fun _ hk => hk.1.2) (.slice Ao17 t1540.length co17)) (fun _ hk => hk.1.2) (.slice Ao19 t1543.length co19)) (fun _ hk => hk.2) (.string t1546)) (fun _ hk => hk.2) (.string t1547)) (fun _ hk => hk.2) (.string t1548)) (fun _ hk => hk.2) (.slice Ao24 t1549.length co24)) (fun _ hk => hk.2) (.slice Ao26 t1552.length co26)) (fun _ h_ => h_.1)) (fun _ h_ => h_.1))) hb); have n2_ := am_ (Kd.R_below (by (with_reducible repeat (first | apply Kd.R_alloc | apply Kd.R_drewN | apply Kd.R_drew)); exact (Kd.R_mono (Kd.R_mono (Kd.R_far (p := ⟨gb1536, 4, none⟩) (Kd.R_far (p := ⟨gb1536, 3, none⟩) (Kd.R_far (p := ⟨gb1536, 2, none⟩) (Kd.R_far (p := ⟨gb1536, 1, none⟩) (Kd.R_far (p := ⟨gb1536, 0, none⟩) (Kd.R_far (p := ⟨gb1535, 4, none⟩) (Kd.R_far (p := ⟨gb1535, 3, none⟩) (Kd.R_far (p := ⟨gb1535, 2, none⟩) (Kd.R_far (p := ⟨gb1535, 1, none⟩) (Kd.R_far (p := ⟨gb1535, 0, none⟩) (Kd.R_types (Kd.R_types HO1551.out BK1535.out (by decide)) BK1536.out (by decide)) (fun _ hk => hk.1.2) (.int .i64 t1537)) (fun _ hk => hk.1.2) (.string t1538)) (fun _ hk => hk.1.2) (.string t1539)) (fun _ hk => hk.1.2) (.slice Ao17 t1540.length co17)) (fun _ hk => hk.1.2) (.slice Ao19 t1543.length co19)) (fun _ hk => hk.2) (.string t1546)) (fun _ hk => hk.2) (.string t1547)) (fun _ hk => hk.2) (.string t1548)) (fun _ hk => hk.2) (.slice Ao24 t1549.length co24)) (fun _ hk => hk.2) (.slice Ao26 t1552.length co26)) (fun _ h_ => h_.1)) (fun _ h_ => h_.1))) hb); have n3_ := am_ (Kd.R_below (by (with_reducible repeat (first | apply Kd.R_alloc | apply Kd.R_drewN | apply Kd.R_drew)); exact (Kd.R_mono (Kd.R_mono (Kd.R_far (p := ⟨gb1536, 4, none⟩) (Kd.R_far (p := ⟨gb1536, 3, none⟩) (Kd.R_far (p := ⟨gb1536, 2, none⟩) (Kd.R_far (p := ⟨gb1536, 1, none⟩) (Kd.R_far (p := ⟨gb1536, 0, none⟩) (Kd.R_far (p := ⟨gb1535, 4, none⟩) (Kd.R_far (p := ⟨gb1535, 3, none⟩) (Kd.R_far (p := ⟨gb1535, 2, none⟩) (Kd.R_far (p := ⟨gb1535, 1, none⟩) (Kd.R_far (p := ⟨gb1535, 0, none⟩) (Kd.R_types (Kd.R_types HO1554.out BK1535.out (by decide)) BK1536.out (by decide)) (fun _ hk => hk.1.2) (.int .i64 t1537)) (fun _ hk => hk.1.2) (.string t1538)) (fun _ hk => hk.1.2) (.string t1539)) (fun _ hk => hk.1.2) (.slice Ao17 t1540.length co17)) (fun _ hk => hk.1.2) (.slice Ao19 t1543.length co19)) (fun _ hk => hk.2) (.string t1546)) (fun _ hk => hk.2) (.string t1547)) (fun _ hk => hk.2) (.string t1548)) (fun _ hk => hk.2) (.slice Ao24 t1549.length co24)) (fun _ hk => hk.2) (.slice Ao26 t1552.length co26)) (fun _ h_ => h_.1)) (fun _ h_ => h_.1))) hb); have n4_ := am_ (blk_below (g := gb1535) (o := .cells #[.int .i64 t1537, .string t1538, .string t1539, .slice Ao17 t1540.length co17, .slice Ao19 t1543.length co19] 26 (0, 0)) (by (with_reducible repeat (first | refine blk_drewN ?_ _ | refine blk_drew ?_ | refine blk_alloc ?_ _)); refine blk_far ?_ NB1535_1536.out _; (with_reducible repeat (first | refine blk_drewN ?_ _ | refine blk_drew ?_ | refine blk_alloc ?_ _)); refine blk_far ?_ NB1535_1536.out _; (with_reducible repeat (first | refine blk_drewN ?_ _ | refine blk_drew ?_ | refine blk_alloc ?_ _)); refine blk_far ?_ NB1535_1536.out _; (with_reducible repeat (first | refine blk_drewN ?_ _ | refine blk_drew ?_ | refine blk_alloc ?_ _)); refine blk_far ?_ NB1535_1536.out _; (with_reducible repeat (first | refine blk_drewN ?_ _ | refine blk_drew ?_ | refine blk_alloc ?_ _)); refine blk_far ?_ NB1535_1536.out _; (with_reducible repeat (first | refine blk_drewN ?_ _ | refine blk_drew ?_ | refine blk_alloc ?_ _)); refine blk_put (cs := #[.int .i64 t1537, .string t1538, .string t1539, .slice Ao17 t1540.length co17, .slice A0_4 l0_4.length c0_4]) ?_ 4 _ rfl; (with_reducible repeat (first | refine blk_drewN ?_ _ | refine blk_drew ?_ | refine blk_alloc ?_ _)); refine blk_put (cs := #[.int .i64 t1537, .string t1538, .string t1539, .slice A0_3 l0_3.length c0_3, .slice A0_4 l0_4.length c0_4]) ?_ 3 _ rfl; (with_reducible repeat (first | refine blk_drewN ?_ _ | refine blk_drew ?_ | refine blk_alloc ?_ _)); refine blk_put (cs := #[.int .i64 t1537, .string t1538, .string a0_2, .slice A0_3 l0_3.length c0_3, .slice A0_4 l0_4.length c0_4]) ?_ 2 _ rfl; (with_reducible repeat (first | refine blk_drewN ?_ _ | refine blk_drew ?_ | refine blk_alloc ?_ _)); refine blk_put (cs := #[.int .i64 t1537, .string a0_1, .string a0_2, .slice A0_3 l0_3.length c0_3, .slice A0_4 l0_4.length c0_4]) ?_ 1 _ rfl; (with_reducible repeat (first | refine blk_drewN ?_ _ | refine blk_drew ?_ | refine blk_alloc ?_ _)); refine blk_put (cs := #[.int .i64 a0_0, .string a0_1, .string a0_2, .slice A0_3 l0_3.length c0_3, .slice A0_4 l0_4.length c0_4]) ?_ 0 _ rfl; (with_reducible repeat (first | refine blk_drewN ?_ _ | refine blk_drew ?_ | refine blk_alloc ?_ _)); exact BK1535.out) hb); have n5_ := am_ (blk_below (g := gb1536) (o := .cells #[.string t1546, .string t1547, .string t1548, .slice Ao24 t1549.length co24, .slice Ao26 t1552.length co26] 28 (0, 0)) (by (with_reducible repeat (first | refine blk_drewN ?_ _ | refine blk_drew ?_ | refine blk_alloc ?_ _)); refine blk_put (cs := #[.string t1546, .string t1547, .string t1548, .slice Ao24 t1549.length co24, .slice A1_4 l1_4.length c1_4]) ?_ 4 _ rfl; (with_reducible repeat (first | refine blk_drewN ?_ _ | refine blk_drew ?_ | refine blk_alloc ?_ _)); refine blk_put (cs := #[.string t1546, .string t1547, .string t1548, .slice A1_3 l1_3.length c1_3, .slice A1_4 l1_4.length c1_4]) ?_ 3 _ rfl; (with_reducible repeat (first | refine blk_drewN ?_ _ | refine blk_drew ?_ | refine blk_alloc ?_ _)); refine blk_put (cs := #[.string t1546, .string t1547, .string a1_2, .slice A1_3 l1_3.length c1_3, .slice A1_4 l1_4.length c1_4]) ?_ 2 _ rfl; (with_reducible repeat (first | refine blk_drewN ?_ _ | refine blk_drew ?_ | refine blk_alloc ?_ _)); refine blk_put (cs := #[.string t1546, .string a1_1, .string a1_2, .slice A1_3 l1_3.length c1_3, .slice A1_4 l1_4.length c1_4]) ?_ 1 _ rfl; (with_reducible repeat (first | refine blk_drewN ?_ _ | refine blk_drew ?_ | refine blk_alloc ?_ _)); refine blk_put (cs := #[.string a1_0, .string a1_1, .string a1_2, .slice A1_3 l1_3.length c1_3, .slice A1_4 l1_4.length c1_4]) ?_ 0 _ rfl; (with_reducible repeat (first | refine blk_drewN ?_ _ | refine blk_drew ?_ | refine blk_alloc ?_ _)); refine blk_far ?_ NB1536_1535.out _; (with_reducible repeat (first | refine blk_drewN ?_ _ | refine blk_drew ?_ | refine blk_alloc ?_ _)); refine blk_far ?_ NB1536_1535.out _; (with_reducible repeat (first | refine blk_drewN ?_ _ | refine blk_drew ?_ | refine blk_alloc ?_ _)); refine blk_far ?_ NB1536_1535.out _; (with_reducible repeat (first | refine blk_drewN ?_ _ | refine blk_drew ?_ | refine blk_alloc ?_ _)); refine blk_far ?_ NB1536_1535.out _; (with_reducible repeat (first | refine blk_drewN ?_ _ | refine blk_drew ?_ | refine blk_alloc ?_ _)); refine blk_far ?_ NB1536_1535.out _; (with_reducible repeat (first | refine blk_drewN ?_ _ | refine blk_drew ?_ | refine blk_alloc ?_ _)); exact BK1536.out) hb); have n6_ := am_ (below_step (bel_ HB.out) hb); clear HO1542 HO1545 HO1551 HO1554 BK1535 BK1536 HB; have HO1542 := n0_; have HO1545 := n1_; have HO1551 := n2_; have HO1554 := n3_; have BK1535 := n4_; have BK1536 := n5_; have HB := n6_; clear n0_ n1_ n2_ n3_ n4_ n5_ n6_; (try clear hb); (try clear hb2); (try clear hk); (try clear hi); have hcz31_0 : w30.cell? ⟨gb1535, 0, none⟩ = some (.int .i64 t1537) := (blk_cell BK1535.out 0).trans rfl; have hcz31_1 : w30.cell? ⟨gb1535, 1, none⟩ = some (.string t1538) := (blk_cell BK1535.out 1).trans rfl; have hcz31_2 : w30.cell? ⟨gb1535, 2, none⟩ = some (.string t1539) := (blk_cell BK1535.out 2).trans rfl; have hcz31_3 : w30.cell? ⟨gb1535, 3, none⟩ = some (.slice Ao17 t1540.length co17) := (blk_cell BK1535.out 3).trans rfl; have hcz31_4 : w30.cell? ⟨gb1535, 4, none⟩ = some (.slice Ao19 t1543.length co19) := (blk_cell BK1535.out 4).trans rfl; have hfz31_0 := blk_frozen BK1535.out 0; have hfz31_1 := blk_frozen BK1535.out 1; have hfz31_2 := blk_frozen BK1535.out 2; have hfz31_3 := blk_frozen BK1535.out 3; have hfz31_4 := blk_frozen BK1535.out 4) | ((with_reducible refine gate_dst (N := 7) rfl ?_); (try (refine gate_guard (by rfl) ?_; dsimp only)); refine box_event ?hg (N := 7) ?hd (cs := #[.int .i64 0, .string (⟨#[]⟩ : ByteArray), .string (⟨#[]⟩ : ByteArray), .slice none 0 0, .slice none 0 0]) (t := 26) ?hr ?_; (case hd => rfl); (case hg => rfl); (case hr => first | (go_simp; done) | (go_simp; rfl)); intro gb1558 hg w32 hbox hb; have n0_ := am_ (Kd.R_below (R_ HO1542.out) hb); have n1_ := am_ (Kd.R_below (R_ HO1545.out) hb); have n2_ := am_ (Kd.R_below (R_ HO1551.out) hb); have n3_ := am_ (Kd.R_below (R_ HO1554.out) hb); have n4_ := am_ (blk_below (g := gb1535) (o := .cells #[.int .i64 t1537, .string t1538, .string t1539, .slice Ao17 t1540.length co17, .slice Ao19 t1543.length co19] 26 (0, 0)) (blk_ BK1535.out) hb); have n5_ := am_ (blk_below (g := gb1536) (o := .cells #[.string t1546, .string t1547, .string t1548, .slice Ao24 t1549.length co24, .slice Ao26 t1552.length co26] 28 (0, 0)) (blk_ BK1536.out) hb); have n6_ := am_ (below_step (bel_ HB.out) hb); have n7_ := am_ (hbox); have n8_ := am_ ((by rw [hg]; exact (below_size (bel_ HB.out)) : w.heap.size ≤ gb1558)); have n9_ := am_ ((by rw [hg]; exact (below_size (bel_ HB.out)) : w.heap.size ≤ gb1558)); have n10_ := am_ ((by rw [hg]; exact Nat.ne_of_lt (blk_lt (g := gb1535) (o := .cells #[.int .i64 t1537, .string t1538, .string t1539, .slice Ao17 t1540.length co17, .slice Ao19 t1543.length co19] 26 (0, 0)) (blk_ BK1535.out)) : gb1535 ≠ gb1558)); have n11_ := am_ ((by rw [hg]; exact Nat.ne_of_gt (blk_lt (g := gb1535) (o := .cells #[.int .i64 t1537, .string t1538, .string t1539, .slice Ao17 t1540.length co17, .slice Ao19 t1543.length co19] 26 (0, 0)) (blk_ BK1535.out)) : gb1558 ≠ gb1535)); have n12_ := am_ ((by rw [hg]; exact Nat.ne_of_lt (blk_lt (g := gb1536) (o := .cells #[.string t1546, .string t1547, .string t1548, .slice Ao24 t1549.length co24, .slice Ao26 t1552.length co26] 28 (0, 0)) (blk_ BK1536.out)) : gb1536 ≠ gb1558)); have n13_ := am_ ((by rw [hg]; exact Nat.ne_of_gt (blk_lt (g := gb1536) (o := .cells #[.string t1546, .string t1547, .string t1548, .slice Ao24 t1549.length co24, .slice Ao26 t1552.length co26] 28 (0, 0)) (blk_ BK1536.out)) : gb1558 ≠ gb1536)); clear HO1542 HO1545 HO1551 HO1554 BK1535 BK1536 HB; have HO1542 := n0_; have HO1545 := n1_; have HO1551 := n2_; have HO1554 := n3_; have BK1535 := n4_; have BK1536 := n5_; have HB := n6_; have BK1558 := n7_; have GW1558 := n8_; have GE1558 := n9_; have NB1535_1558 := n10_; have NB1558_1535 := n11_; have NB1536_1558 := n12_; have NB1558_1536 := n13_; clear n0_ n1_ n2_ n3_ n4_ n5_ n6_ n7_ n8_ n9_ n10_ n11_ n12_ n13_ hb hbox hg; have hnb33 := NB1558_1535.out; have hnc33 := NB1535_1558.out; have hnb34 := NB1558_1536.out; have hnc34 := NB1536_1558.out; have hcz35_0 : w32.cell? ⟨gb1558, 0, none⟩ = some (.int .i64 0) := (blk_cell BK1558.out 0).trans rfl; have hcz35_1 : w32.cell? ⟨gb1558, 1, none⟩ = some (.string (⟨#[]⟩ : ByteArray)) := (blk_cell BK1558.out 1).trans rfl; have hcz35_2 : w32.cell? ⟨gb1558, 2, none⟩ = some (.string (⟨#[]⟩ : ByteArray)) := (blk_cell BK1558.out 2).trans rfl; have hcz35_3 : w32.cell? ⟨gb1558, 3, none⟩ = some (.slice none 0 0) := (blk_cell BK1558.out 3).trans rfl; have hcz35_4 : w32.cell? ⟨gb1558, 4, none⟩ = some (.slice none 0 0) := (blk_cell BK1558.out 4).trans rfl; have hfz35_0 := blk_frozen BK1558.out 0; have hfz35_1 := blk_frozen BK1558.out 1; have hfz35_2 := blk_frozen BK1558.out 2; have hfz35_3 := blk_frozen BK1558.out 3; have hfz35_4 := blk_frozen BK1558.out 4))
  (try simp only [Act.put, List.setIfInBounds_toArray, List.set_cons_zero, List.set_cons_succ])
  go_cut [] (fun wc => ∃ (kq : Nat) (x1559002_7 : ByteArray) (x1559003_7 : List (S49)) (x1559004_7 : List (S49)) (u1559003 : Value) (u1559004 : Value), Aside0 (tolllaw06_RuleLess.j1 kq t1537 t1538 t1539 t1540 t1543 t1546 t1547 t1548 t1549 t1552 t1537 t1538 x1559002_7 x1559003_7 x1559004_7 = some r) ∧ Aside0 (kq ≤ k) ∧ Aside0 (Kd.R k49 49 wc w.heap.size (fun k_ => some k_ ≠ ((.slice Ao19 t1543.length co19) : Value).ownBlock ∧ some k_ ≠ ((.slice Ao24 t1549.length co24) : Value).ownBlock ∧ some k_ ≠ ((.slice Ao26 t1552.length co26) : Value).ownBlock ∧ some k_ ≠ (u1559004 : Value).ownBlock) (.slice Ao17 t1540.length co17) t1540) ∧ Aside0 (Kd.R k49 49 wc w.heap.size (fun k_ => some k_ ≠ ((.slice Ao17 t1540.length co17) : Value).ownBlock ∧ some k_ ≠ ((.slice Ao24 t1549.length co24) : Value).ownBlock ∧ some k_ ≠ ((.slice Ao26 t1552.length co26) : Value).ownBlock ∧ some k_ ≠ (u1559003 : Value).ownBlock) (.slice Ao19 t1543.length co19) t1543) ∧ Aside0 (Kd.R k49 49 wc w.heap.size (fun k_ => some k_ ≠ ((.slice Ao17 t1540.length co17) : Value).ownBlock ∧ some k_ ≠ ((.slice Ao19 t1543.length co19) : Value).ownBlock ∧ some k_ ≠ ((.slice Ao26 t1552.length co26) : Value).ownBlock ∧ some k_ ≠ (u1559003 : Value).ownBlock ∧ some k_ ≠ (u1559004 : Value).ownBlock) (.slice Ao24 t1549.length co24) t1549) ∧ Aside0 (Kd.R k49 49 wc w.heap.size (fun k_ => some k_ ≠ ((.slice Ao17 t1540.length co17) : Value).ownBlock ∧ some k_ ≠ ((.slice Ao19 t1543.length co19) : Value).ownBlock ∧ some k_ ≠ ((.slice Ao24 t1549.length co24) : Value).ownBlock ∧ some k_ ≠ (u1559003 : Value).ownBlock ∧ some k_ ≠ (u1559004 : Value).ownBlock) (.slice Ao26 t1552.length co26) t1552) ∧ Aside0 (Kd.R k49 49 wc w.heap.size (fun k_ => some k_ ≠ ((.slice Ao19 t1543.length co19) : Value).ownBlock ∧ some k_ ≠ ((.slice Ao24 t1549.length co24) : Value).ownBlock ∧ some k_ ≠ ((.slice Ao26 t1552.length co26) : Value).ownBlock ∧ some k_ ≠ (u1559004 : Value).ownBlock) u1559003 x1559003_7) ∧ Aside0 (Kd.R k49 49 wc w.heap.size (fun k_ => some k_ ≠ ((.slice Ao17 t1540.length co17) : Value).ownBlock ∧ some k_ ≠ ((.slice Ao24 t1549.length co24) : Value).ownBlock ∧ some k_ ≠ ((.slice Ao26 t1552.length co26) : Value).ownBlock ∧ some k_ ≠ (u1559003 : Value).ownBlock) u1559004 x1559004_7) ∧ Aside0 (wc.heap[gb1535]? = some (.cells #[.int .i64 t1537, .string t1538, .string t1539, (.slice Ao17 t1540.length co17), (.slice Ao19 t1543.length co19)] 26 (0, 0))) ∧ Aside0 (wc.heap[gb1536]? = some (.cells #[.string t1546, .string t1547, .string t1548, (.slice Ao24 t1549.length co24), (.slice Ao26 t1552.length co26)] 28 (0, 0))) ∧ Aside0 (wc.heap[gb1558]? = some (.cells #[.int .i64 t1537, .string t1538, .string x1559002_7, u1559003, u1559004] 26 (0, 0))) ∧ Aside0 (Below w.heap.size w wc))
  case first =>
   have H := HC8.out
   clear HC8
   by_cases c36 : (Int.tmod a2 3) = 0
   ·rw [if_pos c36] at H
    have c36b0 : ((Int.tmod a2 3) == 0) = true := beq_iff_eq.mpr c36
    have c36b1 : ((Int.tmod a2 3) != 0) = false := bne_eq_false_iff_eq.mpr c36
    clear c36
    (first | rw [c36b0] | rw [c36b1] | rw [c36b2] | (simp only [i64_w, i32_w]; rw [c36b0]) | skip)
    have H' := Aside0.mk H
    clear H
    have hnb37 := NB1558_1535.out
    have hnc37 := NB1535_1558.out
    have hnb38 := NB1558_1536.out
    have hnc38 := NB1536_1558.out
    have hcz39_0 : w32.cell? ⟨gb1558, 0, none⟩ = some (.int .i64 0) := (blk_cell BK1558.out 0).trans rfl
    have hcz39_1 : w32.cell? ⟨gb1558, 1, none⟩ = some (.string (⟨#[]⟩ : ByteArray)) := (blk_cell BK1558.out 1).trans rfl
    have hcz39_2 : w32.cell? ⟨gb1558, 2, none⟩ = some (.string (⟨#[]⟩ : ByteArray)) := (blk_cell BK1558.out 2).trans rfl
    have hcz39_3 : w32.cell? ⟨gb1558, 3, none⟩ = some (.slice none 0 0) := (blk_cell BK1558.out 3).trans rfl
    have hcz39_4 : w32.cell? ⟨gb1558, 4, none⟩ = some (.slice none 0 0) := (blk_cell BK1558.out 4).trans rfl
    have hfz39_0 := blk_frozen BK1558.out 0
    have hfz39_1 := blk_frozen BK1558.out 1
    have hfz39_2 := blk_frozen BK1558.out 2
    have hfz39_3 := blk_frozen BK1558.out 3
    have hfz39_4 := blk_frozen BK1558.out 4
    go_wp2
    go_meet
    case rel => exact ⟨_, ((⟨#[]⟩ : ByteArray)), (t1540), (t1543), (.slice Ao17 t1540.length co17), (.slice Ao19 t1543.length co19), H', ⟨by first | omega | exact Nat.le_refl _⟩, ⟨by (with_reducible repeat (first | apply Kd.R_alloc | apply Kd.R_drewN | apply Kd.R_drew)); exact Kd.R_mono (Kd.R_far (p := ⟨gb1558, 2, none⟩) (Kd.R_far (p := ⟨gb1558, 4, none⟩) (Kd.R_far (p := ⟨gb1558, 3, none⟩) (Kd.R_far (p := ⟨gb1558, 2, none⟩) (Kd.R_far (p := ⟨gb1558, 1, none⟩) (Kd.R_far (p := ⟨gb1558, 0, none⟩) (Kd.R_types HO1542.out BK1558.out (by decide)) (fun _ hk => hk.2) (.int .i64 t1537)) (fun _ hk => hk.2) (.string t1538)) (fun _ hk => hk.2) (.string t1539)) (fun _ hk => hk.2) (.slice Ao17 t1540.length co17)) (fun _ hk => hk.2) (.slice Ao19 t1543.length co19)) (fun _ hk => hk.2) (.string (⟨#[]⟩ : ByteArray))) (fun _ hk => by simp only [ne_eq] at hk; simp only [hk, ne_eq, not_false_eq_true, and_self])⟩, ⟨by (with_reducible repeat (first | apply Kd.R_alloc | apply Kd.R_drewN | apply Kd.R_drew)); exact Kd.R_mono (Kd.R_far (p := ⟨gb1558, 2, none⟩) (Kd.R_far (p := ⟨gb1558, 4, none⟩) (Kd.R_far (p := ⟨gb1558, 3, none⟩) (Kd.R_far (p := ⟨gb1558, 2, none⟩) (Kd.R_far (p := ⟨gb1558, 1, none⟩) (Kd.R_far (p := ⟨gb1558, 0, none⟩) (Kd.R_types HO1545.out BK1558.out (by decide)) (fun _ hk => hk.2) (.int .i64 t1537)) (fun _ hk => hk.2) (.string t1538)) (fun _ hk => hk.2) (.string t1539)) (fun _ hk => hk.2) (.slice Ao17 t1540.length co17)) (fun _ hk => hk.2) (.slice Ao19 t1543.length co19)) (fun _ hk => hk.2) (.string (⟨#[]⟩ : ByteArray))) (fun _ hk => by simp only [ne_eq] at hk; simp only [hk, ne_eq, not_false_eq_true, and_self])⟩, ⟨by (with_reducible repeat (first | apply Kd.R_alloc | apply Kd.R_drewN | apply Kd.R_drew)); exact Kd.R_mono (Kd.R_far (p := ⟨gb1558, 2, none⟩) (Kd.R_far (p := ⟨gb1558, 4, none⟩) (Kd.R_far (p := ⟨gb1558, 3, none⟩) (Kd.R_far (p := ⟨gb1558, 2, none⟩) (Kd.R_far (p := ⟨gb1558, 1, none⟩) (Kd.R_far (p := ⟨gb1558, 0, none⟩) (Kd.R_types HO1551.out BK1558.out (by decide)) (fun _ hk => hk.2) (.int .i64 t1537)) (fun _ hk => hk.2) (.string t1538)) (fun _ hk => hk.2) (.string t1539)) (fun _ hk => hk.2) (.slice Ao17 t1540.length co17)) (fun _ hk => hk.2) (.slice Ao19 t1543.length co19)) (fun _ hk => hk.2) (.string (⟨#[]⟩ : ByteArray))) (fun _ hk => by simp only [ne_eq] at hk; simp only [hk, ne_eq, not_false_eq_true, and_self])⟩, ⟨by (with_reducible repeat (first | apply Kd.R_alloc | apply Kd.R_drewN | apply Kd.R_drew)); exact Kd.R_mono (Kd.R_far (p := ⟨gb1558, 2, none⟩) (Kd.R_far (p := ⟨gb1558, 4, none⟩) (Kd.R_far (p := ⟨gb1558, 3, none⟩) (Kd.R_far (p := ⟨gb1558, 2, none⟩) (Kd.R_far (p := ⟨gb1558, 1, none⟩) (Kd.R_far (p := ⟨gb1558, 0, none⟩) (Kd.R_types HO1554.out BK1558.out (by decide)) (fun _ hk => hk.2) (.int .i64 t1537)) (fun _ hk => hk.2) (.string t1538)) (fun _ hk => hk.2) (.string t1539)) (fun _ hk => hk.2) (.slice Ao17 t1540.length co17)) (fun _ hk => hk.2) (.slice Ao19 t1543.length co19)) (fun _ hk => hk.2) (.string (⟨#[]⟩ : ByteArray))) (fun _ hk => by simp only [ne_eq] at hk; simp only [hk, ne_eq, not_false_eq_true, and_self])⟩, ⟨by (with_reducible repeat (first | apply Kd.R_alloc | apply Kd.R_drewN | apply Kd.R_drew)); exact Kd.R_mono (Kd.R_far (p := ⟨gb1558, 2, none⟩) (Kd.R_far (p := ⟨gb1558, 4, none⟩) (Kd.R_far (p := ⟨gb1558, 3, none⟩) (Kd.R_far (p := ⟨gb1558, 2, none⟩) (Kd.R_far (p := ⟨gb1558, 1, none⟩) (Kd.R_far (p := ⟨gb1558, 0, none⟩) (Kd.R_types HO1542.out BK1558.out (by decide)) (fun _ hk => hk.2) (.int .i64 t1537)) (fun _ hk => hk.2) (.string t1538)) (fun _ hk => hk.2) (.string t1539)) (fun _ hk => hk.2) (.slice Ao17 t1540.length co17)) (fun _ hk => hk.2) (.slice Ao19 t1543.length co19)) (fun _ hk => hk.2) (.string (⟨#[]⟩ : ByteArray))) (fun _ hk => by simp only [ne_eq] at hk; simp only [hk, ne_eq, not_false_eq_true, and_self])⟩, ⟨by (with_reducible repeat (first | apply Kd.R_alloc | apply Kd.R_drewN | apply Kd.R_drew)); exact Kd.R_mono (Kd.R_far (p := ⟨gb1558, 2, none⟩) (Kd.R_far (p := ⟨gb1558, 4, none⟩) (Kd.R_far (p := ⟨gb1558, 3, none⟩) (Kd.R_far (p := ⟨gb1558, 2, none⟩) (Kd.R_far (p := ⟨gb1558, 1, none⟩) (Kd.R_far (p := ⟨gb1558, 0, none⟩) (Kd.R_types HO1545.out BK1558.out (by decide)) (fun _ hk => hk.2) (.int .i64 t1537)) (fun _ hk => hk.2) (.string t1538)) (fun _ hk => hk.2) (.string t1539)) (fun _ hk => hk.2) (.slice Ao17 t1540.length co17)) (fun _ hk => hk.2) (.slice Ao19 t1543.length co19)) (fun _ hk => hk.2) (.string (⟨#[]⟩ : ByteArray))) (fun _ hk => by simp only [ne_eq] at hk; simp only [hk, ne_eq, not_false_eq_true, and_self])⟩, ⟨by (with_reducible repeat (first | refine blk_drewN ?_ _ | refine blk_drew ?_ | refine blk_alloc ?_ _)); refine blk_far ?_ NB1535_1558.out _; (with_reducible repeat (first | refine blk_drewN ?_ _ | refine blk_drew ?_ | refine blk_alloc ?_ _)); refine blk_far ?_ NB1535_1558.out _; (with_reducible repeat (first | refine blk_drewN ?_ _ | refine blk_drew ?_ | refine blk_alloc ?_ _)); refine blk_far ?_ NB1535_1558.out _; (with_reducible repeat (first | refine blk_drewN ?_ _ | refine blk_drew ?_ | refine blk_alloc ?_ _)); refine blk_far ?_ NB1535_1558.out _; (with_reducible repeat (first | refine blk_drewN ?_ _ | refine blk_drew ?_ | refine blk_alloc ?_ _)); refine blk_far ?_ NB1535_1558.out _; (with_reducible repeat (first | refine blk_drewN ?_ _ | refine blk_drew ?_ | refine blk_alloc ?_ _)); refine blk_far ?_ NB1535_1558.out _; (with_reducible repeat (first | refine blk_drewN ?_ _ | refine blk_drew ?_ | refine blk_alloc ?_ _)); exact BK1535.out⟩, ⟨by (with_reducible repeat (first | refine blk_drewN ?_ _ | refine blk_drew ?_ | refine blk_alloc ?_ _)); refine blk_far ?_ NB1536_1558.out _; (with_reducible repeat (first | refine blk_drewN ?_ _ | refine blk_drew ?_ | refine blk_alloc ?_ _)); refine blk_far ?_ NB1536_1558.out _; (with_reducible repeat (first | refine blk_drewN ?_ _ | refine blk_drew ?_ | refine blk_alloc ?_ _)); refine blk_far ?_ NB1536_1558.out _; (with_reducible repeat (first | refine blk_drewN ?_ _ | refine blk_drew ?_ | refine blk_alloc ?_ _)); refine blk_far ?_ NB1536_1558.out _; (with_reducible repeat (first | refine blk_drewN ?_ _ | refine blk_drew ?_ | refine blk_alloc ?_ _)); refine blk_far ?_ NB1536_1558.out _; (with_reducible repeat (first | refine blk_drewN ?_ _ | refine blk_drew ?_ | refine blk_alloc ?_ _)); refine blk_far ?_ NB1536_1558.out _; (with_reducible repeat (first | refine blk_drewN ?_ _ | refine blk_drew ?_ | refine blk_alloc ?_ _)); exact BK1536.out⟩, ⟨by (with_reducible repeat (first | refine blk_drewN ?_ _ | refine blk_drew ?_ | refine blk_alloc ?_ _)); refine blk_put (cs := #[.int .i64 t1537, .string t1538, .string t1539, .slice Ao17 t1540.length co17, .slice Ao19 t1543.length co19]) ?_ 2 _ rfl; (with_reducible repeat (first | refine blk_drewN ?_ _ | refine blk_drew ?_ | refine blk_alloc ?_ _)); refine blk_put (cs := #[.int .i64 t1537, .string t1538, .string t1539, .slice Ao17 t1540.length co17, .slice none 0 0]) ?_ 4 _ rfl; (with_reducible repeat (first | refine blk_drewN ?_ _ | refine blk_drew ?_ | refine blk_alloc ?_ _)); refine blk_put (cs := #[.int .i64 t1537, .string t1538, .string t1539, .slice none 0 0, .slice none 0 0]) ?_ 3 _ rfl; (with_reducible repeat (first | refine blk_drewN ?_ _ | refine blk_drew ?_ | refine blk_alloc ?_ _)); refine blk_put (cs := #[.int .i64 t1537, .string t1538, .string (⟨#[]⟩ : ByteArray), .slice none 0 0, .slice none 0 0]) ?_ 2 _ rfl; (with_reducible repeat (first | refine blk_drewN ?_ _ | refine blk_drew ?_ | refine blk_alloc ?_ _)); refine blk_put (cs := #[.int .i64 t1537, .string (⟨#[]⟩ : ByteArray), .string (⟨#[]⟩ : ByteArray), .slice none 0 0, .slice none 0 0]) ?_ 1 _ rfl; (with_reducible repeat (first | refine blk_drewN ?_ _ | refine blk_drew ?_ | refine blk_alloc ?_ _)); refine blk_put (cs := #[.int .i64 0, .string (⟨#[]⟩ : ByteArray), .string (⟨#[]⟩ : ByteArray), .slice none 0 0, .slice none 0 0]) ?_ 0 _ rfl; (with_reducible repeat (first | refine blk_drewN ?_ _ | refine blk_drew ?_ | refine blk_alloc ?_ _)); exact BK1558.out⟩, ⟨bel_ HB.out⟩⟩
   ·rw [if_neg c36] at H
    have c36b0 : ((Int.tmod a2 3) == 0) = false := beq_eq_false_iff_ne.mpr c36
    have c36b1 : ((Int.tmod a2 3) != 0) = true := bne_iff_ne.mpr c36
    (first | rw [c36b0] | rw [c36b1] | rw [c36b2] | (simp only [i64_w, i32_w]; rw [c36b0]) | skip)
    have HC40 := Aside0.mk H
    clear H
    go_upto_region 7 with (fail)
    go_cut [30] (fun v30 wc => ∃ (kq : Nat) (x30_39 : Bool), v30 = .bool x30_39 ∧ Aside0 (tolllaw06_RuleLess.j0 kq a2 x30_39 t1537 t1538 t1539 t1540 t1543 t1546 t1547 t1548 t1549 t1552 t1537 t1538 t1539 t1540 t1543 = some r) ∧ Aside0 (kq ≤ k) ∧ Aside0 (Kd.R k49 49 wc w.heap.size (fun k_ => some k_ ≠ ((.slice Ao19 t1543.length co19) : Value).ownBlock ∧ some k_ ≠ ((.slice Ao24 t1549.length co24) : Value).ownBlock ∧ some k_ ≠ ((.slice Ao26 t1552.length co26) : Value).ownBlock ∧ some k_ ≠ ((.slice Ao19 t1543.length co19) : Value).ownBlock) (.slice Ao17 t1540.length co17) t1540) ∧ Aside0 (Kd.R k49 49 wc w.heap.size (fun k_ => some k_ ≠ ((.slice Ao17 t1540.length co17) : Value).ownBlock ∧ some k_ ≠ ((.slice Ao24 t1549.length co24) : Value).ownBlock ∧ some k_ ≠ ((.slice Ao26 t1552.length co26) : Value).ownBlock ∧ some k_ ≠ ((.slice Ao17 t1540.length co17) : Value).ownBlock) (.slice Ao19 t1543.length co19) t1543) ∧ Aside0 (Kd.R k49 49 wc w.heap.size (fun k_ => some k_ ≠ ((.slice Ao17 t1540.length co17) : Value).ownBlock ∧ some k_ ≠ ((.slice Ao19 t1543.length co19) : Value).ownBlock ∧ some k_ ≠ ((.slice Ao26 t1552.length co26) : Value).ownBlock ∧ some k_ ≠ ((.slice Ao17 t1540.length co17) : Value).ownBlock ∧ some k_ ≠ ((.slice Ao19 t1543.length co19) : Value).ownBlock) (.slice Ao24 t1549.length co24) t1549) ∧ Aside0 (Kd.R k49 49 wc w.heap.size (fun k_ => some k_ ≠ ((.slice Ao17 t1540.length co17) : Value).ownBlock ∧ some k_ ≠ ((.slice Ao19 t1543.length co19) : Value).ownBlock ∧ some k_ ≠ ((.slice Ao24 t1549.length co24) : Value).ownBlock ∧ some k_ ≠ ((.slice Ao17 t1540.length co17) : Value).ownBlock ∧ some k_ ≠ ((.slice Ao19 t1543.length co19) : Value).ownBlock) (.slice Ao26 t1552.length co26) t1552) ∧ Aside0 (Kd.R k49 49 wc w.heap.size (fun k_ => some k_ ≠ ((.slice Ao19 t1543.length co19) : Value).ownBlock ∧ some k_ ≠ ((.slice Ao24 t1549.length co24) : Value).ownBlock ∧ some k_ ≠ ((.slice Ao26 t1552.length co26) : Value).ownBlock ∧ some k_ ≠ ((.slice Ao19 t1543.length co19) : Value).ownBlock) (.slice Ao17 t1540.length co17) t1540) ∧ Aside0 (Kd.R k49 49 wc w.heap.size (fun k_ => some k_ ≠ ((.slice Ao17 t1540.length co17) : Value).ownBlock ∧ some k_ ≠ ((.slice Ao24 t1549.length co24) : Value).ownBlock ∧ some k_ ≠ ((.slice Ao26 t1552.length co26) : Value).ownBlock ∧ some k_ ≠ ((.slice Ao17 t1540.length co17) : Value).ownBlock) (.slice Ao19 t1543.length co19) t1543) ∧ Aside0 (wc.heap[gb1535]? = some (.cells #[.int .i64 t1537, .string t1538, .string t1539, (.slice Ao17 t1540.length co17), (.slice Ao19 t1543.length co19)] 26 (0, 0))) ∧ Aside0 (wc.heap[gb1536]? = some (.cells #[.string t1546, .string t1547, .string t1548, (.slice Ao24 t1549.length co24), (.slice Ao26 t1552.length co26)] 28 (0, 0))) ∧ Aside0 (wc.heap[gb1558]? = some (.cells #[.int .i64 t1537, .string t1538, .string t1539, (.slice Ao17 t1540.length co17), (.slice Ao19 t1543.length co19)] 26 (0, 0))) ∧ Aside0 (Below w.heap.size w wc))
    case first =>
     have H := HC40.out
     clear HC40
     by_cases c41 : (Int.tmod a2 3) = 1
     ·rw [if_pos c41] at H
      have c41b0 : ((Int.tmod a2 3) == 1) = true := beq_iff_eq.mpr c41
      have c41b1 : ((Int.tmod a2 3) != 1) = false := bne_eq_false_iff_eq.mpr c41
      clear c41
      (first | rw [c41b0] | rw [c41b1] | rw [c41b2] | (simp only [i64_w, i32_w]; rw [c41b0]) | skip)
      have H' := Aside0.mk H
      clear H
      have hnb42 := NB1535_1536.out
      have hnc42 := NB1536_1535.out
      have hnb43 := NB1535_1558.out
      have hnc43 := NB1558_1535.out
      have hcz44_0 : w32.cell? ⟨gb1535, 0, none⟩ = some (.int .i64 t1537) := (blk_cell BK1535.out 0).trans rfl
      have hcz44_1 : w32.cell? ⟨gb1535, 1, none⟩ = some (.string t1538) := (blk_cell BK1535.out 1).trans rfl
      have hcz44_2 : w32.cell? ⟨gb1535, 2, none⟩ = some (.string t1539) := (blk_cell BK1535.out 2).trans rfl
      have hcz44_3 : w32.cell? ⟨gb1535, 3, none⟩ = some (.slice Ao17 t1540.length co17) := (blk_cell BK1535.out 3).trans rfl
      have hcz44_4 : w32.cell? ⟨gb1535, 4, none⟩ = some (.slice Ao19 t1543.length co19) := (blk_cell BK1535.out 4).trans rfl
      have hfz44_0 := blk_frozen BK1535.out 0
      have hfz44_1 := blk_frozen BK1535.out 1
      have hfz44_2 := blk_frozen BK1535.out 2
      have hfz44_3 := blk_frozen BK1535.out 3
      have hfz44_4 := blk_frozen BK1535.out 4
      go_wp2
      go_meet
      case rel => exact ⟨_, (decide ((t1540.length : Int) > 0)), sd_, H', ⟨by first | omega | exact Nat.le_refl _⟩, ⟨by (with_reducible repeat (first | apply Kd.R_alloc | apply Kd.R_drewN | apply Kd.R_drew)); exact Kd.R_mono (Kd.R_far (p := ⟨gb1558, 4, none⟩) (Kd.R_far (p := ⟨gb1558, 3, none⟩) (Kd.R_far (p := ⟨gb1558, 2, none⟩) (Kd.R_far (p := ⟨gb1558, 1, none⟩) (Kd.R_far (p := ⟨gb1558, 0, none⟩) (Kd.R_types HO1542.out BK1558.out (by decide)) (fun _ hk => hk.2) (.int .i64 t1537)) (fun _ hk => hk.2) (.string t1538)) (fun _ hk => hk.2) (.string t1539)) (fun _ hk => hk.2) (.slice Ao17 t1540.length co17)) (fun _ hk => hk.2) (.slice Ao19 t1543.length co19)) (fun _ hk => by simp only [ne_eq] at hk; simp only [hk, ne_eq, not_false_eq_true, and_self])⟩, ⟨by (with_reducible repeat (first | apply Kd.R_alloc | apply Kd.R_drewN | apply Kd.R_drew)); exact Kd.R_mono (Kd.R_far (p := ⟨gb1558, 4, none⟩) (Kd.R_far (p := ⟨gb1558, 3, none⟩) (Kd.R_far (p := ⟨gb1558, 2, none⟩) (Kd.R_far (p := ⟨gb1558, 1, none⟩) (Kd.R_far (p := ⟨gb1558, 0, none⟩) (Kd.R_types HO1545.out BK1558.out (by decide)) (fun _ hk => hk.2) (.int .i64 t1537)) (fun _ hk => hk.2) (.string t1538)) (fun _ hk => hk.2) (.string t1539)) (fun _ hk => hk.2) (.slice Ao17 t1540.length co17)) (fun _ hk => hk.2) (.slice Ao19 t1543.length co19)) (fun _ hk => by simp only [ne_eq] at hk; simp only [hk, ne_eq, not_false_eq_true, and_self])⟩, ⟨by (with_reducible repeat (first | apply Kd.R_alloc | apply Kd.R_drewN | apply Kd.R_drew)); exact Kd.R_mono (Kd.R_far (p := ⟨gb1558, 4, none⟩) (Kd.R_far (p := ⟨gb1558, 3, none⟩) (Kd.R_far (p := ⟨gb1558, 2, none⟩) (Kd.R_far (p := ⟨gb1558, 1, none⟩) (Kd.R_far (p := ⟨gb1558, 0, none⟩) (Kd.R_types HO1551.out BK1558.out (by decide)) (fun _ hk => hk.2) (.int .i64 t1537)) (fun _ hk => hk.2) (.string t1538)) (fun _ hk => hk.2) (.string t1539)) (fun _ hk => hk.2) (.slice Ao17 t1540.length co17)) (fun _ hk => hk.2) (.slice Ao19 t1543.length co19)) (fun _ hk => by simp only [ne_eq] at hk; simp only [hk, ne_eq, not_false_eq_true, and_self])⟩, ⟨by (with_reducible repeat (first | apply Kd.R_alloc | apply Kd.R_drewN | apply Kd.R_drew)); exact Kd.R_mono (Kd.R_far (p := ⟨gb1558, 4, none⟩) (Kd.R_far (p := ⟨gb1558, 3, none⟩) (Kd.R_far (p := ⟨gb1558, 2, none⟩) (Kd.R_far (p := ⟨gb1558, 1, none⟩) (Kd.R_far (p := ⟨gb1558, 0, none⟩) (Kd.R_types HO1554.out BK1558.out (by decide)) (fun _ hk => hk.2) (.int .i64 t1537)) (fun _ hk => hk.2) (.string t1538)) (fun _ hk => hk.2) (.string t1539)) (fun _ hk => hk.2) (.slice Ao17 t1540.length co17)) (fun _ hk => hk.2) (.slice Ao19 t1543.length co19)) (fun _ hk => by simp only [ne_eq] at hk; simp only [hk, ne_eq, not_false_eq_true, and_self])⟩, ⟨by (with_reducible repeat (first | apply Kd.R_alloc | apply Kd.R_drewN | apply Kd.R_drew)); exact Kd.R_mono (Kd.R_far (p := ⟨gb1558, 4, none⟩) (Kd.R_far (p := ⟨gb1558, 3, none⟩) (Kd.R_far (p := ⟨gb1558, 2, none⟩) (Kd.R_far (p := ⟨gb1558, 1, none⟩) (Kd.R_far (p := ⟨gb1558, 0, none⟩) (Kd.R_types HO1542.out BK1558.out (by decide)) (fun _ hk => hk.2) (.int .i64 t1537)) (fun _ hk => hk.2) (.string t1538)) (fun _ hk => hk.2) (.string t1539)) (fun _ hk => hk.2) (.slice Ao17 t1540.length co17)) (fun _ hk => hk.2) (.slice Ao19 t1543.length co19)) (fun _ hk => by simp only [ne_eq] at hk; simp only [hk, ne_eq, not_false_eq_true, and_self])⟩, ⟨by (with_reducible repeat (first | apply Kd.R_alloc | apply Kd.R_drewN | apply Kd.R_drew)); exact Kd.R_mono (Kd.R_far (p := ⟨gb1558, 4, none⟩) (Kd.R_far (p := ⟨gb1558, 3, none⟩) (Kd.R_far (p := ⟨gb1558, 2, none⟩) (Kd.R_far (p := ⟨gb1558, 1, none⟩) (Kd.R_far (p := ⟨gb1558, 0, none⟩) (Kd.R_types HO1545.out BK1558.out (by decide)) (fun _ hk => hk.2) (.int .i64 t1537)) (fun _ hk => hk.2) (.string t1538)) (fun _ hk => hk.2) (.string t1539)) (fun _ hk => hk.2) (.slice Ao17 t1540.length co17)) (fun _ hk => hk.2) (.slice Ao19 t1543.length co19)) (fun _ hk => by simp only [ne_eq] at hk; simp only [hk, ne_eq, not_false_eq_true, and_self])⟩, ⟨by (with_reducible repeat (first | refine blk_drewN ?_ _ | refine blk_drew ?_ | refine blk_alloc ?_ _)); refine blk_far ?_ NB1535_1558.out _; (with_reducible repeat (first | refine blk_drewN ?_ _ | refine blk_drew ?_ | refine blk_alloc ?_ _)); refine blk_far ?_ NB1535_1558.out _; (with_reducible repeat (first | refine blk_drewN ?_ _ | refine blk_drew ?_ | refine blk_alloc ?_ _)); refine blk_far ?_ NB1535_1558.out _; (with_reducible repeat (first | refine blk_drewN ?_ _ | refine blk_drew ?_ | refine blk_alloc ?_ _)); refine blk_far ?_ NB1535_1558.out _; (with_reducible repeat (first | refine blk_drewN ?_ _ | refine blk_drew ?_ | refine blk_alloc ?_ _)); refine blk_far ?_ NB1535_1558.out _; (with_reducible repeat (first | refine blk_drewN ?_ _ | refine blk_drew ?_ | refine blk_alloc ?_ _)); exact BK1535.out⟩, ⟨by (with_reducible repeat (first | refine blk_drewN ?_ _ | refine blk_drew ?_ | refine blk_alloc ?_ _)); refine blk_far ?_ NB1536_1558.out _; (with_reducible repeat (first | refine blk_drewN ?_ _ | refine blk_drew ?_ | refine blk_alloc ?_ _)); refine blk_far ?_ NB1536_1558.out _; (with_reducible repeat (first | refine blk_drewN ?_ _ | refine blk_drew ?_ | refine blk_alloc ?_ _)); refine blk_far ?_ NB1536_1558.out _; (with_reducible repeat (first | refine blk_drewN ?_ _ | refine blk_drew ?_ | refine blk_alloc ?_ _)); refine blk_far ?_ NB1536_1558.out _; (with_reducible repeat (first | refine blk_drewN ?_ _ | refine blk_drew ?_ | refine blk_alloc ?_ _)); refine blk_far ?_ NB1536_1558.out _; (with_reducible repeat (first | refine blk_drewN ?_ _ | refine blk_drew ?_ | refine blk_alloc ?_ _)); exact BK1536.out⟩, ⟨by (with_reducible repeat (first | refine blk_drewN ?_ _ | refine blk_drew ?_ | refine blk_alloc ?_ _)); refine blk_put (cs := #[.int .i64 t1537, .string t1538, .string t1539, .slice Ao17 t1540.length co17, .slice none 0 0]) ?_ 4 _ rfl; (with_reducible repeat (first | refine blk_drewN ?_ _ | refine blk_drew ?_ | refine blk_alloc ?_ _)); refine blk_put (cs := #[.int .i64 t1537, .string t1538, .string t1539, .slice none 0 0, .slice none 0 0]) ?_ 3 _ rfl; (with_reducible repeat (first | refine blk_drewN ?_ _ | refine blk_drew ?_ | refine blk_alloc ?_ _)); refine blk_put (cs := #[.int .i64 t1537, .string t1538, .string (⟨#[]⟩ : ByteArray), .slice none 0 0, .slice none 0 0]) ?_ 2 _ rfl; (with_reducible repeat (first | refine blk_drewN ?_ _ | refine blk_drew ?_ | refine blk_alloc ?_ _)); refine blk_put (cs := #[.int .i64 t1537, .string (⟨#[]⟩ : ByteArray), .string (⟨#[]⟩ : ByteArray), .slice none 0 0, .slice none 0 0]) ?_ 1 _ rfl; (with_reducible repeat (first | refine blk_drewN ?_ _ | refine blk_drew ?_ | refine blk_alloc ?_ _)); refine blk_put (cs := #[.int .i64 0, .string (⟨#[]⟩ : ByteArray), .string (⟨#[]⟩ : ByteArray), .slice none 0 0, .slice none 0 0]) ?_ 0 _ rfl; (with_reducible repeat (first | refine blk_drewN ?_ _ | refine blk_drew ?_ | refine blk_alloc ?_ _)); exact BK1558.out⟩, ⟨bel_ HB.out⟩⟩
     ·rw [if_neg c41] at H
      have c41b0 : ((Int.tmod a2 3) == 1) = false := beq_eq_false_iff_ne.mpr c41
      have c41b1 : ((Int.tmod a2 3) != 1) = true := bne_iff_ne.mpr c41
      (first | rw [c41b0] | rw [c41b1] | rw [c41b2] | (simp only [i64_w, i32_w]; rw [c41b0]) | skip)
      have H' := Aside0.mk H
      clear H
      go_wp2
      go_meet
      case rel => exact ⟨_, (false), sd_, H', ⟨by first | omega | exact Nat.le_refl _⟩, ⟨by (with_reducible repeat (first | apply Kd.R_alloc | apply Kd.R_drewN | apply Kd.R_drew)); exact Kd.R_mono (Kd.R_far (p := ⟨gb1558, 4, none⟩) (Kd.R_far (p := ⟨gb1558, 3, none⟩) (Kd.R_far (p := ⟨gb1558, 2, none⟩) (Kd.R_far (p := ⟨gb1558, 1, none⟩) (Kd.R_far (p := ⟨gb1558, 0, none⟩) (Kd.R_types HO1542.out BK1558.out (by decide)) (fun _ hk => hk.2) (.int .i64 t1537)) (fun _ hk => hk.2) (.string t1538)) (fun _ hk => hk.2) (.string t1539)) (fun _ hk => hk.2) (.slice Ao17 t1540.length co17)) (fun _ hk => hk.2) (.slice Ao19 t1543.length co19)) (fun _ hk => by simp only [ne_eq] at hk; simp only [hk, ne_eq, not_false_eq_true, and_self])⟩, ⟨by (with_reducible repeat (first | apply Kd.R_alloc | apply Kd.R_drewN | apply Kd.R_drew)); exact Kd.R_mono (Kd.R_far (p := ⟨gb1558, 4, none⟩) (Kd.R_far (p := ⟨gb1558, 3, none⟩) (Kd.R_far (p := ⟨gb1558, 2, none⟩) (Kd.R_far (p := ⟨gb1558, 1, none⟩) (Kd.R_far (p := ⟨gb1558, 0, none⟩) (Kd.R_types HO1545.out BK1558.out (by decide)) (fun _ hk => hk.2) (.int .i64 t1537)) (fun _ hk => hk.2) (.string t1538)) (fun _ hk => hk.2) (.string t1539)) (fun _ hk => hk.2) (.slice Ao17 t1540.length co17)) (fun _ hk => hk.2) (.slice Ao19 t1543.length co19)) (fun _ hk => by simp only [ne_eq] at hk; simp only [hk, ne_eq, not_false_eq_true, and_self])⟩, ⟨by (with_reducible repeat (first | apply Kd.R_alloc | apply Kd.R_drewN | apply Kd.R_drew)); exact Kd.R_mono (Kd.R_far (p := ⟨gb1558, 4, none⟩) (Kd.R_far (p := ⟨gb1558, 3, none⟩) (Kd.R_far (p := ⟨gb1558, 2, none⟩) (Kd.R_far (p := ⟨gb1558, 1, none⟩) (Kd.R_far (p := ⟨gb1558, 0, none⟩) (Kd.R_types HO1551.out BK1558.out (by decide)) (fun _ hk => hk.2) (.int .i64 t1537)) (fun _ hk => hk.2) (.string t1538)) (fun _ hk => hk.2) (.string t1539)) (fun _ hk => hk.2) (.slice Ao17 t1540.length co17)) (fun _ hk => hk.2) (.slice Ao19 t1543.length co19)) (fun _ hk => by simp only [ne_eq] at hk; simp only [hk, ne_eq, not_false_eq_true, and_self])⟩, ⟨by (with_reducible repeat (first | apply Kd.R_alloc | apply Kd.R_drewN | apply Kd.R_drew)); exact Kd.R_mono (Kd.R_far (p := ⟨gb1558, 4, none⟩) (Kd.R_far (p := ⟨gb1558, 3, none⟩) (Kd.R_far (p := ⟨gb1558, 2, none⟩) (Kd.R_far (p := ⟨gb1558, 1, none⟩) (Kd.R_far (p := ⟨gb1558, 0, none⟩) (Kd.R_types HO1554.out BK1558.out (by decide)) (fun _ hk => hk.2) (.int .i64 t1537)) (fun _ hk => hk.2) (.string t1538)) (fun _ hk => hk.2) (.string t1539)) (fun _ hk => hk.2) (.slice Ao17 t1540.length co17)) (fun _ hk => hk.2) (.slice Ao19 t1543.length co19)) (fun _ hk => by simp only [ne_eq] at hk; simp only [hk, ne_eq, not_false_eq_true, and_self])⟩, ⟨by (with_reducible repeat (first | apply Kd.R_alloc | apply Kd.R_drewN | apply Kd.R_drew)); exact Kd.R_mono (Kd.R_far (p := ⟨gb1558, 4, none⟩) (Kd.R_far (p := ⟨gb1558, 3, none⟩) (Kd.R_far (p := ⟨gb1558, 2, none⟩) (Kd.R_far (p := ⟨gb1558, 1, none⟩) (Kd.R_far (p := ⟨gb1558, 0, none⟩) (Kd.R_types HO1542.out BK1558.out (by decide)) (fun _ hk => hk.2) (.int .i64 t1537)) (fun _ hk => hk.2) (.string t1538)) (fun _ hk => hk.2) (.string t1539)) (fun _ hk => hk.2) (.slice Ao17 t1540.length co17)) (fun _ hk => hk.2) (.slice Ao19 t1543.length co19)) (fun _ hk => by simp only [ne_eq] at hk; simp only [hk, ne_eq, not_false_eq_true, and_self])⟩, ⟨by (with_reducible repeat (first | apply Kd.R_alloc | apply Kd.R_drewN | apply Kd.R_drew)); exact Kd.R_mono (Kd.R_far (p := ⟨gb1558, 4, none⟩) (Kd.R_far (p := ⟨gb1558, 3, none⟩) (Kd.R_far (p := ⟨gb1558, 2, none⟩) (Kd.R_far (p := ⟨gb1558, 1, none⟩) (Kd.R_far (p := ⟨gb1558, 0, none⟩) (Kd.R_types HO1545.out BK1558.out (by decide)) (fun _ hk => hk.2) (.int .i64 t1537)) (fun _ hk => hk.2) (.string t1538)) (fun _ hk => hk.2) (.string t1539)) (fun _ hk => hk.2) (.slice Ao17 t1540.length co17)) (fun _ hk => hk.2) (.slice Ao19 t1543.length co19)) (fun _ hk => by simp only [ne_eq] at hk; simp only [hk, ne_eq, not_false_eq_true, and_self])⟩, ⟨by (with_reducible repeat (first | refine blk_drewN ?_ _ | refine blk_drew ?_ | refine blk_alloc ?_ _)); refine blk_far ?_ NB1535_1558.out _; (with_reducible repeat (first | refine blk_drewN ?_ _ | refine blk_drew ?_ | refine blk_alloc ?_ _)); refine blk_far ?_ NB1535_1558.out _; (with_reducible repeat (first | refine blk_drewN ?_ _ | refine blk_drew ?_ | refine blk_alloc ?_ _)); refine blk_far ?_ NB1535_1558.out _; (with_reducible repeat (first | refine blk_drewN ?_ _ | refine blk_drew ?_ | refine blk_alloc ?_ _)); refine blk_far ?_ NB1535_1558.out _; (with_reducible repeat (first | refine blk_drewN ?_ _ | refine blk_drew ?_ | refine blk_alloc ?_ _)); refine blk_far ?_ NB1535_1558.out _; (with_reducible repeat (first | refine blk_drewN ?_ _ | refine blk_drew ?_ | refine blk_alloc ?_ _)); exact BK1535.out⟩, ⟨by (with_reducible repeat (first | refine blk_drewN ?_ _ | refine blk_drew ?_ | refine blk_alloc ?_ _)); refine blk_far ?_ NB1536_1558.out _; (with_reducible repeat (first | refine blk_drewN ?_ _ | refine blk_drew ?_ | refine blk_alloc ?_ _)); refine blk_far ?_ NB1536_1558.out _; (with_reducible repeat (first | refine blk_drewN ?_ _ | refine blk_drew ?_ | refine blk_alloc ?_ _)); refine blk_far ?_ NB1536_1558.out _; (with_reducible repeat (first | refine blk_drewN ?_ _ | refine blk_drew ?_ | refine blk_alloc ?_ _)); refine blk_far ?_ NB1536_1558.out _; (with_reducible repeat (first | refine blk_drewN ?_ _ | refine blk_drew ?_ | refine blk_alloc ?_ _)); refine blk_far ?_ NB1536_1558.out _; (with_reducible repeat (first | refine blk_drewN ?_ _ | refine blk_drew ?_ | refine blk_alloc ?_ _)); exact BK1536.out⟩, ⟨by (with_reducible repeat (first | refine blk_drewN ?_ _ | refine blk_drew ?_ | refine blk_alloc ?_ _)); refine blk_put (cs := #[.int .i64 t1537, .string t1538, .string t1539, .slice Ao17 t1540.length co17, .slice none 0 0]) ?_ 4 _ rfl; (with_reducible repeat (first | refine blk_drewN ?_ _ | refine blk_drew ?_ | refine blk_alloc ?_ _)); refine blk_put (cs := #[.int .i64 t1537, .string t1538, .string t1539, .slice none 0 0, .slice none 0 0]) ?_ 3 _ rfl; (with_reducible repeat (first | refine blk_drewN ?_ _ | refine blk_drew ?_ | refine blk_alloc ?_ _)); refine blk_put (cs := #[.int .i64 t1537, .string t1538, .string (⟨#[]⟩ : ByteArray), .slice none 0 0, .slice none 0 0]) ?_ 2 _ rfl; (with_reducible repeat (first | refine blk_drewN ?_ _ | refine blk_drew ?_ | refine blk_alloc ?_ _)); refine blk_put (cs := #[.int .i64 t1537, .string (⟨#[]⟩ : ByteArray), .string (⟨#[]⟩ : ByteArray), .slice none 0 0, .slice none 0 0]) ?_ 1 _ rfl; (with_reducible repeat (first | refine blk_drewN ?_ _ | refine blk_drew ?_ | refine blk_alloc ?_ _)); refine blk_put (cs := #[.int .i64 0, .string (⟨#[]⟩ : ByteArray), .string (⟨#[]⟩ : ByteArray), .slice none 0 0, .slice none 0 0]) ?_ 0 _ rfl; (with_reducible repeat (first | refine blk_drewN ?_ _ | refine blk_drew ?_ | refine blk_alloc ?_ _)); exact BK1558.out⟩, ⟨bel_ HB.out⟩⟩
    case rest =>
     clear HC40
     try clear c1
     try clear c2
     try clear p2
     try clear c3
     try clear c4
     try clear c6
     try clear c7
     try clear c9
     try clear c10
     try clear c12
     try clear c28
     try clear c33
     try clear c34
     try clear c36
     try clear c36b0
     try clear c36b1
     try clear c36b2
     try clear c37
     try clear c38
     try clear c41
     try clear c41b0
     try clear c41b1
     try clear c41b2
     try clear c42
     try clear c43
     try clear hcz29_0
     try clear hcz29_1
     try clear hcz29_2
     try clear hcz29_3
     try clear hcz29_4
     try clear hcz31_0
     try clear hcz31_1
     try clear hcz31_2
     try clear hcz31_3
     try clear hcz31_4
     try clear hcz35_0
     try clear hcz35_1
     try clear hcz35_2
     try clear hcz35_3
     try clear hcz35_4
     try clear hcz39_0
     try clear hcz39_1
     try clear hcz39_2
     try clear hcz39_3
     try clear hcz39_4
     try clear hcz44_0
     try clear hcz44_1
     try clear hcz44_2
     try clear hcz44_3
     try clear hcz44_4
     try clear hfz29_0
     try clear hfz29_1
     try clear hfz29_2
     try clear hfz29_3
     try clear hfz29_4
     try clear hfz31_0
     try clear hfz31_1
     try clear hfz31_2
     try clear hfz31_3
     try clear hfz31_4
     try clear hfz35_0
     try clear hfz35_1
     try clear hfz35_2
     try clear hfz35_3
     try clear hfz35_4
     try clear hfz39_0
     try clear hfz39_1
     try clear hfz39_2
     try clear hfz39_3
     try clear hfz39_4
     try clear hfz44_0
     try clear hfz44_1
     try clear hfz44_2
     try clear hfz44_3
     try clear hfz44_4
     obtain ⟨kq, x30_39, rfl, HA, HJ39, HO_1536003, HO_1536004, HO_1537003, HO_1537004, HO_1559003, HO_1559004, BK1535, BK1536, BK1558, HB⟩ := hcut
     cases kq with
     | zero => exact absurd HA.out (by simp [tolllaw06_RuleLess.j0])
     | succ kj39 =>
      have H := HA.out
      clear HA
      simp only [tolllaw06_RuleLess.j0] at H
      by_cases c45 : x30_39 = true
      ·subst c45
       have H1 : (if (t1540.length : Int) = 0 then (none) else ((some (([] : List (S49)) : List (S49))).bind fun y1559 => (if 0 ≤ (((Int.tdiv a2 3) % 256) % (t1540.length : Int)) then (if (((Int.tdiv a2 3) % 256) % (t1540.length : Int)) ≤ (t1540.length : Int) then ((some (t1540.take ((((Int.tdiv a2 3) % 256) % (t1540.length : Int)) : Int).toNat : List (S49))).bind fun y1562 => (if y1559.length + y1562.length < 4398046511104 then ((some (y1559 ++ y1562 : List (S49))).bind fun y1566 => (if 0 ≤ (wrap64 ((((Int.tdiv a2 3) % 256) % (t1540.length : Int)) + 1)) then (if (wrap64 ((((Int.tdiv a2 3) % 256) % (t1540.length : Int)) + 1)) ≤ (t1540.length : Int) then ((some (t1540.drop ((wrap64 ((((Int.tdiv a2 3) % 256) % (t1540.length : Int)) + 1)) : Int).toNat : List (S49))).bind fun y1569 => (if y1566.length + y1569.length < 4398046511104 then (tolllaw06_RuleLess.j1 kj39 t1537 t1538 t1539 t1540 t1543 t1546 t1547 t1548 t1549 t1552 t1537 t1538 t1539 (y1566 ++ y1569) t1543) else (none))) else (none)) else (none))) else (none))) else (none)) else (none)))) = some r := by rw [if_pos rfl] at H; exact H
       clear H
       have H := H1
       clear H1
       by_cases c46 : (t1540.length : Int) = 0
       ·rw [if_pos c46] at H
        exact absurd H (by simp)
       ·rw [if_neg c46] at H
        have c46b0 : ((t1540.length : Int) == 0) = false := beq_eq_false_iff_ne.mpr c46
        have c46b1 : ((t1540.length : Int) != 0) = true := bne_iff_ne.mpr c46
        have c46b2 : ¬ (t1540 = []) := fun h_ => c46 (by rw [h_]; rfl)
        obtain ⟨y1559, hy1559⟩ : ∃ y_ : List (S49), y_ = (([] : List (S49))) := ⟨_, rfl⟩
        replace H : (if 0 ≤ (((Int.tdiv a2 3) % 256) % (t1540.length : Int)) then (if (((Int.tdiv a2 3) % 256) % (t1540.length : Int)) ≤ (t1540.length : Int) then ((some (t1540.take ((((Int.tdiv a2 3) % 256) % (t1540.length : Int)) : Int).toNat : List (S49))).bind fun y1562 => (if y1559.length + y1562.length < 4398046511104 then ((some (y1559 ++ y1562 : List (S49))).bind fun y1566 => (if 0 ≤ (wrap64 ((((Int.tdiv a2 3) % 256) % (t1540.length : Int)) + 1)) then (if (wrap64 ((((Int.tdiv a2 3) % 256) % (t1540.length : Int)) + 1)) ≤ (t1540.length : Int) then ((some (t1540.drop ((wrap64 ((((Int.tdiv a2 3) % 256) % (t1540.length : Int)) + 1)) : Int).toNat : List (S49))).bind fun y1569 => (if y1566.length + y1569.length < 4398046511104 then (tolllaw06_RuleLess.j1 kj39 t1537 t1538 t1539 t1540 t1543 t1546 t1547 t1548 t1549 t1552 t1537 t1538 t1539 (y1566 ++ y1569) t1543) else (none))) else (none)) else (none))) else (none))) else (none)) else (none)) = some r := by first | (rw [hy1559]; with_reducible exact H) | (have H2_ := (Option.bind_some _ _).symm.trans H; rw [hy1559]; with_reducible exact H2_) | (have H2_ := (Option.bind_some _ _).symm.trans H; with_reducible exact H2_) | with_reducible exact H | (rw [hy1559]; exact H) | exact H
        have Ny1559 := Aside0.mk hy1559
        clear hy1559
        obtain ⟨ji47, hji47⟩ : ∃ j_ : Int, (((Int.tdiv a2 3) % 256) % (t1540.length : Int)) = j_ := ⟨_, rfl⟩
        replace H : (if 0 ≤ (ji47) then (if (ji47) ≤ (t1540.length : Int) then ((some (t1540.take ((ji47) : Int).toNat : List (S49))).bind fun y1562 => (if y1559.length + y1562.length < 4398046511104 then ((some (y1559 ++ y1562 : List (S49))).bind fun y1566 => (if 0 ≤ (wrap64 ((ji47) + 1)) then (if (wrap64 ((ji47) + 1)) ≤ (t1540.length : Int) then ((some (t1540.drop ((wrap64 ((ji47) + 1)) : Int).toNat : List (S49))).bind fun y1569 => (if y1566.length + y1569.length < 4398046511104 then (tolllaw06_RuleLess.j1 kj39 t1537 t1538 t1539 t1540 t1543 t1546 t1547 t1548 t1549 t1552 t1537 t1538 t1539 (y1566 ++ y1569) t1543) else (none))) else (none)) else (none))) else (none))) else (none)) else (none)) = some r := by first | (rw [hji47] at H; exact H) | (simp only [hji47] at H ⊢; exact H)
        by_cases c48 : 0 ≤ (ji47)
        ·rw [if_pos c48] at H
         have c48b0 := eq_true c48
         have c48b1 : decide (0 ≤ (ji47)) = true := decide_eq_true c48
         clear c48
         by_cases c49 : (ji47) ≤ (t1540.length : Int)
         ·rw [if_pos c49] at H
          have c49b0 := eq_true c49
          have c49b1 : decide ((ji47) ≤ (t1540.length : Int)) = true := decide_eq_true c49
          clear c49
          obtain ⟨y1562, hy1562⟩ : ∃ y_ : List (S49), y_ = (t1540.take ((ji47) : Int).toNat) := ⟨_, rfl⟩
          replace H : (if y1559.length + y1562.length < 4398046511104 then ((some (y1559 ++ y1562 : List (S49))).bind fun y1566 => (if 0 ≤ (wrap64 ((ji47) + 1)) then (if (wrap64 ((ji47) + 1)) ≤ (t1540.length : Int) then ((some (t1540.drop ((wrap64 ((ji47) + 1)) : Int).toNat : List (S49))).bind fun y1569 => (if y1566.length + y1569.length < 4398046511104 then (tolllaw06_RuleLess.j1 kj39 t1537 t1538 t1539 t1540 t1543 t1546 t1547 t1548 t1549 t1552 t1537 t1538 t1539 (y1566 ++ y1569) t1543) else (none))) else (none)) else (none))) else (none)) = some r := by first | (rw [hy1562]; with_reducible exact H) | (have H2_ := (Option.bind_some _ _).symm.trans H; rw [hy1562]; with_reducible exact H2_) | (have H2_ := (Option.bind_some _ _).symm.trans H; with_reducible exact H2_) | with_reducible exact H | (rw [hy1562]; exact H) | exact H
          have Ny1562 := Aside0.mk hy1562
          clear hy1562
          by_cases c50 : y1559.length + y1562.length < 4398046511104
          ·rw [if_pos c50] at H
           have LMc50 := Aside0.mk c50
           clear c50
           obtain ⟨y1566, hy1566⟩ : ∃ y_ : List (S49), y_ = (y1559 ++ y1562) := ⟨_, rfl⟩
           replace H : (if 0 ≤ (wrap64 ((ji47) + 1)) then (if (wrap64 ((ji47) + 1)) ≤ (t1540.length : Int) then ((some (t1540.drop ((wrap64 ((ji47) + 1)) : Int).toNat : List (S49))).bind fun y1569 => (if y1566.length + y1569.length < 4398046511104 then (tolllaw06_RuleLess.j1 kj39 t1537 t1538 t1539 t1540 t1543 t1546 t1547 t1548 t1549 t1552 t1537 t1538 t1539 (y1566 ++ y1569) t1543) else (none))) else (none)) else (none)) = some r := by first | (rw [hy1566]; with_reducible exact H) | (have H2_ := (Option.bind_some _ _).symm.trans H; rw [hy1566]; with_reducible exact H2_) | (have H2_ := (Option.bind_some _ _).symm.trans H; with_reducible exact H2_) | with_reducible exact H | (rw [hy1566]; exact H) | exact H
           have Ny1566 := Aside0.mk hy1566
           clear hy1566
           obtain ⟨ji51, hji51⟩ : ∃ j_ : Int, (wrap64 ((ji47) + 1)) = j_ := ⟨_, rfl⟩
           replace H : (if 0 ≤ (ji51) then (if (ji51) ≤ (t1540.length : Int) then ((some (t1540.drop ((ji51) : Int).toNat : List (S49))).bind fun y1569 => (if y1566.length + y1569.length < 4398046511104 then (tolllaw06_RuleLess.j1 kj39 t1537 t1538 t1539 t1540 t1543 t1546 t1547 t1548 t1549 t1552 t1537 t1538 t1539 (y1566 ++ y1569) t1543) else (none))) else (none)) else (none)) = some r := by first | (rw [hji51] at H; exact H) | (simp only [hji51] at H ⊢; exact H)
           have hji51w : (IntKind.i64.wrap ((ji47) + 1)) = ji51 := (i64_w _).trans hji51
           by_cases c52 : 0 ≤ (ji51)
           ·rw [if_pos c52] at H
            have c52b0 := eq_true c52
            have c52b1 : decide (0 ≤ (ji51)) = true := decide_eq_true c52
            clear c52
            by_cases c53 : (ji51) ≤ (t1540.length : Int)
            ·rw [if_pos c53] at H
             have c53b0 := eq_true c53
             have c53b1 : decide ((ji51) ≤ (t1540.length : Int)) = true := decide_eq_true c53
             clear c53
             obtain ⟨y1569, hy1569⟩ : ∃ y_ : List (S49), y_ = (t1540.drop ((ji51) : Int).toNat) := ⟨_, rfl⟩
             replace H : (if y1566.length + y1569.length < 4398046511104 then (tolllaw06_RuleLess.j1 kj39 t1537 t1538 t1539 t1540 t1543 t1546 t1547 t1548 t1549 t1552 t1537 t1538 t1539 (y1566 ++ y1569) t1543) else (none)) = some r := by first | (rw [hy1569]; with_reducible exact H) | (have H2_ := (Option.bind_some _ _).symm.trans H; rw [hy1569]; with_reducible exact H2_) | (have H2_ := (Option.bind_some _ _).symm.trans H; with_reducible exact H2_) | with_reducible exact H | (rw [hy1569]; exact H) | exact H
             have Ny1569 := Aside0.mk hy1569
             clear hy1569
             by_cases c54 : y1566.length + y1569.length < 4398046511104
             ·rw [if_pos c54] at H
              have LMc54 := Aside0.mk c54
              clear c54
              obtain ⟨y1573, hy1573⟩ : ∃ y_ : List (S49), y_ = (y1566 ++ y1569) := ⟨_, rfl⟩
              replace H : (tolllaw06_RuleLess.j1 kj39 t1537 t1538 t1539 t1540 t1543 t1546 t1547 t1548 t1549 t1552 t1537 t1538 t1539 y1573 t1543) = some r := by first | (rw [hy1573]; with_reducible exact H) | (have H2_ := (Option.bind_some _ _).symm.trans H; rw [hy1573]; with_reducible exact H2_) | (have H2_ := (Option.bind_some _ _).symm.trans H; with_reducible exact H2_) | with_reducible exact H | (rw [hy1573]; exact H) | exact H
              have Ny1573 := Aside0.mk hy1573
              clear hy1573
              have H' := Aside0.mk H
              clear H
              have hnb55 := NB1535_1536.out
              have hnc55 := NB1536_1535.out
              have hnb56 := NB1535_1558.out
              have hnc56 := NB1558_1535.out
              have hcz57_0 : wc.cell? ⟨gb1535, 0, none⟩ = some (.int .i64 t1537) := (blk_cell BK1535.out 0).trans rfl
              have hcz57_1 : wc.cell? ⟨gb1535, 1, none⟩ = some (.string t1538) := (blk_cell BK1535.out 1).trans rfl
              have hcz57_2 : wc.cell? ⟨gb1535, 2, none⟩ = some (.string t1539) := (blk_cell BK1535.out 2).trans rfl
              have hcz57_3 : wc.cell? ⟨gb1535, 3, none⟩ = some (.slice Ao17 t1540.length co17) := (blk_cell BK1535.out 3).trans rfl
              have hcz57_4 : wc.cell? ⟨gb1535, 4, none⟩ = some (.slice Ao19 t1543.length co19) := (blk_cell BK1535.out 4).trans rfl
              have hfz57_0 := blk_frozen BK1535.out 0
              have hfz57_1 := blk_frozen BK1535.out 1
              have hfz57_2 := blk_frozen BK1535.out 2
              have hfz57_3 := blk_frozen BK1535.out 3
              have hfz57_4 := blk_frozen BK1535.out 4
              try go_wp2
              have n0_ := am_ (Kd.R_drew HO_1536003.out)
              have n1_ := am_ (Kd.R_drew HO_1536004.out)
              have n2_ := am_ (Kd.R_drew HO_1537003.out)
              have n3_ := am_ (Kd.R_drew HO_1537004.out)
              have n4_ := am_ (Kd.R_drew HO_1559003.out)
              have n5_ := am_ (Kd.R_drew HO_1559004.out)
              have n6_ := am_ (blk_drew BK1535.out)
              have n7_ := am_ (blk_drew BK1536.out)
              have n8_ := am_ (blk_drew BK1558.out)
              have n9_ := am_ (below_drew1 HB.out)
              clear HO_1536003 HO_1536004 HO_1537003 HO_1537004 HO_1559003 HO_1559004 BK1535 BK1536 BK1558 HB
              have HO_1536003 := n0_
              have HO_1536004 := n1_
              have HO_1537003 := n2_
              have HO_1537004 := n3_
              have HO_1559003 := n4_
              have HO_1559004 := n5_
              have BK1535 := n6_
              have BK1536 := n7_
              have BK1558 := n8_
              have HB := n9_
              clear n0_ n1_ n2_ n3_ n4_ n5_ n6_ n7_ n8_ n9_
              have q59 : ((ji47) : Int) ≤ ((t1540.length : Int) : Int) := of_decide_eq_true as_
              obtain ⟨i059, hi059, _, hsz59, _⟩ := info_parts info49
              have hroom59 : t1540.length ≤ co17 := (Kd.R_reads' HO_1536003.out).2.1
              have hC59 : Kd.C k49 _ Ao17 t1540.length t1540 := (Kd.R_reads' HO_1536003.out).2.2
              have hcut59 := cut_to (P := Tryd.prog) 24 49 .i64 Tryd.underlying24 hi059 Ao17 t1540.length co17 (ji47) (of_decide_eq_true as_) q59 hroom59
              have hr59 := Kd.C_take (m := ((ji47) : Int).toNat) hC59 (by omega)
              have hy59 : y1562.length = ((ji47) : Int).toNat := (by rw [Ny1562.out, List.length_take]; omega)
              rw [← Ny1562.out] at hr59
              rw [← hy59] at hcut59
              have HR1565 := Aside0.mk hr59
              have HC1565 := am_ (show y1562.length ≤ co17 from by omega)
              clear hr59 hC59 hroom59 hi059 hsz59
              have KY59 := Aside0.mk hy59
              clear hy59
              have KL59 := am_ (show ((ji47) : Int).toNat ≤ t1540.length from by omega)
              replace q59 := eq_true q59
              have q60 : ((ji51) : Int) ≤ ((t1540.length : Int) : Int) := of_decide_eq_true as_
              obtain ⟨i060, hi060, _, hsz60, _⟩ := info_parts info49
              have hroom60 : t1540.length ≤ co17 := (Kd.R_reads' HO_1536003.out).2.1
              have hC60 : Kd.C k49 _ Ao17 t1540.length t1540 := (Kd.R_reads' HO_1536003.out).2.2
              have q060 : (0 : Int) ≤ ((ji51) : Int) := of_decide_eq_true as_
              have hcut60 := cut_from (P := Tryd.prog) 24 49 .i64 Tryd.underlying24 hi060 2 hsz60 Ao17 t1540.length co17 (ji51) q060 q60
              have hr60 := Kd.C_drop (m := ((ji51) : Int).toNat) (c := co17) hC60 (by omega) hroom60
              obtain ⟨A60, hA60⟩ : ∃ A1, A1 = (if co17 = ((ji51) : Int).toNat then Ao17 else (Ao17 : Option Addr).map (·.add (((ji51) : Int).toNat * 2))) := ⟨_, rfl⟩
              obtain ⟨c60, hc60⟩ : ∃ c1, c1 = co17 - ((ji51) : Int).toNat := ⟨_, rfl⟩
              have hy60 : y1569.length = t1540.length - ((ji51) : Int).toNat := (by rw [Ny1569.out, List.length_drop] <;> omega)
              rw [show (t1540).drop ((ji51) : Int).toNat = y1569 from Ny1569.out.symm] at hr60
              replace hr60 : Kd.C k49 _ A60 y1569.length y1569 := (by rw [hA60]; exact hr60)
              rw [← hy60, ← hA60, ← hc60] at hcut60
              have HR1572 := Aside0.mk hr60
              have HC1572 := am_ (show y1569.length ≤ c60 from by rw [hy60, hc60]; exact Nat.sub_le_sub_right hroom60 _)
              clear hr60 hC60 hroom60 hi060 hsz60 hc60
              have KY60 := Aside0.mk hy60
              have KA60 := Aside0.mk hA60
              clear hy60 hA60
              have KL60 := am_ (show ((ji51) : Int).toNat ≤ t1540.length from by omega)
              replace q60 := eq_true q60
              refine start_ (n := 14) (S := fun w' => w'.cell? ⟨gb1535, 0, none⟩ = some (.int .i64 t1537) ∧ w'.cell? ⟨gb1535, 1, none⟩ = some (.string t1538) ∧ w'.cell? ⟨gb1535, 2, none⟩ = some (.string t1539) ∧ w'.cell? ⟨gb1535, 3, none⟩ = some (.slice Ao17 t1540.length co17) ∧ w'.cell? ⟨gb1535, 4, none⟩ = some (.slice Ao19 t1543.length co19)) (ds := []) #[false, false, false, false, false, false, false, false, false, false, false, false, false, false] kr_ rfl rfl ⟨(blk_cell BK1535.out 0).trans rfl, (blk_cell BK1535.out 1).trans rfl, (blk_cell BK1535.out 2).trans rfl, (blk_cell BK1535.out 3).trans rfl, (blk_cell BK1535.out 4).trans rfl⟩ (fun hHeld => ?_); refine with_tabW tolllaw06_RuleLess.tab9 tolllaw06_RuleLess.bits9 (fun HT_ HW_ => ?_)
              generalize wc.drew = w58 at HO_1536003 HO_1536004 HO_1537003 HO_1537004 HO_1559003 HO_1559004 BK1535 BK1536 BK1558 HB HR1565 HR1572 hHeld ⊢
              refine pure_ (i := 1) (N := some 48) (v := ?_) (a' := ?_) #[false, true, false, false, false, false, false, false, false, false, false, false, false, false] rfl rfl (any_of HT_.out kr_) (fun _ _ _ h => h) (Or.inl ⟨by rfl, ?_⟩) ?_ ?_
              rotate_left
              ·intro w'
               go_simp
               with_reducible rfl
              rotate_left
              ·simp only [Act.put, sx_, s0_, s1_, i64_w, i32_w]
               rfl
              refine pure_ (i := 3) (N := some 50) (v := ?_) (a' := ?_) #[false, true, false, true, false, false, false, false, false, false, false, false, false, false] rfl rfl (any_of HT_.out kr_) (fun _ _ _ h => h) (Or.inl ⟨by rfl, ?_⟩) ?_ ?_
              rotate_left
              ·intro w'
               go_simp
               with_reducible rfl
              rotate_left
              ·simp only [Act.put, sx_, s0_, s1_, i64_w, i32_w]
               rfl
              refine pure_ (i := 6) (N := some 53) (v := ?_) (a' := ?_) #[false, true, false, true, false, false, true, false, false, false, false, false, false, false] rfl rfl (any_of HT_.out kr_) (fun _ _ _ h => h) (Or.inl ⟨by rfl, ?_⟩) ?_ ?_
              rotate_left
              ·intro w'
               go_simp
               with_reducible rfl
              rotate_left
              ·simp only [Act.put, sx_, s0_, s1_, i64_w, i32_w]
               rfl
              refine pure_ (i := 8) (N := some 55) (v := ?_) (a' := ?_) #[false, true, false, true, false, false, true, false, true, false, false, false, false, false] rfl rfl (any_of HT_.out kr_) (fun _ _ _ h => h) (Or.inl ⟨by rfl, ?_⟩) ?_ ?_
              rotate_left
              ·intro w'
               go_simp
               with_reducible rfl
              rotate_left
              ·simp only [Act.put, sx_, s0_, s1_, i64_w, i32_w]
               rfl
              refine pure_ (i := 9) (N := some 56) (v := ?_) (a' := ?_) #[false, true, false, true, false, false, true, false, true, true, false, false, false, false] rfl rfl (any_of HT_.out kr_) (fun _ _ _ h => h) (Or.inl ⟨by rfl, ?_⟩) ?_ ?_
              rotate_left
              ·intro w'
               go_simp
               with_reducible rfl
              rotate_left
              ·simp only [Act.put, sx_, s0_, s1_, i64_w, i32_w]
               rfl
              refine take_ (i := 2) (N := some 49) (v := ?_) (a' := ?_) #[false, true, true, true, false, false, true, false, true, true, false, false, false, false] rfl rfl (take_ofW HT_.out HW_.out kr_) (fun _ _ _ h => h) (Or.inl ⟨by rfl, ?_⟩) hHeld ?_ ?_
              rotate_left
              ·rintro w' ⟨s0, s1, s2, s3, s4⟩
               go_simp
               with_reducible rfl
              rotate_left
              ·simp only [Act.put, sx_, s0_, s1_, i64_w, i32_w]
               rfl
              refine pure_ (i := 4) (N := some 51) (v := ?_) (a' := ?_) #[false, true, true, true, true, false, true, false, true, true, false, false, false, false] rfl rfl (any_of HT_.out kr_) (fun _ _ _ h => h) (Or.inl ⟨by rfl, ?_⟩) ?_ ?_
              rotate_left
              ·intro w'
               go_simp
               with_reducible rfl
              rotate_left
              ·simp only [Act.put, sx_, s0_, s1_, i64_w, i32_w]
               rfl
              refine take_ (i := 7) (N := some 54) (v := ?_) (a' := ?_) #[false, true, true, true, true, false, true, true, true, true, false, false, false, false] rfl rfl (take_ofW HT_.out HW_.out kr_) (fun _ _ _ h => h) (Or.inl ⟨by rfl, ?_⟩) hHeld ?_ ?_
              rotate_left
              ·rintro w' ⟨s0, s1, s2, s3, s4⟩
               go_simp
               with_reducible rfl
              rotate_left
              ·simp only [Act.put, sx_, s0_, s1_, i64_w, i32_w]
               rfl
              refine pure_ (i := 10) (N := some 57) (v := ?_) (a' := ?_) #[false, true, true, true, true, false, true, true, true, true, true, false, false, false] rfl rfl (any_of HT_.out kr_) (fun _ _ _ h => h) (Or.inl ⟨by rfl, ?_⟩) ?_ ?_
              rotate_left
              ·intro w'
               go_simp
               with_reducible rfl
              rotate_left
              ·simp only [Act.put, sx_, s0_, s1_, i64_w, i32_w]
               rfl
              refine one_ (i := 0) (N := some 47) #[true, true, true, true, true, false, true, true, true, true, true, false, false, false] rfl rfl (one_of HT_.out kr_) (by decide) (fun K hK => ?_)
              refine Kd.R_lit_step k49 _ 49 ?hg (N := 47) ?hd (xs := ([] : List (S49))) (inner := []) (ok := fun _ => True) (okp := fun _ => True) ?hr ?hp (fun _ hk => hk) trivial (Below.refl _ _) (Nat.le_refl _) (by simp) ?_; (case hd => rfl); (case hg => rfl); (case hr => first | (go_simp; done) | (go_simp; rfl)); (case hp => exact (Reps.none _ _))
              intro v1560 w61 ho62 hb hg_ hnew_
              clear hg_ hnew_
              (first | rw [← Ny1559.out] at ho62 | (simp only [Int.reduceToNat] at ho62; rw [← Ny1559.out] at ho62))
              have n0_ := am_ (Kd.R_elder' (R_ HO_1536003.out) (Kd.R_base ho62) hb)
              have n1_ := am_ (Kd.R_elder' (R_ HO_1536004.out) (Kd.R_base ho62) hb)
              have n2_ := am_ (Kd.R_elder' (R_ HO_1537003.out) (Kd.R_base ho62) hb)
              have n3_ := am_ (Kd.R_elder' (R_ HO_1537004.out) (Kd.R_base ho62) hb)
              have n4_ := am_ (Kd.R_elder' (R_ HO_1559003.out) (Kd.R_base ho62) hb)
              have n5_ := am_ (Kd.R_elder' (R_ HO_1559004.out) (Kd.R_base ho62) hb)
              have n6_ := am_ (Kd.R_lower (Kd.R_new' (Kd.R_new' (Kd.R_new' (Kd.R_new' (Kd.R_new' (Kd.R_new' ho62 (Kd.R_lt (R_ HO_1536003.out))) (Kd.R_lt (R_ HO_1536004.out))) (Kd.R_lt (R_ HO_1537003.out))) (Kd.R_lt (R_ HO_1537004.out))) (Kd.R_lt (R_ HO_1559003.out))) (Kd.R_lt (R_ HO_1559004.out))) (below_size (bel_ HB.out)))
              have n7_ := am_ (blk_below (g := gb1535) (o := .cells #[.int .i64 t1537, .string t1538, .string t1539, .slice Ao17 t1540.length co17, .slice Ao19 t1543.length co19] 26 (0, 0)) (blk_ BK1535.out) hb)
              have n8_ := am_ (blk_below (g := gb1536) (o := .cells #[.string t1546, .string t1547, .string t1548, .slice Ao24 t1549.length co24, .slice Ao26 t1552.length co26] 28 (0, 0)) (blk_ BK1536.out) hb)
              have n9_ := am_ (blk_below (g := gb1558) (o := .cells #[.int .i64 t1537, .string t1538, .string t1539, .slice Ao17 t1540.length co17, .slice Ao19 t1543.length co19] 26 (0, 0)) (blk_ BK1558.out) hb)
              have n10_ := am_ (Kd.C_below (by repeat (first | (with_reducible exact HR1565.out) | (with_reducible refine Kd.C_alloc ?_ _) | (with_reducible refine Kd.C_drewN ?_ _) | (with_reducible refine Kd.C_drew ?_) | exact HR1565.out)) hb)
              have n11_ := am_ (Kd.C_below (by repeat (first | (with_reducible exact HR1572.out) | (with_reducible refine Kd.C_alloc ?_ _) | (with_reducible refine Kd.C_drewN ?_ _) | (with_reducible refine Kd.C_drew ?_) | exact HR1572.out)) hb)
              have n12_ := am_ (below_step (bel_ HB.out) hb)
              clear HO_1536003 HO_1536004 HO_1537003 HO_1537004 HO_1559003 HO_1559004 BK1535 BK1536 BK1558 HR1565 HR1572 HB
              have HO_1536003 := n0_
              have HO_1536004 := n1_
              have HO_1537003 := n2_
              have HO_1537004 := n3_
              have HO_1559003 := n4_
              have HO_1559004 := n5_
              have HO1561 := n6_
              have BK1535 := n7_
              have BK1536 := n8_
              have BK1558 := n9_
              have HR1565 := n10_
              have HR1572 := n11_
              have HB := n12_
              clear n0_ n1_ n2_ n3_ n4_ n5_ n6_ n7_ n8_ n9_ n10_ n11_ n12_ hb ho62
              refine hK.out _ _ ⟨(blk_cell BK1535.out 0).trans rfl, (blk_cell BK1535.out 1).trans rfl, (blk_cell BK1535.out 2).trans rfl, (blk_cell BK1535.out 3).trans rfl, (blk_cell BK1535.out 4).trans rfl⟩ (fun hHeld => ?_)
              clear hK K
              refine norm_ (a' := ?_) ?_ ?_
              rotate_left
              ·show Act.put _ (some 47) _ = _
               simp only [Act.put, sx_, s0_, s1_, i64_w, i32_w]
               rfl
              refine one_ (i := 5) (N := some 52) #[true, true, true, true, true, true, true, true, true, true, true, false, false, false] rfl rfl (one_of HT_.out kr_) (by decide) (fun K hK => ?_)
              refine Kd.R_append_rows_step k49 (w0 := w) w.heap.size (by rfl) (.tmp 47) (.tmp 51) 24 49 (.agg #[(.string ⟨#[]⟩), (.string ⟨#[]⟩)]) 32 rfl Tryd.underlying24 info49 rfl (by decide) (by omega) v1560 y1559 y1562 _ _ _ (fun k_ => some k_ ≠ (.slice Ao17 t1540.length co17 : Value).ownBlock ∧ some k_ ≠ (.slice Ao19 t1543.length co19 : Value).ownBlock ∧ some k_ ≠ (.slice Ao24 t1549.length co24 : Value).ownBlock ∧ some k_ ≠ (.slice Ao26 t1552.length co26 : Value).ownBlock ∧ some k_ ≠ (.slice Ao17 t1540.length co17 : Value).ownBlock ∧ some k_ ≠ (.slice Ao19 t1543.length co19 : Value).ownBlock) (fun _ => False) rfl rfl ?aO ?aR (fun _ _ h => h) (fun _ h => h.elim) ?aF ?aB ?aS ?aL ?_
              (case aR => repeat (first | exact (by repeat (first | (with_reducible exact HR1565.out) | (with_reducible refine Kd.C_alloc ?_ _) | (with_reducible refine Kd.C_drewN ?_ _) | (with_reducible refine Kd.C_drew ?_) | exact HR1565.out)) | (with_reducible refine Kd.C_alloc ?_ _) | (with_reducible refine Kd.C_drewN ?_ _) | (with_reducible refine Kd.C_drew ?_)))
              (case aB => exact (bel_ HB.out))
              (case aF => exact (fun k_ hk => ⟨Kd.fresh' (Kd.R_lt (R_ HO_1536003.out)) k_ hk, Kd.fresh' (Kd.R_lt (R_ HO_1536004.out)) k_ hk, Kd.fresh' (Kd.R_lt (R_ HO_1537003.out)) k_ hk, Kd.fresh' (Kd.R_lt (R_ HO_1537004.out)) k_ hk, Kd.fresh' (Kd.R_lt (R_ HO_1559003.out)) k_ hk, Kd.fresh' (Kd.R_lt (R_ HO_1559004.out)) k_ hk⟩))
              (case aO => exact (by (with_reducible repeat (first | apply Kd.R_alloc | apply Kd.R_drewN | apply Kd.R_drew)); exact Kd.R_mono HO1561.out (fun _ hk => ⟨hk.1.1.1.1.1.2, ⟨hk.1.1.1.1.2, ⟨hk.1.1.1.2, ⟨hk.1.1.2, ⟨hk.1.2, hk.2⟩⟩⟩⟩⟩)))
              (case aS => exact (below_size (bel_ HB.out)))
              (case aL => have := LMc50.out; omega)
              intro v1567 w63 ho hb hg hat
              rw [← Ny1566.out] at ho
              have n0_ := am_ (Kd.R_after (ok := (fun k_ => some k_ ≠ (.slice Ao19 t1543.length co19 : Value).ownBlock ∧ some k_ ≠ (.slice Ao24 t1549.length co24 : Value).ownBlock ∧ some k_ ≠ (.slice Ao26 t1552.length co26 : Value).ownBlock ∧ some k_ ≠ (.slice Ao19 t1543.length co19 : Value).ownBlock)) (R_ HO_1536003.out) hg hat)
              have n1_ := am_ (Kd.R_after (ok := (fun k_ => some k_ ≠ (.slice Ao17 t1540.length co17 : Value).ownBlock ∧ some k_ ≠ (.slice Ao24 t1549.length co24 : Value).ownBlock ∧ some k_ ≠ (.slice Ao26 t1552.length co26 : Value).ownBlock ∧ some k_ ≠ (.slice Ao17 t1540.length co17 : Value).ownBlock)) (R_ HO_1536004.out) hg hat)
              have n2_ := am_ (Kd.R_after (ok := (fun k_ => some k_ ≠ (.slice Ao17 t1540.length co17 : Value).ownBlock ∧ some k_ ≠ (.slice Ao19 t1543.length co19 : Value).ownBlock ∧ some k_ ≠ (.slice Ao26 t1552.length co26 : Value).ownBlock ∧ some k_ ≠ (.slice Ao17 t1540.length co17 : Value).ownBlock ∧ some k_ ≠ (.slice Ao19 t1543.length co19 : Value).ownBlock)) (R_ HO_1537003.out) hg hat)
              have n3_ := am_ (Kd.R_after (ok := (fun k_ => some k_ ≠ (.slice Ao17 t1540.length co17 : Value).ownBlock ∧ some k_ ≠ (.slice Ao19 t1543.length co19 : Value).ownBlock ∧ some k_ ≠ (.slice Ao24 t1549.length co24 : Value).ownBlock ∧ some k_ ≠ (.slice Ao17 t1540.length co17 : Value).ownBlock ∧ some k_ ≠ (.slice Ao19 t1543.length co19 : Value).ownBlock)) (R_ HO_1537004.out) hg hat)
              have n4_ := am_ (Kd.R_after (ok := (fun k_ => some k_ ≠ (.slice Ao19 t1543.length co19 : Value).ownBlock ∧ some k_ ≠ (.slice Ao24 t1549.length co24 : Value).ownBlock ∧ some k_ ≠ (.slice Ao26 t1552.length co26 : Value).ownBlock ∧ some k_ ≠ (.slice Ao19 t1543.length co19 : Value).ownBlock)) (R_ HO_1559003.out) hg hat)
              have n5_ := am_ (Kd.R_after (ok := (fun k_ => some k_ ≠ (.slice Ao17 t1540.length co17 : Value).ownBlock ∧ some k_ ≠ (.slice Ao24 t1549.length co24 : Value).ownBlock ∧ some k_ ≠ (.slice Ao26 t1552.length co26 : Value).ownBlock ∧ some k_ ≠ (.slice Ao17 t1540.length co17 : Value).ownBlock)) (R_ HO_1559004.out) hg hat)
              have n6_ := am_ (blk_grown (g := gb1535) (o := .cells #[.int .i64 t1537, .string t1538, .string t1539, .slice Ao17 t1540.length co17, .slice Ao19 t1543.length co19] 26 (0, 0)) (blk_ BK1535.out) hg (Kd.R_ne HO1561.out BK1535.out (by decide)))
              have n7_ := am_ (blk_grown (g := gb1536) (o := .cells #[.string t1546, .string t1547, .string t1548, .slice Ao24 t1549.length co24, .slice Ao26 t1552.length co26] 28 (0, 0)) (blk_ BK1536.out) hg (Kd.R_ne HO1561.out BK1536.out (by decide)))
              have n8_ := am_ (blk_grown (g := gb1558) (o := .cells #[.int .i64 t1537, .string t1538, .string t1539, .slice Ao17 t1540.length co17, .slice Ao19 t1543.length co19] 26 (0, 0)) (blk_ BK1558.out) hg (Kd.R_ne HO1561.out BK1558.out (by decide)))
              have n9_ := am_ (hb)
              have n10_ := am_ ((show Kd.C k49 w63 Ao17 y1562.length y1562 from by rw [Ny1562.out]; exact Kd.C_take (m := ((ji47) : Int).toNat) ((Kd.R_reads' (Kd.R_after (ok := (fun k_ => some k_ ≠ (.slice Ao19 t1543.length co19 : Value).ownBlock ∧ some k_ ≠ (.slice Ao24 t1549.length co24 : Value).ownBlock ∧ some k_ ≠ (.slice Ao26 t1552.length co26 : Value).ownBlock ∧ some k_ ≠ (.slice Ao19 t1543.length co19 : Value).ownBlock)) (R_ HO_1536003.out) hg hat)).2.2) KL59.out))
              have n11_ := am_ ((show Kd.C k49 w63 A60 y1569.length y1569 from by rw [Ny1569.out, KA60.out]; exact Kd.C_drop (m := ((ji51) : Int).toNat) (c := co17) ((Kd.R_reads' (Kd.R_after (ok := (fun k_ => some k_ ≠ (.slice Ao19 t1543.length co19 : Value).ownBlock ∧ some k_ ≠ (.slice Ao24 t1549.length co24 : Value).ownBlock ∧ some k_ ≠ (.slice Ao26 t1552.length co26 : Value).ownBlock ∧ some k_ ≠ (.slice Ao19 t1543.length co19 : Value).ownBlock)) (R_ HO_1536003.out) hg hat)).2.2) KL60.out ((Kd.R_reads' (Kd.R_after (ok := (fun k_ => some k_ ≠ (.slice Ao19 t1543.length co19 : Value).ownBlock ∧ some k_ ≠ (.slice Ao24 t1549.length co24 : Value).ownBlock ∧ some k_ ≠ (.slice Ao26 t1552.length co26 : Value).ownBlock ∧ some k_ ≠ (.slice Ao19 t1543.length co19 : Value).ownBlock)) (R_ HO_1536003.out) hg hat)).2.1)))
              have n12_ := am_ (ho)
              clear HO_1536003 HO_1536004 HO_1537003 HO_1537004 HO_1559003 HO_1559004 BK1535 BK1536 BK1558 HB HR1565 HR1572 HO1561
              have HO_1536003 := n0_
              have HO_1536004 := n1_
              have HO_1537003 := n2_
              have HO_1537004 := n3_
              have HO_1559003 := n4_
              have HO_1559004 := n5_
              have BK1535 := n6_
              have BK1536 := n7_
              have BK1558 := n8_
              have HB := n9_
              have HR1565 := n10_
              have HR1572 := n11_
              have HO1568 := n12_
              clear n0_ n1_ n2_ n3_ n4_ n5_ n6_ n7_ n8_ n9_ n10_ n11_ n12_ ho hb hg hat
              refine hK.out _ _ ⟨(blk_cell BK1535.out 0).trans rfl, (blk_cell BK1535.out 1).trans rfl, (blk_cell BK1535.out 2).trans rfl, (blk_cell BK1535.out 3).trans rfl, (blk_cell BK1535.out 4).trans rfl⟩ (fun hHeld => ?_)
              clear hK K
              refine norm_ (a' := ?_) ?_ ?_
              rotate_left
              ·show Act.put _ (some 52) _ = _
               simp only [Act.put, sx_, s0_, s1_, i64_w, i32_w]
               rfl
              refine one_ (i := 11) (N := some 58) #[true, true, true, true, true, true, true, true, true, true, true, true, false, false] rfl rfl (one_of HT_.out kr_) (by decide) (fun K hK => ?_)
              refine Kd.R_append_rows_step k49 (w0 := w) w.heap.size (by rfl) (.tmp 52) (.tmp 57) 24 49 (.agg #[(.string ⟨#[]⟩), (.string ⟨#[]⟩)]) 32 rfl Tryd.underlying24 info49 rfl (by decide) (by omega) v1567 y1566 y1569 _ _ _ (fun k_ => some k_ ≠ (.slice Ao17 t1540.length co17 : Value).ownBlock ∧ some k_ ≠ (.slice Ao19 t1543.length co19 : Value).ownBlock ∧ some k_ ≠ (.slice Ao24 t1549.length co24 : Value).ownBlock ∧ some k_ ≠ (.slice Ao26 t1552.length co26 : Value).ownBlock ∧ some k_ ≠ (.slice Ao17 t1540.length co17 : Value).ownBlock ∧ some k_ ≠ (.slice Ao19 t1543.length co19 : Value).ownBlock) (fun _ => False) rfl rfl ?aO ?aR (fun _ _ h => h) (fun _ h => h.elim) ?aF ?aB ?aS ?aL ?_
              (case aR => repeat (first | exact (by repeat (first | (with_reducible exact HR1572.out) | (with_reducible refine Kd.C_alloc ?_ _) | (with_reducible refine Kd.C_drewN ?_ _) | (with_reducible refine Kd.C_drew ?_) | exact HR1572.out)) | (with_reducible refine Kd.C_alloc ?_ _) | (with_reducible refine Kd.C_drewN ?_ _) | (with_reducible refine Kd.C_drew ?_)))
              (case aB => exact (bel_ HB.out))
              (case aF => exact (fun k_ hk => ⟨Kd.fresh' (Kd.R_lt (R_ HO_1536003.out)) k_ hk, Kd.fresh' (Kd.R_lt (R_ HO_1536004.out)) k_ hk, Kd.fresh' (Kd.R_lt (R_ HO_1537003.out)) k_ hk, Kd.fresh' (Kd.R_lt (R_ HO_1537004.out)) k_ hk, Kd.fresh' (Kd.R_lt (R_ HO_1559003.out)) k_ hk, Kd.fresh' (Kd.R_lt (R_ HO_1559004.out)) k_ hk⟩))
              (case aO => exact (R_ HO1568.out))
              (case aS => exact (below_size (bel_ HB.out)))
              (case aL => have := LMc54.out; omega)
              intro v1574 w64 ho hb hg hat
              rw [← Ny1573.out] at ho
              have n0_ := am_ (Kd.R_after (ok := (fun k_ => some k_ ≠ (.slice Ao19 t1543.length co19 : Value).ownBlock ∧ some k_ ≠ (.slice Ao24 t1549.length co24 : Value).ownBlock ∧ some k_ ≠ (.slice Ao26 t1552.length co26 : Value).ownBlock ∧ some k_ ≠ (.slice Ao19 t1543.length co19 : Value).ownBlock)) (R_ HO_1536003.out) hg hat)
              have n1_ := am_ (Kd.R_after (ok := (fun k_ => some k_ ≠ (.slice Ao17 t1540.length co17 : Value).ownBlock ∧ some k_ ≠ (.slice Ao24 t1549.length co24 : Value).ownBlock ∧ some k_ ≠ (.slice Ao26 t1552.length co26 : Value).ownBlock ∧ some k_ ≠ (.slice Ao17 t1540.length co17 : Value).ownBlock)) (R_ HO_1536004.out) hg hat)
              have n2_ := am_ (Kd.R_after (ok := (fun k_ => some k_ ≠ (.slice Ao17 t1540.length co17 : Value).ownBlock ∧ some k_ ≠ (.slice Ao19 t1543.length co19 : Value).ownBlock ∧ some k_ ≠ (.slice Ao26 t1552.length co26 : Value).ownBlock ∧ some k_ ≠ (.slice Ao17 t1540.length co17 : Value).ownBlock ∧ some k_ ≠ (.slice Ao19 t1543.length co19 : Value).ownBlock)) (R_ HO_1537003.out) hg hat)
              have n3_ := am_ (Kd.R_after (ok := (fun k_ => some k_ ≠ (.slice Ao17 t1540.length co17 : Value).ownBlock ∧ some k_ ≠ (.slice Ao19 t1543.length co19 : Value).ownBlock ∧ some k_ ≠ (.slice Ao24 t1549.length co24 : Value).ownBlock ∧ some k_ ≠ (.slice Ao17 t1540.length co17 : Value).ownBlock ∧ some k_ ≠ (.slice Ao19 t1543.length co19 : Value).ownBlock)) (R_ HO_1537004.out) hg hat)
              have n4_ := am_ (Kd.R_after (ok := (fun k_ => some k_ ≠ (.slice Ao19 t1543.length co19 : Value).ownBlock ∧ some k_ ≠ (.slice Ao24 t1549.length co24 : Value).ownBlock ∧ some k_ ≠ (.slice Ao26 t1552.length co26 : Value).ownBlock ∧ some k_ ≠ (.slice Ao19 t1543.length co19 : Value).ownBlock)) (R_ HO_1559003.out) hg hat)
              have n5_ := am_ (Kd.R_after (ok := (fun k_ => some k_ ≠ (.slice Ao17 t1540.length co17 : Value).ownBlock ∧ some k_ ≠ (.slice Ao24 t1549.length co24 : Value).ownBlock ∧ some k_ ≠ (.slice Ao26 t1552.length co26 : Value).ownBlock ∧ some k_ ≠ (.slice Ao17 t1540.length co17 : Value).ownBlock)) (R_ HO_1559004.out) hg hat)
              have n6_ := am_ (blk_grown (g := gb1535) (o := .cells #[.int .i64 t1537, .string t1538, .string t1539, .slice Ao17 t1540.length co17, .slice Ao19 t1543.length co19] 26 (0, 0)) (blk_ BK1535.out) hg (Kd.R_ne HO1568.out BK1535.out (by decide)))
              have n7_ := am_ (blk_grown (g := gb1536) (o := .cells #[.string t1546, .string t1547, .string t1548, .slice Ao24 t1549.length co24, .slice Ao26 t1552.length co26] 28 (0, 0)) (blk_ BK1536.out) hg (Kd.R_ne HO1568.out BK1536.out (by decide)))
              have n8_ := am_ (blk_grown (g := gb1558) (o := .cells #[.int .i64 t1537, .string t1538, .string t1539, .slice Ao17 t1540.length co17, .slice Ao19 t1543.length co19] 26 (0, 0)) (blk_ BK1558.out) hg (Kd.R_ne HO1568.out BK1558.out (by decide)))
              have n9_ := am_ (hb)
              have n10_ := am_ ((show Kd.C k49 w64 Ao17 y1562.length y1562 from by rw [Ny1562.out]; exact Kd.C_take (m := ((ji47) : Int).toNat) ((Kd.R_reads' (Kd.R_after (ok := (fun k_ => some k_ ≠ (.slice Ao19 t1543.length co19 : Value).ownBlock ∧ some k_ ≠ (.slice Ao24 t1549.length co24 : Value).ownBlock ∧ some k_ ≠ (.slice Ao26 t1552.length co26 : Value).ownBlock ∧ some k_ ≠ (.slice Ao19 t1543.length co19 : Value).ownBlock)) (R_ HO_1536003.out) hg hat)).2.2) KL59.out))
              have n11_ := am_ ((show Kd.C k49 w64 A60 y1569.length y1569 from by rw [Ny1569.out, KA60.out]; exact Kd.C_drop (m := ((ji51) : Int).toNat) (c := co17) ((Kd.R_reads' (Kd.R_after (ok := (fun k_ => some k_ ≠ (.slice Ao19 t1543.length co19 : Value).ownBlock ∧ some k_ ≠ (.slice Ao24 t1549.length co24 : Value).ownBlock ∧ some k_ ≠ (.slice Ao26 t1552.length co26 : Value).ownBlock ∧ some k_ ≠ (.slice Ao19 t1543.length co19 : Value).ownBlock)) (R_ HO_1536003.out) hg hat)).2.2) KL60.out ((Kd.R_reads' (Kd.R_after (ok := (fun k_ => some k_ ≠ (.slice Ao19 t1543.length co19 : Value).ownBlock ∧ some k_ ≠ (.slice Ao24 t1549.length co24 : Value).ownBlock ∧ some k_ ≠ (.slice Ao26 t1552.length co26 : Value).ownBlock ∧ some k_ ≠ (.slice Ao19 t1543.length co19 : Value).ownBlock)) (R_ HO_1536003.out) hg hat)).2.1)))
              have n12_ := am_ (ho)
              clear HO_1536003 HO_1536004 HO_1537003 HO_1537004 HO_1559003 HO_1559004 BK1535 BK1536 BK1558 HB HR1565 HR1572 HO1568
              have HO_1536003 := n0_
              have HO_1536004 := n1_
              have HO_1537003 := n2_
              have HO_1537004 := n3_
              have HO_1559003 := n4_
              have HO_1559004 := n5_
              have BK1535 := n6_
              have BK1536 := n7_
              have BK1558 := n8_
              have HB := n9_
              have HR1565 := n10_
              have HR1572 := n11_
              have HO1575 := n12_
              clear n0_ n1_ n2_ n3_ n4_ n5_ n6_ n7_ n8_ n9_ n10_ n11_ n12_ ho hb hg hat
              obtain ⟨Ao65, co65, eo65⟩ := Kd.R_slice HO1575.out
              (first | subst eo65 | (injection eo65 with f1_ f2_ f3_; have f4_ := f1_.symm; have f5_ := f3_.symm; clear f1_ f2_ f3_; subst f4_; subst f5_))
              refine hK.out _ _ ⟨(blk_cell BK1535.out 0).trans rfl, (blk_cell BK1535.out 1).trans rfl, (blk_cell BK1535.out 2).trans rfl, (blk_cell BK1535.out 3).trans rfl, (blk_cell BK1535.out 4).trans rfl⟩ (fun hHeld => ?_)
              clear hK K
              refine norm_ (a' := ?_) ?_ ?_
              rotate_left
              ·show Act.put _ (some 58) _ = _
               simp only [Act.put, sx_, s0_, s1_, i64_w, i32_w]
               rfl
              refine pure_ (i := 12) (N := some 59) (v := ?_) (a' := ?_) #[true, true, true, true, true, true, true, true, true, true, true, true, true, false] rfl rfl (any_of HT_.out kr_) (fun _ _ _ h => h) (Or.inl ⟨by rfl, ?_⟩) ?_ ?_
              rotate_left
              ·intro w'
               go_simp
               with_reducible rfl
              rotate_left
              ·simp only [Act.put, sx_, s0_, s1_, i64_w, i32_w]
               rfl
              refine one_ (i := 13) (N := none) #[true, true, true, true, true, true, true, true, true, true, true, true, true, true] rfl rfl (one_of HT_.out kr_) (by decide) (fun K hK => ?_)
              have hs66 : w64.cell? ⟨gb1558, 3, none⟩ = some (.slice Ao17 t1540.length co17) := (blk_cell BK1558.out 3).trans rfl
              have hfs66 := blk_frozen BK1558.out 3
              have hns66_0 := NB1535_1558.out
              have hns66_1 := NB1536_1558.out
              have hms66_0 := NB1558_1535.out
              have hms66_1 := NB1558_1536.out
              refine skip_ (w1 := ?_) (by rfl) rfl ?_ ?_
              rotate_left
              ·go_simp
               rfl
              refine hK.out _ _ ⟨((cell_far (p := ⟨gb1558, _, none⟩) NB1535_1558.out _).trans (hHeld.1)), ((cell_far (p := ⟨gb1558, _, none⟩) NB1535_1558.out _).trans (hHeld.2.1)), ((cell_far (p := ⟨gb1558, _, none⟩) NB1535_1558.out _).trans (hHeld.2.2.1)), ((cell_far (p := ⟨gb1558, _, none⟩) NB1535_1558.out _).trans (hHeld.2.2.2.1)), ((cell_far (p := ⟨gb1558, _, none⟩) NB1535_1558.out _).trans (hHeld.2.2.2.2))⟩ (fun hHeld => ?_)
              clear hK K
              refine done_ (done_of HT_.out kr_) ?_
              try go_wp2
              go_meet
              case rel => exact ⟨_, (t1539), (y1573), (t1543), (.slice Ao65 y1573.length co65), (.slice Ao19 t1543.length co19), H', ⟨by have := HJ39.out; first | omega | exact Nat.le_refl _⟩, ⟨by (with_reducible repeat (first | apply Kd.R_alloc | apply Kd.R_drewN | apply Kd.R_drew)); exact Kd.R_mono (Kd.R_far (p := ⟨gb1558, 3, none⟩) (Kd.R_types HO_1536003.out BK1558.out (by decide)) (fun _ hk => hk.2) (.slice Ao65 y1573.length co65)) (fun _ hk => by simp only [ne_eq] at hk; simp only [hk, ne_eq, not_false_eq_true, and_self])⟩, ⟨by (with_reducible repeat (first | apply Kd.R_alloc | apply Kd.R_drewN | apply Kd.R_drew)); exact Kd.R_mono (Kd.R_far (p := ⟨gb1558, 3, none⟩) (Kd.R_types HO_1536004.out BK1558.out (by decide)) (fun _ hk => hk.2) (.slice Ao65 y1573.length co65)) (fun _ hk => by simp only [ne_eq] at hk; simp only [hk, ne_eq, not_false_eq_true, and_self])⟩, ⟨by (with_reducible repeat (first | apply Kd.R_alloc | apply Kd.R_drewN | apply Kd.R_drew)); exact Kd.R_mono (Kd.R_far (p := ⟨gb1558, 3, none⟩) (Kd.R_types HO_1537003.out BK1558.out (by decide)) (fun _ hk => hk.2) (.slice Ao65 y1573.length co65)) (fun _ hk => by simp only [ne_eq] at hk; simp only [hk, ne_eq, not_false_eq_true, and_self])⟩, ⟨by (with_reducible repeat (first | apply Kd.R_alloc | apply Kd.R_drewN | apply Kd.R_drew)); exact Kd.R_mono (Kd.R_far (p := ⟨gb1558, 3, none⟩) (Kd.R_types HO_1537004.out BK1558.out (by decide)) (fun _ hk => hk.2) (.slice Ao65 y1573.length co65)) (fun _ hk => by simp only [ne_eq] at hk; simp only [hk, ne_eq, not_false_eq_true, and_self])⟩, ⟨by (with_reducible repeat (first | apply Kd.R_alloc | apply Kd.R_drewN | apply Kd.R_drew)); exact Kd.R_mono (Kd.R_far (p := ⟨gb1558, 3, none⟩) (Kd.R_types HO1575.out BK1558.out (by decide)) (fun _ hk => hk.2) (.slice Ao65 y1573.length co65)) (fun _ hk => by simp only [ne_eq] at hk; simp only [hk, ne_eq, not_false_eq_true, and_self])⟩, ⟨by (with_reducible repeat (first | apply Kd.R_alloc | apply Kd.R_drewN | apply Kd.R_drew)); exact Kd.R_mono (Kd.R_far (p := ⟨gb1558, 3, none⟩) (Kd.R_types HO_1559004.out BK1558.out (by decide)) (fun _ hk => hk.2) (.slice Ao65 y1573.length co65)) (fun _ hk => by simp only [ne_eq] at hk; simp only [hk, ne_eq, not_false_eq_true, and_self])⟩, ⟨by (with_reducible repeat (first | refine blk_drewN ?_ _ | refine blk_drew ?_ | refine blk_alloc ?_ _)); refine blk_far ?_ NB1535_1558.out _; (with_reducible repeat (first | refine blk_drewN ?_ _ | refine blk_drew ?_ | refine blk_alloc ?_ _)); exact BK1535.out⟩, ⟨by (with_reducible repeat (first | refine blk_drewN ?_ _ | refine blk_drew ?_ | refine blk_alloc ?_ _)); refine blk_far ?_ NB1536_1558.out _; (with_reducible repeat (first | refine blk_drewN ?_ _ | refine blk_drew ?_ | refine blk_alloc ?_ _)); exact BK1536.out⟩, ⟨by (with_reducible repeat (first | refine blk_drewN ?_ _ | refine blk_drew ?_ | refine blk_alloc ?_ _)); refine blk_put (cs := #[.int .i64 t1537, .string t1538, .string t1539, .slice Ao17 t1540.length co17, .slice Ao19 t1543.length co19]) ?_ 3 _ rfl; (with_reducible repeat (first | refine blk_drewN ?_ _ | refine blk_drew ?_ | refine blk_alloc ?_ _)); exact BK1558.out⟩, ⟨bel_ HB.out⟩⟩
             ·rw [if_neg c54] at H
              exact absurd H (by simp)
            ·rw [if_neg c53] at H
             exact absurd H (by simp)
           ·rw [if_neg c52] at H
            exact absurd H (by simp)
          ·rw [if_neg c50] at H
           exact absurd H (by simp)
         ·rw [if_neg c49] at H
          exact absurd H (by simp)
        ·rw [if_neg c48] at H
         exact absurd H (by simp)
      ·replace c45 := Bool.eq_false_iff.mpr c45
       subst c45
       have H1 : (if (t1543.length : Int) > 0 then (if (t1543.length : Int) = 0 then (none) else ((some (([] : List (S49)) : List (S49))).bind fun y1576 => (if 0 ≤ (((Int.tdiv a2 3) % 256) % (t1543.length : Int)) then (if (((Int.tdiv a2 3) % 256) % (t1543.length : Int)) ≤ (t1543.length : Int) then ((some (t1543.take ((((Int.tdiv a2 3) % 256) % (t1543.length : Int)) : Int).toNat : List (S49))).bind fun y1579 => (if y1576.length + y1579.length < 4398046511104 then ((some (y1576 ++ y1579 : List (S49))).bind fun y1583 => (if 0 ≤ (wrap64 ((((Int.tdiv a2 3) % 256) % (t1543.length : Int)) + 1)) then (if (wrap64 ((((Int.tdiv a2 3) % 256) % (t1543.length : Int)) + 1)) ≤ (t1543.length : Int) then ((some (t1543.drop ((wrap64 ((((Int.tdiv a2 3) % 256) % (t1543.length : Int)) + 1)) : Int).toNat : List (S49))).bind fun y1586 => (if y1583.length + y1586.length < 4398046511104 then (tolllaw06_RuleLess.j1 kj39 t1537 t1538 t1539 t1540 t1543 t1546 t1547 t1548 t1549 t1552 t1537 t1538 t1539 t1540 (y1583 ++ y1586)) else (none))) else (none)) else (none))) else (none))) else (none)) else (none)))) else (tolllaw06_RuleLess.j1 kj39 t1537 t1538 t1539 t1540 t1543 t1546 t1547 t1548 t1549 t1552 t1537 t1538 t1539 t1540 t1543)) = some r := by rw [if_neg (show ¬ (false = true) by decide)] at H; exact H
       clear H
       have H := H1
       clear H1
       by_cases c67 : (t1543.length : Int) > 0
       ·rw [if_pos c67] at H
        have c67b0 : decide (0 < (t1543.length : Int)) = true := decide_eq_true c67
        have c67b1 : decide (0 < t1543.length) = true := decide_eq_true (by omega)
        clear c67
        by_cases c68 : (t1543.length : Int) = 0
        ·rw [if_pos c68] at H
         exact absurd H (by simp)
        ·rw [if_neg c68] at H
         have c68b0 : ((t1543.length : Int) == 0) = false := beq_eq_false_iff_ne.mpr c68
         have c68b1 : ((t1543.length : Int) != 0) = true := bne_iff_ne.mpr c68
         have c68b2 : ¬ (t1543 = []) := fun h_ => c68 (by rw [h_]; rfl)
         obtain ⟨y1576, hy1576⟩ : ∃ y_ : List (S49), y_ = (([] : List (S49))) := ⟨_, rfl⟩
         replace H : (if 0 ≤ (((Int.tdiv a2 3) % 256) % (t1543.length : Int)) then (if (((Int.tdiv a2 3) % 256) % (t1543.length : Int)) ≤ (t1543.length : Int) then ((some (t1543.take ((((Int.tdiv a2 3) % 256) % (t1543.length : Int)) : Int).toNat : List (S49))).bind fun y1579 => (if y1576.length + y1579.length < 4398046511104 then ((some (y1576 ++ y1579 : List (S49))).bind fun y1583 => (if 0 ≤ (wrap64 ((((Int.tdiv a2 3) % 256) % (t1543.length : Int)) + 1)) then (if (wrap64 ((((Int.tdiv a2 3) % 256) % (t1543.length : Int)) + 1)) ≤ (t1543.length : Int) then ((some (t1543.drop ((wrap64 ((((Int.tdiv a2 3) % 256) % (t1543.length : Int)) + 1)) : Int).toNat : List (S49))).bind fun y1586 => (if y1583.length + y1586.length < 4398046511104 then (tolllaw06_RuleLess.j1 kj39 t1537 t1538 t1539 t1540 t1543 t1546 t1547 t1548 t1549 t1552 t1537 t1538 t1539 t1540 (y1583 ++ y1586)) else (none))) else (none)) else (none))) else (none))) else (none)) else (none)) = some r := by first | (rw [hy1576]; with_reducible exact H) | (have H2_ := (Option.bind_some _ _).symm.trans H; rw [hy1576]; with_reducible exact H2_) | (have H2_ := (Option.bind_some _ _).symm.trans H; with_reducible exact H2_) | with_reducible exact H | (rw [hy1576]; exact H) | exact H
         have Ny1576 := Aside0.mk hy1576
         clear hy1576
         obtain ⟨ji69, hji69⟩ : ∃ j_ : Int, (((Int.tdiv a2 3) % 256) % (t1543.length : Int)) = j_ := ⟨_, rfl⟩
         replace H : (if 0 ≤ (ji69) then (if (ji69) ≤ (t1543.length : Int) then ((some (t1543.take ((ji69) : Int).toNat : List (S49))).bind fun y1579 => (if y1576.length + y1579.length < 4398046511104 then ((some (y1576 ++ y1579 : List (S49))).bind fun y1583 => (if 0 ≤ (wrap64 ((ji69) + 1)) then (if (wrap64 ((ji69) + 1)) ≤ (t1543.length : Int) then ((some (t1543.drop ((wrap64 ((ji69) + 1)) : Int).toNat : List (S49))).bind fun y1586 => (if y1583.length + y1586.length < 4398046511104 then (tolllaw06_RuleLess.j1 kj39 t1537 t1538 t1539 t1540 t1543 t1546 t1547 t1548 t1549 t1552 t1537 t1538 t1539 t1540 (y1583 ++ y1586)) else (none))) else (none)) else (none))) else (none))) else (none)) else (none)) = some r := by first | (rw [hji69] at H; exact H) | (simp only [hji69] at H ⊢; exact H)
         by_cases c70 : 0 ≤ (ji69)
         ·rw [if_pos c70] at H
          have c70b0 := eq_true c70
          have c70b1 : decide (0 ≤ (ji69)) = true := decide_eq_true c70
          clear c70
          by_cases c71 : (ji69) ≤ (t1543.length : Int)
          ·rw [if_pos c71] at H
           have c71b0 := eq_true c71
           have c71b1 : decide ((ji69) ≤ (t1543.length : Int)) = true := decide_eq_true c71
           clear c71
           obtain ⟨y1579, hy1579⟩ : ∃ y_ : List (S49), y_ = (t1543.take ((ji69) : Int).toNat) := ⟨_, rfl⟩
           replace H : (if y1576.length + y1579.length < 4398046511104 then ((some (y1576 ++ y1579 : List (S49))).bind fun y1583 => (if 0 ≤ (wrap64 ((ji69) + 1)) then (if (wrap64 ((ji69) + 1)) ≤ (t1543.length : Int) then ((some (t1543.drop ((wrap64 ((ji69) + 1)) : Int).toNat : List (S49))).bind fun y1586 => (if y1583.length + y1586.length < 4398046511104 then (tolllaw06_RuleLess.j1 kj39 t1537 t1538 t1539 t1540 t1543 t1546 t1547 t1548 t1549 t1552 t1537 t1538 t1539 t1540 (y1583 ++ y1586)) else (none))) else (none)) else (none))) else (none)) = some r := by first | (rw [hy1579]; with_reducible exact H) | (have H2_ := (Option.bind_some _ _).symm.trans H; rw [hy1579]; with_reducible exact H2_) | (have H2_ := (Option.bind_some _ _).symm.trans H; with_reducible exact H2_) | with_reducible exact H | (rw [hy1579]; exact H) | exact H
           have Ny1579 := Aside0.mk hy1579
           clear hy1579
           by_cases c72 : y1576.length + y1579.length < 4398046511104
           ·rw [if_pos c72] at H
            have LMc72 := Aside0.mk c72
            clear c72
            obtain ⟨y1583, hy1583⟩ : ∃ y_ : List (S49), y_ = (y1576 ++ y1579) := ⟨_, rfl⟩
            replace H : (if 0 ≤ (wrap64 ((ji69) + 1)) then (if (wrap64 ((ji69) + 1)) ≤ (t1543.length : Int) then ((some (t1543.drop ((wrap64 ((ji69) + 1)) : Int).toNat : List (S49))).bind fun y1586 => (if y1583.length + y1586.length < 4398046511104 then (tolllaw06_RuleLess.j1 kj39 t1537 t1538 t1539 t1540 t1543 t1546 t1547 t1548 t1549 t1552 t1537 t1538 t1539 t1540 (y1583 ++ y1586)) else (none))) else (none)) else (none)) = some r := by first | (rw [hy1583]; with_reducible exact H) | (have H2_ := (Option.bind_some _ _).symm.trans H; rw [hy1583]; with_reducible exact H2_) | (have H2_ := (Option.bind_some _ _).symm.trans H; with_reducible exact H2_) | with_reducible exact H | (rw [hy1583]; exact H) | exact H
            have Ny1583 := Aside0.mk hy1583
            clear hy1583
            obtain ⟨ji73, hji73⟩ : ∃ j_ : Int, (wrap64 ((ji69) + 1)) = j_ := ⟨_, rfl⟩
            replace H : (if 0 ≤ (ji73) then (if (ji73) ≤ (t1543.length : Int) then ((some (t1543.drop ((ji73) : Int).toNat : List (S49))).bind fun y1586 => (if y1583.length + y1586.length < 4398046511104 then (tolllaw06_RuleLess.j1 kj39 t1537 t1538 t1539 t1540 t1543 t1546 t1547 t1548 t1549 t1552 t1537 t1538 t1539 t1540 (y1583 ++ y1586)) else (none))) else (none)) else (none)) = some r := by first | (rw [hji73] at H; exact H) | (simp only [hji73] at H ⊢; exact H)
            have hji73w : (IntKind.i64.wrap ((ji69) + 1)) = ji73 := (i64_w _).trans hji73
            by_cases c74 : 0 ≤ (ji73)
            ·rw [if_pos c74] at H
             have c74b0 := eq_true c74
             have c74b1 : decide (0 ≤ (ji73)) = true := decide_eq_true c74
             clear c74
             by_cases c75 : (ji73) ≤ (t1543.length : Int)
             ·rw [if_pos c75] at H
              have c75b0 := eq_true c75
              have c75b1 : decide ((ji73) ≤ (t1543.length : Int)) = true := decide_eq_true c75
              clear c75
              obtain ⟨y1586, hy1586⟩ : ∃ y_ : List (S49), y_ = (t1543.drop ((ji73) : Int).toNat) := ⟨_, rfl⟩
              replace H : (if y1583.length + y1586.length < 4398046511104 then (tolllaw06_RuleLess.j1 kj39 t1537 t1538 t1539 t1540 t1543 t1546 t1547 t1548 t1549 t1552 t1537 t1538 t1539 t1540 (y1583 ++ y1586)) else (none)) = some r := by first | (rw [hy1586]; with_reducible exact H) | (have H2_ := (Option.bind_some _ _).symm.trans H; rw [hy1586]; with_reducible exact H2_) | (have H2_ := (Option.bind_some _ _).symm.trans H; with_reducible exact H2_) | with_reducible exact H | (rw [hy1586]; exact H) | exact H
              have Ny1586 := Aside0.mk hy1586
              clear hy1586
              by_cases c76 : y1583.length + y1586.length < 4398046511104
              ·rw [if_pos c76] at H
               have LMc76 := Aside0.mk c76
               clear c76
               obtain ⟨y1590, hy1590⟩ : ∃ y_ : List (S49), y_ = (y1583 ++ y1586) := ⟨_, rfl⟩
               replace H : (tolllaw06_RuleLess.j1 kj39 t1537 t1538 t1539 t1540 t1543 t1546 t1547 t1548 t1549 t1552 t1537 t1538 t1539 t1540 y1590) = some r := by first | (rw [hy1590]; with_reducible exact H) | (have H2_ := (Option.bind_some _ _).symm.trans H; rw [hy1590]; with_reducible exact H2_) | (have H2_ := (Option.bind_some _ _).symm.trans H; with_reducible exact H2_) | with_reducible exact H | (rw [hy1590]; exact H) | exact H
               have Ny1590 := Aside0.mk hy1590
               clear hy1590
               have H' := Aside0.mk H
               clear H
               have hnb77 := NB1535_1536.out
               have hnc77 := NB1536_1535.out
               have hnb78 := NB1535_1558.out
               have hnc78 := NB1558_1535.out
               have hcz79_0 : wc.cell? ⟨gb1535, 0, none⟩ = some (.int .i64 t1537) := (blk_cell BK1535.out 0).trans rfl
               have hcz79_1 : wc.cell? ⟨gb1535, 1, none⟩ = some (.string t1538) := (blk_cell BK1535.out 1).trans rfl
               have hcz79_2 : wc.cell? ⟨gb1535, 2, none⟩ = some (.string t1539) := (blk_cell BK1535.out 2).trans rfl
               have hcz79_3 : wc.cell? ⟨gb1535, 3, none⟩ = some (.slice Ao17 t1540.length co17) := (blk_cell BK1535.out 3).trans rfl
               have hcz79_4 : wc.cell? ⟨gb1535, 4, none⟩ = some (.slice Ao19 t1543.length co19) := (blk_cell BK1535.out 4).trans rfl
               have hfz79_0 := blk_frozen BK1535.out 0
               have hfz79_1 := blk_frozen BK1535.out 1
               have hfz79_2 := blk_frozen BK1535.out 2
               have hfz79_3 := blk_frozen BK1535.out 3
               have hfz79_4 := blk_frozen BK1535.out 4
               try go_wp2
               have n0_ := am_ (Kd.R_drew HO_1536003.out)
               have n1_ := am_ (Kd.R_drew HO_1536004.out)
               have n2_ := am_ (Kd.R_drew HO_1537003.out)
               have n3_ := am_ (Kd.R_drew HO_1537004.out)
               have n4_ := am_ (Kd.R_drew HO_1559003.out)
               have n5_ := am_ (Kd.R_drew HO_1559004.out)
               have n6_ := am_ (blk_drew BK1535.out)
               have n7_ := am_ (blk_drew BK1536.out)
               have n8_ := am_ (blk_drew BK1558.out)
               have n9_ := am_ (below_drew1 HB.out)
               clear HO_1536003 HO_1536004 HO_1537003 HO_1537004 HO_1559003 HO_1559004 BK1535 BK1536 BK1558 HB
               have HO_1536003 := n0_
               have HO_1536004 := n1_
               have HO_1537003 := n2_
               have HO_1537004 := n3_
               have HO_1559003 := n4_
               have HO_1559004 := n5_
               have BK1535 := n6_
               have BK1536 := n7_
               have BK1558 := n8_
               have HB := n9_
               clear n0_ n1_ n2_ n3_ n4_ n5_ n6_ n7_ n8_ n9_
               have q81 : ((ji69) : Int) ≤ ((t1543.length : Int) : Int) := of_decide_eq_true as_
               obtain ⟨i081, hi081, _, hsz81, _⟩ := info_parts info49
               have hroom81 : t1543.length ≤ co19 := (Kd.R_reads' HO_1536004.out).2.1
               have hC81 : Kd.C k49 _ Ao19 t1543.length t1543 := (Kd.R_reads' HO_1536004.out).2.2
               have hcut81 := cut_to (P := Tryd.prog) 24 49 .i64 Tryd.underlying24 hi081 Ao19 t1543.length co19 (ji69) (of_decide_eq_true as_) q81 hroom81
               have hr81 := Kd.C_take (m := ((ji69) : Int).toNat) hC81 (by omega)
               have hy81 : y1579.length = ((ji69) : Int).toNat := (by rw [Ny1579.out, List.length_take]; omega)
               rw [← Ny1579.out] at hr81
               rw [← hy81] at hcut81
               have HR1582 := Aside0.mk hr81
               have HC1582 := am_ (show y1579.length ≤ co19 from by omega)
               clear hr81 hC81 hroom81 hi081 hsz81
               have KY81 := Aside0.mk hy81
               clear hy81
               have KL81 := am_ (show ((ji69) : Int).toNat ≤ t1543.length from by omega)
               replace q81 := eq_true q81
               have q82 : ((ji73) : Int) ≤ ((t1543.length : Int) : Int) := of_decide_eq_true as_
               obtain ⟨i082, hi082, _, hsz82, _⟩ := info_parts info49
               have hroom82 : t1543.length ≤ co19 := (Kd.R_reads' HO_1536004.out).2.1
               have hC82 : Kd.C k49 _ Ao19 t1543.length t1543 := (Kd.R_reads' HO_1536004.out).2.2
               have q082 : (0 : Int) ≤ ((ji73) : Int) := of_decide_eq_true as_
               have hcut82 := cut_from (P := Tryd.prog) 24 49 .i64 Tryd.underlying24 hi082 2 hsz82 Ao19 t1543.length co19 (ji73) q082 q82
               have hr82 := Kd.C_drop (m := ((ji73) : Int).toNat) (c := co19) hC82 (by omega) hroom82
               obtain ⟨A82, hA82⟩ : ∃ A1, A1 = (if co19 = ((ji73) : Int).toNat then Ao19 else (Ao19 : Option Addr).map (·.add (((ji73) : Int).toNat * 2))) := ⟨_, rfl⟩
               obtain ⟨c82, hc82⟩ : ∃ c1, c1 = co19 - ((ji73) : Int).toNat := ⟨_, rfl⟩
               have hy82 : y1586.length = t1543.length - ((ji73) : Int).toNat := (by rw [Ny1586.out, List.length_drop] <;> omega)
               rw [show (t1543).drop ((ji73) : Int).toNat = y1586 from Ny1586.out.symm] at hr82
               replace hr82 : Kd.C k49 _ A82 y1586.length y1586 := (by rw [hA82]; exact hr82)
               rw [← hy82, ← hA82, ← hc82] at hcut82
               have HR1589 := Aside0.mk hr82
               have HC1589 := am_ (show y1586.length ≤ c82 from by rw [hy82, hc82]; exact Nat.sub_le_sub_right hroom82 _)
               clear hr82 hC82 hroom82 hi082 hsz82 hc82
               have KY82 := Aside0.mk hy82
               have KA82 := Aside0.mk hA82
               clear hy82 hA82
               have KL82 := am_ (show ((ji73) : Int).toNat ≤ t1543.length from by omega)
               replace q82 := eq_true q82
               refine start_ (n := 14) (S := fun w' => w'.cell? ⟨gb1535, 0, none⟩ = some (.int .i64 t1537) ∧ w'.cell? ⟨gb1535, 1, none⟩ = some (.string t1538) ∧ w'.cell? ⟨gb1535, 2, none⟩ = some (.string t1539) ∧ w'.cell? ⟨gb1535, 3, none⟩ = some (.slice Ao17 t1540.length co17) ∧ w'.cell? ⟨gb1535, 4, none⟩ = some (.slice Ao19 t1543.length co19)) (ds := []) #[false, false, false, false, false, false, false, false, false, false, false, false, false, false] kr_ rfl rfl ⟨(blk_cell BK1535.out 0).trans rfl, (blk_cell BK1535.out 1).trans rfl, (blk_cell BK1535.out 2).trans rfl, (blk_cell BK1535.out 3).trans rfl, (blk_cell BK1535.out 4).trans rfl⟩ (fun hHeld => ?_); refine with_tabW tolllaw06_RuleLess.tab12 tolllaw06_RuleLess.bits12 (fun HT_ HW_ => ?_)
               generalize wc.drew = w80 at HO_1536003 HO_1536004 HO_1537003 HO_1537004 HO_1559003 HO_1559004 BK1535 BK1536 BK1558 HB HR1582 HR1589 hHeld ⊢
               refine pure_ (i := 1) (N := some 73) (v := ?_) (a' := ?_) #[false, true, false, false, false, false, false, false, false, false, false, false, false, false] rfl rfl (any_of HT_.out kr_) (fun _ _ _ h => h) (Or.inl ⟨by rfl, ?_⟩) ?_ ?_
               rotate_left
               ·intro w'
                go_simp
                with_reducible rfl
               rotate_left
               ·simp only [Act.put, sx_, s0_, s1_, i64_w, i32_w]
                rfl
               refine pure_ (i := 3) (N := some 75) (v := ?_) (a' := ?_) #[false, true, false, true, false, false, false, false, false, false, false, false, false, false] rfl rfl (any_of HT_.out kr_) (fun _ _ _ h => h) (Or.inl ⟨by rfl, ?_⟩) ?_ ?_
               rotate_left
               ·intro w'
                go_simp
                with_reducible rfl
               rotate_left
               ·simp only [Act.put, sx_, s0_, s1_, i64_w, i32_w]
                rfl
               refine pure_ (i := 6) (N := some 78) (v := ?_) (a' := ?_) #[false, true, false, true, false, false, true, false, false, false, false, false, false, false] rfl rfl (any_of HT_.out kr_) (fun _ _ _ h => h) (Or.inl ⟨by rfl, ?_⟩) ?_ ?_
               rotate_left
               ·intro w'
                go_simp
                with_reducible rfl
               rotate_left
               ·simp only [Act.put, sx_, s0_, s1_, i64_w, i32_w]
                rfl
               refine pure_ (i := 8) (N := some 80) (v := ?_) (a' := ?_) #[false, true, false, true, false, false, true, false, true, false, false, false, false, false] rfl rfl (any_of HT_.out kr_) (fun _ _ _ h => h) (Or.inl ⟨by rfl, ?_⟩) ?_ ?_
               rotate_left
               ·intro w'
                go_simp
                with_reducible rfl
               rotate_left
               ·simp only [Act.put, sx_, s0_, s1_, i64_w, i32_w]
                rfl
               refine pure_ (i := 9) (N := some 81) (v := ?_) (a' := ?_) #[false, true, false, true, false, false, true, false, true, true, false, false, false, false] rfl rfl (any_of HT_.out kr_) (fun _ _ _ h => h) (Or.inl ⟨by rfl, ?_⟩) ?_ ?_
               rotate_left
               ·intro w'
                go_simp
                with_reducible rfl
               rotate_left
               ·simp only [Act.put, sx_, s0_, s1_, i64_w, i32_w]
                rfl
               refine take_ (i := 2) (N := some 74) (v := ?_) (a' := ?_) #[false, true, true, true, false, false, true, false, true, true, false, false, false, false] rfl rfl (take_ofW HT_.out HW_.out kr_) (fun _ _ _ h => h) (Or.inl ⟨by rfl, ?_⟩) hHeld ?_ ?_
               rotate_left
               ·rintro w' ⟨s0, s1, s2, s3, s4⟩
                go_simp
                with_reducible rfl
               rotate_left
               ·simp only [Act.put, sx_, s0_, s1_, i64_w, i32_w]
                rfl
               refine pure_ (i := 4) (N := some 76) (v := ?_) (a' := ?_) #[false, true, true, true, true, false, true, false, true, true, false, false, false, false] rfl rfl (any_of HT_.out kr_) (fun _ _ _ h => h) (Or.inl ⟨by rfl, ?_⟩) ?_ ?_
               rotate_left
               ·intro w'
                go_simp
                with_reducible rfl
               rotate_left
               ·simp only [Act.put, sx_, s0_, s1_, i64_w, i32_w]
                rfl
               refine take_ (i := 7) (N := some 79) (v := ?_) (a' := ?_) #[false, true, true, true, true, false, true, true, true, true, false, false, false, false] rfl rfl (take_ofW HT_.out HW_.out kr_) (fun _ _ _ h => h) (Or.inl ⟨by rfl, ?_⟩) hHeld ?_ ?_
               rotate_left
               ·rintro w' ⟨s0, s1, s2, s3, s4⟩
                go_simp
                with_reducible rfl
               rotate_left
               ·simp only [Act.put, sx_, s0_, s1_, i64_w, i32_w]
                rfl
               refine pure_ (i := 10) (N := some 82) (v := ?_) (a' := ?_) #[false, true, true, true, true, false, true, true, true, true, true, false, false, false] rfl rfl (any_of HT_.out kr_) (fun _ _ _ h => h) (Or.inl ⟨by rfl, ?_⟩) ?_ ?_
               rotate_left
               ·intro w'
                go_simp
                with_reducible rfl
               rotate_left
               ·simp only [Act.put, sx_, s0_, s1_, i64_w, i32_w]
                rfl
               refine one_ (i := 0) (N := some 72) #[true, true, true, true, true, false, true, true, true, true, true, false, false, false] rfl rfl (one_of HT_.out kr_) (by decide) (fun K hK => ?_)
               refine Kd.R_lit_step k49 _ 49 ?hg (N := 72) ?hd (xs := ([] : List (S49))) (inner := []) (ok := fun _ => True) (okp := fun _ => True) ?hr ?hp (fun _ hk => hk) trivial (Below.refl _ _) (Nat.le_refl _) (by simp) ?_; (case hd => rfl); (case hg => rfl); (case hr => first | (go_simp; done) | (go_simp; rfl)); (case hp => exact (Reps.none _ _))
               intro v1577 w83 ho84 hb hg_ hnew_
               clear hg_ hnew_
               (first | rw [← Ny1576.out] at ho84 | (simp only [Int.reduceToNat] at ho84; rw [← Ny1576.out] at ho84))
               have n0_ := am_ (Kd.R_elder' (R_ HO_1536003.out) (Kd.R_base ho84) hb)
               have n1_ := am_ (Kd.R_elder' (R_ HO_1536004.out) (Kd.R_base ho84) hb)
               have n2_ := am_ (Kd.R_elder' (R_ HO_1537003.out) (Kd.R_base ho84) hb)
               have n3_ := am_ (Kd.R_elder' (R_ HO_1537004.out) (Kd.R_base ho84) hb)
               have n4_ := am_ (Kd.R_elder' (R_ HO_1559003.out) (Kd.R_base ho84) hb)
               have n5_ := am_ (Kd.R_elder' (R_ HO_1559004.out) (Kd.R_base ho84) hb)
               have n6_ := am_ (Kd.R_lower (Kd.R_new' (Kd.R_new' (Kd.R_new' (Kd.R_new' (Kd.R_new' (Kd.R_new' ho84 (Kd.R_lt (R_ HO_1536003.out))) (Kd.R_lt (R_ HO_1536004.out))) (Kd.R_lt (R_ HO_1537003.out))) (Kd.R_lt (R_ HO_1537004.out))) (Kd.R_lt (R_ HO_1559003.out))) (Kd.R_lt (R_ HO_1559004.out))) (below_size (bel_ HB.out)))
               have n7_ := am_ (blk_below (g := gb1535) (o := .cells #[.int .i64 t1537, .string t1538, .string t1539, .slice Ao17 t1540.length co17, .slice Ao19 t1543.length co19] 26 (0, 0)) (blk_ BK1535.out) hb)
               have n8_ := am_ (blk_below (g := gb1536) (o := .cells #[.string t1546, .string t1547, .string t1548, .slice Ao24 t1549.length co24, .slice Ao26 t1552.length co26] 28 (0, 0)) (blk_ BK1536.out) hb)
               have n9_ := am_ (blk_below (g := gb1558) (o := .cells #[.int .i64 t1537, .string t1538, .string t1539, .slice Ao17 t1540.length co17, .slice Ao19 t1543.length co19] 26 (0, 0)) (blk_ BK1558.out) hb)
               have n10_ := am_ (Kd.C_below (by repeat (first | (with_reducible exact HR1582.out) | (with_reducible refine Kd.C_alloc ?_ _) | (with_reducible refine Kd.C_drewN ?_ _) | (with_reducible refine Kd.C_drew ?_) | exact HR1582.out)) hb)
               have n11_ := am_ (Kd.C_below (by repeat (first | (with_reducible exact HR1589.out) | (with_reducible refine Kd.C_alloc ?_ _) | (with_reducible refine Kd.C_drewN ?_ _) | (with_reducible refine Kd.C_drew ?_) | exact HR1589.out)) hb)
               have n12_ := am_ (below_step (bel_ HB.out) hb)
               clear HO_1536003 HO_1536004 HO_1537003 HO_1537004 HO_1559003 HO_1559004 BK1535 BK1536 BK1558 HR1582 HR1589 HB
               have HO_1536003 := n0_
               have HO_1536004 := n1_
               have HO_1537003 := n2_
               have HO_1537004 := n3_
               have HO_1559003 := n4_
               have HO_1559004 := n5_
               have HO1578 := n6_
               have BK1535 := n7_
               have BK1536 := n8_
               have BK1558 := n9_
               have HR1582 := n10_
               have HR1589 := n11_
               have HB := n12_
               clear n0_ n1_ n2_ n3_ n4_ n5_ n6_ n7_ n8_ n9_ n10_ n11_ n12_ hb ho84
               refine hK.out _ _ ⟨(blk_cell BK1535.out 0).trans rfl, (blk_cell BK1535.out 1).trans rfl, (blk_cell BK1535.out 2).trans rfl, (blk_cell BK1535.out 3).trans rfl, (blk_cell BK1535.out 4).trans rfl⟩ (fun hHeld => ?_)
               clear hK K
               refine norm_ (a' := ?_) ?_ ?_
               rotate_left
               ·show Act.put _ (some 72) _ = _
                simp only [Act.put, sx_, s0_, s1_, i64_w, i32_w]
                rfl
               refine one_ (i := 5) (N := some 77) #[true, true, true, true, true, true, true, true, true, true, true, false, false, false] rfl rfl (one_of HT_.out kr_) (by decide) (fun K hK => ?_)
               refine Kd.R_append_rows_step k49 (w0 := w) w.heap.size (by rfl) (.tmp 72) (.tmp 76) 24 49 (.agg #[(.string ⟨#[]⟩), (.string ⟨#[]⟩)]) 32 rfl Tryd.underlying24 info49 rfl (by decide) (by omega) v1577 y1576 y1579 _ _ _ (fun k_ => some k_ ≠ (.slice Ao17 t1540.length co17 : Value).ownBlock ∧ some k_ ≠ (.slice Ao19 t1543.length co19 : Value).ownBlock ∧ some k_ ≠ (.slice Ao24 t1549.length co24 : Value).ownBlock ∧ some k_ ≠ (.slice Ao26 t1552.length co26 : Value).ownBlock ∧ some k_ ≠ (.slice Ao17 t1540.length co17 : Value).ownBlock ∧ some k_ ≠ (.slice Ao19 t1543.length co19 : Value).ownBlock) (fun _ => False) rfl rfl ?aO ?aR (fun _ _ h => h) (fun _ h => h.elim) ?aF ?aB ?aS ?aL ?_
               (case aR => repeat (first | exact (by repeat (first | (with_reducible exact HR1582.out) | (with_reducible refine Kd.C_alloc ?_ _) | (with_reducible refine Kd.C_drewN ?_ _) | (with_reducible refine Kd.C_drew ?_) | exact HR1582.out)) | (with_reducible refine Kd.C_alloc ?_ _) | (with_reducible refine Kd.C_drewN ?_ _) | (with_reducible refine Kd.C_drew ?_)))
               (case aB => exact (bel_ HB.out))
               (case aF => exact (fun k_ hk => ⟨Kd.fresh' (Kd.R_lt (R_ HO_1536003.out)) k_ hk, Kd.fresh' (Kd.R_lt (R_ HO_1536004.out)) k_ hk, Kd.fresh' (Kd.R_lt (R_ HO_1537003.out)) k_ hk, Kd.fresh' (Kd.R_lt (R_ HO_1537004.out)) k_ hk, Kd.fresh' (Kd.R_lt (R_ HO_1559003.out)) k_ hk, Kd.fresh' (Kd.R_lt (R_ HO_1559004.out)) k_ hk⟩))
               (case aO => exact (by (with_reducible repeat (first | apply Kd.R_alloc | apply Kd.R_drewN | apply Kd.R_drew)); exact Kd.R_mono HO1578.out (fun _ hk => ⟨hk.1.1.1.1.1.2, ⟨hk.1.1.1.1.2, ⟨hk.1.1.1.2, ⟨hk.1.1.2, ⟨hk.1.2, hk.2⟩⟩⟩⟩⟩)))
               (case aS => exact (below_size (bel_ HB.out)))
               (case aL => have := LMc72.out; omega)
               intro v1584 w85 ho hb hg hat
               rw [← Ny1583.out] at ho
               have n0_ := am_ (Kd.R_after (ok := (fun k_ => some k_ ≠ (.slice Ao19 t1543.length co19 : Value).ownBlock ∧ some k_ ≠ (.slice Ao24 t1549.length co24 : Value).ownBlock ∧ some k_ ≠ (.slice Ao26 t1552.length co26 : Value).ownBlock ∧ some k_ ≠ (.slice Ao19 t1543.length co19 : Value).ownBlock)) (R_ HO_1536003.out) hg hat)
               have n1_ := am_ (Kd.R_after (ok := (fun k_ => some k_ ≠ (.slice Ao17 t1540.length co17 : Value).ownBlock ∧ some k_ ≠ (.slice Ao24 t1549.length co24 : Value).ownBlock ∧ some k_ ≠ (.slice Ao26 t1552.length co26 : Value).ownBlock ∧ some k_ ≠ (.slice Ao17 t1540.length co17 : Value).ownBlock)) (R_ HO_1536004.out) hg hat)
               have n2_ := am_ (Kd.R_after (ok := (fun k_ => some k_ ≠ (.slice Ao17 t1540.length co17 : Value).ownBlock ∧ some k_ ≠ (.slice Ao19 t1543.length co19 : Value).ownBlock ∧ some k_ ≠ (.slice Ao26 t1552.length co26 : Value).ownBlock ∧ some k_ ≠ (.slice Ao17 t1540.length co17 : Value).ownBlock ∧ some k_ ≠ (.slice Ao19 t1543.length co19 : Value).ownBlock)) (R_ HO_1537003.out) hg hat)
               have n3_ := am_ (Kd.R_after (ok := (fun k_ => some k_ ≠ (.slice Ao17 t1540.length co17 : Value).ownBlock ∧ some k_ ≠ (.slice Ao19 t1543.length co19 : Value).ownBlock ∧ some k_ ≠ (.slice Ao24 t1549.length co24 : Value).ownBlock ∧ some k_ ≠ (.slice Ao17 t1540.length co17 : Value).ownBlock ∧ some k_ ≠ (.slice Ao19 t1543.length co19 : Value).ownBlock)) (R_ HO_1537004.out) hg hat)
               have n4_ := am_ (Kd.R_after (ok := (fun k_ => some k_ ≠ (.slice Ao19 t1543.length co19 : Value).ownBlock ∧ some k_ ≠ (.slice Ao24 t1549.length co24 : Value).ownBlock ∧ some k_ ≠ (.slice Ao26 t1552.length co26 : Value).ownBlock ∧ some k_ ≠ (.slice Ao19 t1543.length co19 : Value).ownBlock)) (R_ HO_1559003.out) hg hat)
               have n5_ := am_ (Kd.R_after (ok := (fun k_ => some k_ ≠ (.slice Ao17 t1540.length co17 : Value).ownBlock ∧ some k_ ≠ (.slice Ao24 t1549.length co24 : Value).ownBlock ∧ some k_ ≠ (.slice Ao26 t1552.length co26 : Value).ownBlock ∧ some k_ ≠ (.slice Ao17 t1540.length co17 : Value).ownBlock)) (R_ HO_1559004.out) hg hat)
               have n6_ := am_ (blk_grown (g := gb1535) (o := .cells #[.int .i64 t1537, .string t1538, .string t1539, .slice Ao17 t1540.length co17, .slice Ao19 t1543.length co19] 26 (0, 0)) (blk_ BK1535.out) hg (Kd.R_ne HO1578.out BK1535.out (by decide)))
               have n7_ := am_ (blk_grown (g := gb1536) (o := .cells #[.string t1546, .string t1547, .string t1548, .slice Ao24 t1549.length co24, .slice Ao26 t1552.length co26] 28 (0, 0)) (blk_ BK1536.out) hg (Kd.R_ne HO1578.out BK1536.out (by decide)))
               have n8_ := am_ (blk_grown (g := gb1558) (o := .cells #[.int .i64 t1537, .string t1538, .string t1539, .slice Ao17 t1540.length co17, .slice Ao19 t1543.length co19] 26 (0, 0)) (blk_ BK1558.out) hg (Kd.R_ne HO1578.out BK1558.out (by decide)))
               have n9_ := am_ (hb)
               have n10_ := am_ ((show Kd.C k49 w85 Ao19 y1579.length y1579 from by rw [Ny1579.out]; exact Kd.C_take (m := ((ji69) : Int).toNat) ((Kd.R_reads' (Kd.R_after (ok := (fun k_ => some k_ ≠ (.slice Ao17 t1540.length co17 : Value).ownBlock ∧ some k_ ≠ (.slice Ao24 t1549.length co24 : Value).ownBlock ∧ some k_ ≠ (.slice Ao26 t1552.length co26 : Value).ownBlock ∧ some k_ ≠ (.slice Ao17 t1540.length co17 : Value).ownBlock)) (R_ HO_1536004.out) hg hat)).2.2) KL81.out))
               have n11_ := am_ ((show Kd.C k49 w85 A82 y1586.length y1586 from by rw [Ny1586.out, KA82.out]; exact Kd.C_drop (m := ((ji73) : Int).toNat) (c := co19) ((Kd.R_reads' (Kd.R_after (ok := (fun k_ => some k_ ≠ (.slice Ao17 t1540.length co17 : Value).ownBlock ∧ some k_ ≠ (.slice Ao24 t1549.length co24 : Value).ownBlock ∧ some k_ ≠ (.slice Ao26 t1552.length co26 : Value).ownBlock ∧ some k_ ≠ (.slice Ao17 t1540.length co17 : Value).ownBlock)) (R_ HO_1536004.out) hg hat)).2.2) KL82.out ((Kd.R_reads' (Kd.R_after (ok := (fun k_ => some k_ ≠ (.slice Ao17 t1540.length co17 : Value).ownBlock ∧ some k_ ≠ (.slice Ao24 t1549.length co24 : Value).ownBlock ∧ some k_ ≠ (.slice Ao26 t1552.length co26 : Value).ownBlock ∧ some k_ ≠ (.slice Ao17 t1540.length co17 : Value).ownBlock)) (R_ HO_1536004.out) hg hat)).2.1)))
               have n12_ := am_ (ho)
               clear HO_1536003 HO_1536004 HO_1537003 HO_1537004 HO_1559003 HO_1559004 BK1535 BK1536 BK1558 HB HR1582 HR1589 HO1578
               have HO_1536003 := n0_
               have HO_1536004 := n1_
               have HO_1537003 := n2_
               have HO_1537004 := n3_
               have HO_1559003 := n4_
               have HO_1559004 := n5_
               have BK1535 := n6_
               have BK1536 := n7_
               have BK1558 := n8_
               have HB := n9_
               have HR1582 := n10_
               have HR1589 := n11_
               have HO1585 := n12_
               clear n0_ n1_ n2_ n3_ n4_ n5_ n6_ n7_ n8_ n9_ n10_ n11_ n12_ ho hb hg hat
               refine hK.out _ _ ⟨(blk_cell BK1535.out 0).trans rfl, (blk_cell BK1535.out 1).trans rfl, (blk_cell BK1535.out 2).trans rfl, (blk_cell BK1535.out 3).trans rfl, (blk_cell BK1535.out 4).trans rfl⟩ (fun hHeld => ?_)
               clear hK K
               refine norm_ (a' := ?_) ?_ ?_
               rotate_left
               ·show Act.put _ (some 77) _ = _
                simp only [Act.put, sx_, s0_, s1_, i64_w, i32_w]
                rfl
               refine one_ (i := 11) (N := some 83) #[true, true, true, true, true, true, true, true, true, true, true, true, false, false] rfl rfl (one_of HT_.out kr_) (by decide) (fun K hK => ?_)
               refine Kd.R_append_rows_step k49 (w0 := w) w.heap.size (by rfl) (.tmp 77) (.tmp 82) 24 49 (.agg #[(.string ⟨#[]⟩), (.string ⟨#[]⟩)]) 32 rfl Tryd.underlying24 info49 rfl (by decide) (by omega) v1584 y1583 y1586 _ _ _ (fun k_ => some k_ ≠ (.slice Ao17 t1540.length co17 : Value).ownBlock ∧ some k_ ≠ (.slice Ao19 t1543.length co19 : Value).ownBlock ∧ some k_ ≠ (.slice Ao24 t1549.length co24 : Value).ownBlock ∧ some k_ ≠ (.slice Ao26 t1552.length co26 : Value).ownBlock ∧ some k_ ≠ (.slice Ao17 t1540.length co17 : Value).ownBlock ∧ some k_ ≠ (.slice Ao19 t1543.length co19 : Value).ownBlock) (fun _ => False) rfl rfl ?aO ?aR (fun _ _ h => h) (fun _ h => h.elim) ?aF ?aB ?aS ?aL ?_
               (case aR => repeat (first | exact (by repeat (first | (with_reducible exact HR1589.out) | (with_reducible refine Kd.C_alloc ?_ _) | (with_reducible refine Kd.C_drewN ?_ _) | (with_reducible refine Kd.C_drew ?_) | exact HR1589.out)) | (with_reducible refine Kd.C_alloc ?_ _) | (with_reducible refine Kd.C_drewN ?_ _) | (with_reducible refine Kd.C_drew ?_)))
               (case aB => exact (bel_ HB.out))
               (case aF => exact (fun k_ hk => ⟨Kd.fresh' (Kd.R_lt (R_ HO_1536003.out)) k_ hk, Kd.fresh' (Kd.R_lt (R_ HO_1536004.out)) k_ hk, Kd.fresh' (Kd.R_lt (R_ HO_1537003.out)) k_ hk, Kd.fresh' (Kd.R_lt (R_ HO_1537004.out)) k_ hk, Kd.fresh' (Kd.R_lt (R_ HO_1559003.out)) k_ hk, Kd.fresh' (Kd.R_lt (R_ HO_1559004.out)) k_ hk⟩))
               (case aO => exact (R_ HO1585.out))
               (case aS => exact (below_size (bel_ HB.out)))
               (case aL => have := LMc76.out; omega)
               intro v1591 w86 ho hb hg hat
               rw [← Ny1590.out] at ho
               have n0_ := am_ (Kd.R_after (ok := (fun k_ => some k_ ≠ (.slice Ao19 t1543.length co19 : Value).ownBlock ∧ some k_ ≠ (.slice Ao24 t1549.length co24 : Value).ownBlock ∧ some k_ ≠ (.slice Ao26 t1552.length co26 : Value).ownBlock ∧ some k_ ≠ (.slice Ao19 t1543.length co19 : Value).ownBlock)) (R_ HO_1536003.out) hg hat)
               have n1_ := am_ (Kd.R_after (ok := (fun k_ => some k_ ≠ (.slice Ao17 t1540.length co17 : Value).ownBlock ∧ some k_ ≠ (.slice Ao24 t1549.length co24 : Value).ownBlock ∧ some k_ ≠ (.slice Ao26 t1552.length co26 : Value).ownBlock ∧ some k_ ≠ (.slice Ao17 t1540.length co17 : Value).ownBlock)) (R_ HO_1536004.out) hg hat)
               have n2_ := am_ (Kd.R_after (ok := (fun k_ => some k_ ≠ (.slice Ao17 t1540.length co17 : Value).ownBlock ∧ some k_ ≠ (.slice Ao19 t1543.length co19 : Value).ownBlock ∧ some k_ ≠ (.slice Ao26 t1552.length co26 : Value).ownBlock ∧ some k_ ≠ (.slice Ao17 t1540.length co17 : Value).ownBlock ∧ some k_ ≠ (.slice Ao19 t1543.length co19 : Value).ownBlock)) (R_ HO_1537003.out) hg hat)
               have n3_ := am_ (Kd.R_after (ok := (fun k_ => some k_ ≠ (.slice Ao17 t1540.length co17 : Value).ownBlock ∧ some k_ ≠ (.slice Ao19 t1543.length co19 : Value).ownBlock ∧ some k_ ≠ (.slice Ao24 t1549.length co24 : Value).ownBlock ∧ some k_ ≠ (.slice Ao17 t1540.length co17 : Value).ownBlock ∧ some k_ ≠ (.slice Ao19 t1543.length co19 : Value).ownBlock)) (R_ HO_1537004.out) hg hat)
               have n4_ := am_ (Kd.R_after (ok := (fun k_ => some k_ ≠ (.slice Ao19 t1543.length co19 : Value).ownBlock ∧ some k_ ≠ (.slice Ao24 t1549.length co24 : Value).ownBlock ∧ some k_ ≠ (.slice Ao26 t1552.length co26 : Value).ownBlock ∧ some k_ ≠ (.slice Ao19 t1543.length co19 : Value).ownBlock)) (R_ HO_1559003.out) hg hat)
               have n5_ := am_ (Kd.R_after (ok := (fun k_ => some k_ ≠ (.slice Ao17 t1540.length co17 : Value).ownBlock ∧ some k_ ≠ (.slice Ao24 t1549.length co24 : Value).ownBlock ∧ some k_ ≠ (.slice Ao26 t1552.length co26 : Value).ownBlock ∧ some k_ ≠ (.slice Ao17 t1540.length co17 : Value).ownBlock)) (R_ HO_1559004.out) hg hat)
               have n6_ := am_ (blk_grown (g := gb1535) (o := .cells #[.int .i64 t1537, .string t1538, .string t1539, .slice Ao17 t1540.length co17, .slice Ao19 t1543.length co19] 26 (0, 0)) (blk_ BK1535.out) hg (Kd.R_ne HO1585.out BK1535.out (by decide)))
               have n7_ := am_ (blk_grown (g := gb1536) (o := .cells #[.string t1546, .string t1547, .string t1548, .slice Ao24 t1549.length co24, .slice Ao26 t1552.length co26] 28 (0, 0)) (blk_ BK1536.out) hg (Kd.R_ne HO1585.out BK1536.out (by decide)))
               have n8_ := am_ (blk_grown (g := gb1558) (o := .cells #[.int .i64 t1537, .string t1538, .string t1539, .slice Ao17 t1540.length co17, .slice Ao19 t1543.length co19] 26 (0, 0)) (blk_ BK1558.out) hg (Kd.R_ne HO1585.out BK1558.out (by decide)))
               have n9_ := am_ (hb)
               have n10_ := am_ ((show Kd.C k49 w86 Ao19 y1579.length y1579 from by rw [Ny1579.out]; exact Kd.C_take (m := ((ji69) : Int).toNat) ((Kd.R_reads' (Kd.R_after (ok := (fun k_ => some k_ ≠ (.slice Ao17 t1540.length co17 : Value).ownBlock ∧ some k_ ≠ (.slice Ao24 t1549.length co24 : Value).ownBlock ∧ some k_ ≠ (.slice Ao26 t1552.length co26 : Value).ownBlock ∧ some k_ ≠ (.slice Ao17 t1540.length co17 : Value).ownBlock)) (R_ HO_1536004.out) hg hat)).2.2) KL81.out))
               have n11_ := am_ ((show Kd.C k49 w86 A82 y1586.length y1586 from by rw [Ny1586.out, KA82.out]; exact Kd.C_drop (m := ((ji73) : Int).toNat) (c := co19) ((Kd.R_reads' (Kd.R_after (ok := (fun k_ => some k_ ≠ (.slice Ao17 t1540.length co17 : Value).ownBlock ∧ some k_ ≠ (.slice Ao24 t1549.length co24 : Value).ownBlock ∧ some k_ ≠ (.slice Ao26 t1552.length co26 : Value).ownBlock ∧ some k_ ≠ (.slice Ao17 t1540.length co17 : Value).ownBlock)) (R_ HO_1536004.out) hg hat)).2.2) KL82.out ((Kd.R_reads' (Kd.R_after (ok := (fun k_ => some k_ ≠ (.slice Ao17 t1540.length co17 : Value).ownBlock ∧ some k_ ≠ (.slice Ao24 t1549.length co24 : Value).ownBlock ∧ some k_ ≠ (.slice Ao26 t1552.length co26 : Value).ownBlock ∧ some k_ ≠ (.slice Ao17 t1540.length co17 : Value).ownBlock)) (R_ HO_1536004.out) hg hat)).2.1)))
               have n12_ := am_ (ho)
               clear HO_1536003 HO_1536004 HO_1537003 HO_1537004 HO_1559003 HO_1559004 BK1535 BK1536 BK1558 HB HR1582 HR1589 HO1585
               have HO_1536003 := n0_
               have HO_1536004 := n1_
               have HO_1537003 := n2_
               have HO_1537004 := n3_
               have HO_1559003 := n4_
               have HO_1559004 := n5_
               have BK1535 := n6_
               have BK1536 := n7_
               have BK1558 := n8_
               have HB := n9_
               have HR1582 := n10_
               have HR1589 := n11_
               have HO1592 := n12_
               clear n0_ n1_ n2_ n3_ n4_ n5_ n6_ n7_ n8_ n9_ n10_ n11_ n12_ ho hb hg hat
               obtain ⟨Ao87, co87, eo87⟩ := Kd.R_slice HO1592.out
               (first | subst eo87 | (injection eo87 with f1_ f2_ f3_; have f4_ := f1_.symm; have f5_ := f3_.symm; clear f1_ f2_ f3_; subst f4_; subst f5_))
               refine hK.out _ _ ⟨(blk_cell BK1535.out 0).trans rfl, (blk_cell BK1535.out 1).trans rfl, (blk_cell BK1535.out 2).trans rfl, (blk_cell BK1535.out 3).trans rfl, (blk_cell BK1535.out 4).trans rfl⟩ (fun hHeld => ?_)
               clear hK K
               refine norm_ (a' := ?_) ?_ ?_
               rotate_left
               ·show Act.put _ (some 83) _ = _
                simp only [Act.put, sx_, s0_, s1_, i64_w, i32_w]
                rfl
               refine pure_ (i := 12) (N := some 84) (v := ?_) (a' := ?_) #[true, true, true, true, true, true, true, true, true, true, true, true, true, false] rfl rfl (any_of HT_.out kr_) (fun _ _ _ h => h) (Or.inl ⟨by rfl, ?_⟩) ?_ ?_
               rotate_left
               ·intro w'
                go_simp
                with_reducible rfl
               rotate_left
               ·simp only [Act.put, sx_, s0_, s1_, i64_w, i32_w]
                rfl
               refine one_ (i := 13) (N := none) #[true, true, true, true, true, true, true, true, true, true, true, true, true, true] rfl rfl (one_of HT_.out kr_) (by decide) (fun K hK => ?_)
               have hs88 : w86.cell? ⟨gb1558, 4, none⟩ = some (.slice Ao19 t1543.length co19) := (blk_cell BK1558.out 4).trans rfl
               have hfs88 := blk_frozen BK1558.out 4
               have hns88_0 := NB1535_1558.out
               have hns88_1 := NB1536_1558.out
               have hms88_0 := NB1558_1535.out
               have hms88_1 := NB1558_1536.out
               refine skip_ (w1 := ?_) (by rfl) rfl ?_ ?_
               rotate_left
               ·go_simp
                rfl
               refine hK.out _ _ ⟨((cell_far (p := ⟨gb1558, _, none⟩) NB1535_1558.out _).trans (hHeld.1)), ((cell_far (p := ⟨gb1558, _, none⟩) NB1535_1558.out _).trans (hHeld.2.1)), ((cell_far (p := ⟨gb1558, _, none⟩) NB1535_1558.out _).trans (hHeld.2.2.1)), ((cell_far (p := ⟨gb1558, _, none⟩) NB1535_1558.out _).trans (hHeld.2.2.2.1)), ((cell_far (p := ⟨gb1558, _, none⟩) NB1535_1558.out _).trans (hHeld.2.2.2.2))⟩ (fun hHeld => ?_)
               clear hK K
               refine done_ (done_of HT_.out kr_) ?_
               try go_wp2
               go_meet
               case rel => exact ⟨_, (t1539), (t1540), (y1590), (.slice Ao17 t1540.length co17), (.slice Ao87 y1590.length co87), H', ⟨by have := HJ39.out; first | omega | exact Nat.le_refl _⟩, ⟨by (with_reducible repeat (first | apply Kd.R_alloc | apply Kd.R_drewN | apply Kd.R_drew)); exact Kd.R_mono (Kd.R_far (p := ⟨gb1558, 4, none⟩) (Kd.R_types HO_1536003.out BK1558.out (by decide)) (fun _ hk => hk.2) (.slice Ao87 y1590.length co87)) (fun _ hk => by simp only [ne_eq] at hk; simp only [hk, ne_eq, not_false_eq_true, and_self])⟩, ⟨by (with_reducible repeat (first | apply Kd.R_alloc | apply Kd.R_drewN | apply Kd.R_drew)); exact Kd.R_mono (Kd.R_far (p := ⟨gb1558, 4, none⟩) (Kd.R_types HO_1536004.out BK1558.out (by decide)) (fun _ hk => hk.2) (.slice Ao87 y1590.length co87)) (fun _ hk => by simp only [ne_eq] at hk; simp only [hk, ne_eq, not_false_eq_true, and_self])⟩, ⟨by (with_reducible repeat (first | apply Kd.R_alloc | apply Kd.R_drewN | apply Kd.R_drew)); exact Kd.R_mono (Kd.R_far (p := ⟨gb1558, 4, none⟩) (Kd.R_types HO_1537003.out BK1558.out (by decide)) (fun _ hk => hk.2) (.slice Ao87 y1590.length co87)) (fun _ hk => by simp only [ne_eq] at hk; simp only [hk, ne_eq, not_false_eq_true, and_self])⟩, ⟨by (with_reducible repeat (first | apply Kd.R_alloc | apply Kd.R_drewN | apply Kd.R_drew)); exact Kd.R_mono (Kd.R_far (p := ⟨gb1558, 4, none⟩) (Kd.R_types HO_1537004.out BK1558.out (by decide)) (fun _ hk => hk.2) (.slice Ao87 y1590.length co87)) (fun _ hk => by simp only [ne_eq] at hk; simp only [hk, ne_eq, not_false_eq_true, and_self])⟩, ⟨by (with_reducible repeat (first | apply Kd.R_alloc | apply Kd.R_drewN | apply Kd.R_drew)); exact Kd.R_mono (Kd.R_far (p := ⟨gb1558, 4, none⟩) (Kd.R_types HO_1559003.out BK1558.out (by decide)) (fun _ hk => hk.2) (.slice Ao87 y1590.length co87)) (fun _ hk => by simp only [ne_eq] at hk; simp only [hk, ne_eq, not_false_eq_true, and_self])⟩, ⟨by (with_reducible repeat (first | apply Kd.R_alloc | apply Kd.R_drewN | apply Kd.R_drew)); exact Kd.R_mono (Kd.R_far (p := ⟨gb1558, 4, none⟩) (Kd.R_types HO1592.out BK1558.out (by decide)) (fun _ hk => hk.2) (.slice Ao87 y1590.length co87)) (fun _ hk => by simp only [ne_eq] at hk; simp only [hk, ne_eq, not_false_eq_true, and_self])⟩, ⟨by (with_reducible repeat (first | refine blk_drewN ?_ _ | refine blk_drew ?_ | refine blk_alloc ?_ _)); refine blk_far ?_ NB1535_1558.out _; (with_reducible repeat (first | refine blk_drewN ?_ _ | refine blk_drew ?_ | refine blk_alloc ?_ _)); exact BK1535.out⟩, ⟨by (with_reducible repeat (first | refine blk_drewN ?_ _ | refine blk_drew ?_ | refine blk_alloc ?_ _)); refine blk_far ?_ NB1536_1558.out _; (with_reducible repeat (first | refine blk_drewN ?_ _ | refine blk_drew ?_ | refine blk_alloc ?_ _)); exact BK1536.out⟩, ⟨by (with_reducible repeat (first | refine blk_drewN ?_ _ | refine blk_drew ?_ | refine blk_alloc ?_ _)); refine blk_put (cs := #[.int .i64 t1537, .string t1538, .string t1539, .slice Ao17 t1540.length co17, .slice Ao19 t1543.length co19]) ?_ 4 _ rfl; (with_reducible repeat (first | refine blk_drewN ?_ _ | refine blk_drew ?_ | refine blk_alloc ?_ _)); exact BK1558.out⟩, ⟨bel_ HB.out⟩⟩
              ·rw [if_neg c76] at H
               exact absurd H (by simp)
             ·rw [if_neg c75] at H
              exact absurd H (by simp)
            ·rw [if_neg c74] at H
             exact absurd H (by simp)
           ·rw [if_neg c72] at H
            exact absurd H (by simp)
          ·rw [if_neg c71] at H
           exact absurd H (by simp)
         ·rw [if_neg c70] at H
          exact absurd H (by simp)
       ·rw [if_neg c67] at H
        have c67b0 : decide (0 < (t1543.length : Int)) = false := decide_eq_false c67
        have c67b1 : decide (0 < t1543.length) = false := decide_eq_false (by omega)
        clear c67
        have H' := Aside0.mk H
        clear H
        have hnb89 := NB1535_1536.out
        have hnc89 := NB1536_1535.out
        have hnb90 := NB1535_1558.out
        have hnc90 := NB1558_1535.out
        have hcz91_0 : wc.cell? ⟨gb1535, 0, none⟩ = some (.int .i64 t1537) := (blk_cell BK1535.out 0).trans rfl
        have hcz91_1 : wc.cell? ⟨gb1535, 1, none⟩ = some (.string t1538) := (blk_cell BK1535.out 1).trans rfl
        have hcz91_2 : wc.cell? ⟨gb1535, 2, none⟩ = some (.string t1539) := (blk_cell BK1535.out 2).trans rfl
        have hcz91_3 : wc.cell? ⟨gb1535, 3, none⟩ = some (.slice Ao17 t1540.length co17) := (blk_cell BK1535.out 3).trans rfl
        have hcz91_4 : wc.cell? ⟨gb1535, 4, none⟩ = some (.slice Ao19 t1543.length co19) := (blk_cell BK1535.out 4).trans rfl
        have hfz91_0 := blk_frozen BK1535.out 0
        have hfz91_1 := blk_frozen BK1535.out 1
        have hfz91_2 := blk_frozen BK1535.out 2
        have hfz91_3 := blk_frozen BK1535.out 3
        have hfz91_4 := blk_frozen BK1535.out 4
        go_wp2
        go_meet
        case rel => exact ⟨_, (t1539), (t1540), (t1543), (.slice Ao17 t1540.length co17), (.slice Ao19 t1543.length co19), H', ⟨by have := HJ39.out; first | omega | exact Nat.le_refl _⟩, ⟨by (with_reducible repeat (first | apply Kd.R_alloc | apply Kd.R_drewN | apply Kd.R_drew)); exact HO_1536003.out⟩, ⟨by (with_reducible repeat (first | apply Kd.R_alloc | apply Kd.R_drewN | apply Kd.R_drew)); exact HO_1536004.out⟩, ⟨by (with_reducible repeat (first | apply Kd.R_alloc | apply Kd.R_drewN | apply Kd.R_drew)); exact HO_1537003.out⟩, ⟨by (with_reducible repeat (first | apply Kd.R_alloc | apply Kd.R_drewN | apply Kd.R_drew)); exact HO_1537004.out⟩, ⟨by (with_reducible repeat (first | apply Kd.R_alloc | apply Kd.R_drewN | apply Kd.R_drew)); exact HO_1559003.out⟩, ⟨by (with_reducible repeat (first | apply Kd.R_alloc | apply Kd.R_drewN | apply Kd.R_drew)); exact HO_1559004.out⟩, ⟨by (with_reducible repeat (first | refine blk_drewN ?_ _ | refine blk_drew ?_ | refine blk_alloc ?_ _)); exact BK1535.out⟩, ⟨by (with_reducible repeat (first | refine blk_drewN ?_ _ | refine blk_drew ?_ | refine blk_alloc ?_ _)); exact BK1536.out⟩, ⟨by (with_reducible repeat (first | refine blk_drewN ?_ _ | refine blk_drew ?_ | refine blk_alloc ?_ _)); exact BK1558.out⟩, ⟨bel_ HB.out⟩⟩
  case rest =>
   clear HC8
   try clear c1
   try clear p2
   try clear c4
   try clear c5
   try clear c6
   try clear p6
   try clear c7
   try clear c8
   try clear q8
   try clear c9
   try clear c45
   try clear c48
   try clear c49
   try clear c50
   try clear c52
   try clear c53
   try clear c54
   try clear p64
   try clear c67
   try clear c67b0
   try clear c67b1
   try clear c68
   try clear c68b0
   try clear c68b1
   try clear c68b2
   try clear c70
   try clear c70b0
   try clear c70b1
   try clear c71
   try clear c71b0
   try clear c71b1
   try clear c72
   try clear c74
   try clear c74b0
   try clear c74b1
   try clear c75
   try clear c75b0
   try clear c75b1
   try clear c76
   try clear c77
   try clear c78
   try clear q81
   try clear c82
   try clear q82
   try clear c89
   try clear c90
   try clear hcz79_0
   try clear hcz79_1
   try clear hcz79_2
   try clear hcz79_3
   try clear hcz79_4
   try clear hcz91_0
   try clear hcz91_1
   try clear hcz91_2
   try clear hcz91_3
   try clear hcz91_4
   try clear hfz79_0
   try clear hfz79_1
   try clear hfz79_2
   try clear hfz79_3
   try clear hfz79_4
   try clear hfz91_0
   try clear hfz91_1
   try clear hfz91_2
   try clear hfz91_3
   try clear hfz91_4
   try clear q082
   try clear q81
   try clear q82
   obtain ⟨kq, x1559002_7, x1559003_7, x1559004_7, u1559003, u1559004, HA, HJ7, HO_1536003, HO_1536004, HO_1537003, HO_1537004, HO_1559003, HO_1559004, BK1535, BK1536, BK1558, HB⟩ := hcut
   cases kq with
   | zero => exact absurd HA.out (by simp [tolllaw06_RuleLess.j1])
   | succ kj7 =>
    have H := HA.out
    clear HA
    simp only [tolllaw06_RuleLess.j1] at H
    replace H := Option.bind_eq_some_iff.mp H
    obtain ⟨t1593, A920, H⟩ := H
    replace H : (if t1593 = true then ((rule_Holds.f kj7 t1537 t1538 t1539 t1540 t1543 t1546 t1547 t1548 t1549 t1552).bind fun t1594 => (if t1594 = true then ((rule_Holds.f kj7 t1537 t1538 x1559002_7 x1559003_7 x1559004_7 t1546 t1547 t1548 t1549 t1552).bind fun t1595 => (if t1595 = true then ((rule_Order.f t1537 t1538 x1559002_7 x1559003_7 x1559004_7 t1537 t1538 t1539 t1540 t1543).bind fun t1596 => (if t1596 ≥ 0 then ((tolllaw06_awake.f).bind fun t1597 => (some t1597)) else (none))) else (none))) else ((rule_Order.f t1537 t1538 x1559002_7 x1559003_7 x1559004_7 t1537 t1538 t1539 t1540 t1543).bind fun t1598 => (if t1598 ≥ 0 then ((tolllaw06_awake.f).bind fun t1599 => (some t1599)) else (none))))) else (none)) = some r := H
    have A92 := Aside0.mk A920
    clear A920
    by_cases c93 : t1593 = true
    ·subst c93
     have H1 : ((rule_Holds.f kj7 t1537 t1538 t1539 t1540 t1543 t1546 t1547 t1548 t1549 t1552).bind fun t1594 => (if t1594 = true then ((rule_Holds.f kj7 t1537 t1538 x1559002_7 x1559003_7 x1559004_7 t1546 t1547 t1548 t1549 t1552).bind fun t1595 => (if t1595 = true then ((rule_Order.f t1537 t1538 x1559002_7 x1559003_7 x1559004_7 t1537 t1538 t1539 t1540 t1543).bind fun t1596 => (if t1596 ≥ 0 then ((tolllaw06_awake.f).bind fun t1597 => (some t1597)) else (none))) else (none))) else ((rule_Order.f t1537 t1538 x1559002_7 x1559003_7 x1559004_7 t1537 t1538 t1539 t1540 t1543).bind fun t1598 => (if t1598 ≥ 0 then ((tolllaw06_awake.f).bind fun t1599 => (some t1599)) else (none))))) = some r := by rw [if_pos rfl] at H; exact H
     clear H
     have H := H1
     clear H1
     replace H := Option.bind_eq_some_iff.mp H
     obtain ⟨t1594, A940, H⟩ := H
     replace H : (if t1594 = true then ((rule_Holds.f kj7 t1537 t1538 x1559002_7 x1559003_7 x1559004_7 t1546 t1547 t1548 t1549 t1552).bind fun t1595 => (if t1595 = true then ((rule_Order.f t1537 t1538 x1559002_7 x1559003_7 x1559004_7 t1537 t1538 t1539 t1540 t1543).bind fun t1596 => (if t1596 ≥ 0 then ((tolllaw06_awake.f).bind fun t1597 => (some t1597)) else (none))) else (none))) else ((rule_Order.f t1537 t1538 x1559002_7 x1559003_7 x1559004_7 t1537 t1538 t1539 t1540 t1543).bind fun t1598 => (if t1598 ≥ 0 then ((tolllaw06_awake.f).bind fun t1599 => (some t1599)) else (none)))) = some r := H
     have A94 := Aside0.mk A940
     clear A940
     by_cases c95 : t1594 = true
     ·subst c95
      have H1 : ((rule_Holds.f kj7 t1537 t1538 x1559002_7 x1559003_7 x1559004_7 t1546 t1547 t1548 t1549 t1552).bind fun t1595 => (if t1595 = true then ((rule_Order.f t1537 t1538 x1559002_7 x1559003_7 x1559004_7 t1537 t1538 t1539 t1540 t1543).bind fun t1596 => (if t1596 ≥ 0 then ((tolllaw06_awake.f).bind fun t1597 => (some t1597)) else (none))) else (none))) = some r := by rw [if_pos rfl] at H; exact H
      clear H
      have H := H1
      clear H1
      replace H := Option.bind_eq_some_iff.mp H
      obtain ⟨t1595, A960, H⟩ := H
      replace H : (if t1595 = true then ((rule_Order.f t1537 t1538 x1559002_7 x1559003_7 x1559004_7 t1537 t1538 t1539 t1540 t1543).bind fun t1596 => (if t1596 ≥ 0 then ((tolllaw06_awake.f).bind fun t1597 => (some t1597)) else (none))) else (none)) = some r := H
      have A96 := Aside0.mk A960
      clear A960
      by_cases c97 : t1595 = true
      ·subst c97
       have H1 : ((rule_Order.f t1537 t1538 x1559002_7 x1559003_7 x1559004_7 t1537 t1538 t1539 t1540 t1543).bind fun t1596 => (if t1596 ≥ 0 then ((tolllaw06_awake.f).bind fun t1597 => (some t1597)) else (none))) = some r := by rw [if_pos rfl] at H; exact H
       clear H
       have H := H1
       clear H1
       replace H := Option.bind_eq_some_iff.mp H
       obtain ⟨t1596, A980, H⟩ := H
       replace H : (if t1596 ≥ 0 then ((tolllaw06_awake.f).bind fun t1597 => (some t1597)) else (none)) = some r := H
       have A98 := Aside0.mk A980
       clear A980
       by_cases c99 : t1596 ≥ 0
       ·rw [if_pos c99] at H
        have c99b0 : decide (0 ≤ t1596) = true := decide_eq_true c99
        clear c99
        replace H := Option.bind_eq_some_iff.mp H
        obtain ⟨t1597, A1000, H⟩ := H
        replace H : (some t1597) = some r := H
        have A100 := Aside0.mk A1000
        clear A1000
        obtain rfl := Option.some.inj H
        have hnb101 := NB1558_1535.out
        have hnc101 := NB1535_1558.out
        have hnb102 := NB1558_1536.out
        have hnc102 := NB1536_1558.out
        have hcz103_0 : wc.cell? ⟨gb1558, 0, none⟩ = some (.int .i64 t1537) := (blk_cell BK1558.out 0).trans rfl
        have hcz103_1 : wc.cell? ⟨gb1558, 1, none⟩ = some (.string t1538) := (blk_cell BK1558.out 1).trans rfl
        have hcz103_2 : wc.cell? ⟨gb1558, 2, none⟩ = some (.string x1559002_7) := (blk_cell BK1558.out 2).trans rfl
        have hcz103_3 : wc.cell? ⟨gb1558, 3, none⟩ = some (u1559003) := (blk_cell BK1558.out 3).trans rfl
        have hcz103_4 : wc.cell? ⟨gb1558, 4, none⟩ = some (u1559004) := (blk_cell BK1558.out 4).trans rfl
        have hfz103_0 := blk_frozen BK1558.out 0
        have hfz103_1 := blk_frozen BK1558.out 1
        have hfz103_2 := blk_frozen BK1558.out 2
        have hfz103_3 := blk_frozen BK1558.out 3
        have hfz103_4 := blk_frozen BK1558.out 4
        obtain ⟨Ao104, co104, eo104⟩ := Kd.R_slice HO_1559003.out
        subst eo104
        obtain ⟨Ao105, co105, eo105⟩ := Kd.R_slice HO_1559004.out
        subst eo105
        go_wp2_with (first | ((with_reducible refine gate_callee (f := 12) rfl ?_); refine goesL_ (some 86) rfl rfl Tryd.func12 kr_ rfl #[.agg #[.int .i64 t1537, .string t1538, .string x1559002_7, .slice Ao104 x1559003_7.length co104, .slice Ao105 x1559004_7.length co105]] rfl rl_ ?_; (with_reducible refine (rule_May.calls kj7 t1537 t1538 x1559002_7 _ _ x1559003_7 _ _ x1559004_7 true _ ?side1 ?side2 ?side3 ?side4 A92.out).mono ?_); (case side1 => exact C_ (Kd.R_reads' HO_1559003.out).2.2); (case side2 => exact (Kd.R_reads' HO_1559003.out).2.1); (case side3 => exact C_ (Kd.R_reads' HO_1559004.out).2.2); (case side4 => exact (Kd.R_reads' HO_1559004.out).2.1); rintro e w106 ⟨rfl, hb⟩; refine ⟨_, rfl, ?_⟩; have n0_ := am_ (Kd.R_below (R_ HO_1536003.out) hb); have n1_ := am_ (Kd.R_below (R_ HO_1536004.out) hb); have n2_ := am_ (Kd.R_below (R_ HO_1537003.out) hb); have n3_ := am_ (Kd.R_below (R_ HO_1537004.out) hb); have n4_ := am_ (Kd.R_below (R_ HO_1559003.out) hb); have n5_ := am_ (Kd.R_below (R_ HO_1559004.out) hb); have n6_ := am_ (blk_below (g := gb1535) (o := .cells #[.int .i64 t1537, .string t1538, .string t1539, .slice Ao17 t1540.length co17, .slice Ao19 t1543.length co19] 26 (0, 0)) (blk_ BK1535.out) hb); have n7_ := am_ (blk_below (g := gb1536) (o := .cells #[.string t1546, .string t1547, .string t1548, .slice Ao24 t1549.length co24, .slice Ao26 t1552.length co26] 28 (0, 0)) (blk_ BK1536.out) hb); have n8_ := am_ (blk_below (g := gb1558) (o := .cells #[.int .i64 t1537, .string t1538, .string x1559002_7, .slice Ao104 x1559003_7.length co104, .slice Ao105 x1559004_7.length co105] 26 (0, 0)) (blk_ BK1558.out) hb); have n9_ := am_ (below_step (bel_ HB.out) hb); clear HO_1536003 HO_1536004 HO_1537003 HO_1537004 HO_1559003 HO_1559004 BK1535 BK1536 BK1558 HB; have HO_1536003 := n0_; have HO_1536004 := n1_; have HO_1537003 := n2_; have HO_1537004 := n3_; have HO_1559003 := n4_; have HO_1559004 := n5_; have BK1535 := n6_; have BK1536 := n7_; have BK1558 := n8_; have HB := n9_; clear n0_ n1_ n2_ n3_ n4_ n5_ n6_ n7_ n8_ n9_; (try clear hb); (try clear hb2); (try clear hk); (try clear hi); have hnb107 := NB1535_1536.out; have hnc107 := NB1536_1535.out; have hcz108_0 : w106.cell? ⟨gb1535, 0, none⟩ = some (.int .i64 t1537) := (blk_cell BK1535.out 0).trans rfl; have hcz108_1 : w106.cell? ⟨gb1535, 1, none⟩ = some (.string t1538) := (blk_cell BK1535.out 1).trans rfl; have hcz108_2 : w106.cell? ⟨gb1535, 2, none⟩ = some (.string t1539) := (blk_cell BK1535.out 2).trans rfl; have hcz108_3 : w106.cell? ⟨gb1535, 3, none⟩ = some (.slice Ao17 t1540.length co17) := (blk_cell BK1535.out 3).trans rfl; have hcz108_4 : w106.cell? ⟨gb1535, 4, none⟩ = some (.slice Ao19 t1543.length co19) := (blk_cell BK1535.out 4).trans rfl; have hfz108_0 := blk_frozen BK1535.out 0; have hfz108_1 := blk_frozen BK1535.out 1; have hfz108_2 := blk_frozen BK1535.out 2; have hfz108_3 := blk_frozen BK1535.out 3; have hfz108_4 := blk_frozen BK1535.out 4; have hcz109_0 : w106.cell? ⟨gb1536, 0, none⟩ = some (.string t1546) := (blk_cell BK1536.out 0).trans rfl; have hcz109_1 : w106.cell? ⟨gb1536, 1, none⟩ = some (.string t1547) := (blk_cell BK1536.out 1).trans rfl; have hcz109_2 : w106.cell? ⟨gb1536, 2, none⟩ = some (.string t1548) := (blk_cell BK1536.out 2).trans rfl; have hcz109_3 : w106.cell? ⟨gb1536, 3, none⟩ = some (.slice Ao24 t1549.length co24) := (blk_cell BK1536.out 3).trans rfl; have hcz109_4 : w106.cell? ⟨gb1536, 4, none⟩ = some (.slice Ao26 t1552.length co26) := (blk_cell BK1536.out 4).trans rfl; have hfz109_0 := blk_frozen BK1536.out 0; have hfz109_1 := blk_frozen BK1536.out 1; have hfz109_2 := blk_frozen BK1536.out 2; have hfz109_3 := blk_frozen BK1536.out 3; have hfz109_4 := blk_frozen BK1536.out 4) | (go_at_call 14; (with_reducible refine (rule_Holds.calls kj7 t1537 t1538 t1539 _ _ t1540 _ _ t1543 t1546 t1547 t1548 _ _ t1549 _ _ t1552 true _ ?side1 ?side2 ?side3 ?side4 ?side5 ?side6 ?side7 ?side8 A94.out).mono ?_); (case side1 => exact C_ (Kd.R_reads' HO_1536003.out).2.2); (case side2 => exact (Kd.R_reads' HO_1536003.out).2.1); (case side3 => exact C_ (Kd.R_reads' HO_1536004.out).2.2); (case side4 => exact (Kd.R_reads' HO_1536004.out).2.1); (case side5 => exact C_ (Kd.R_reads' HO_1537003.out).2.2); (case side6 => exact (Kd.R_reads' HO_1537003.out).2.1); (case side7 => exact C_ (Kd.R_reads' HO_1537004.out).2.2); (case side8 => exact (Kd.R_reads' HO_1537004.out).2.1); rintro e w110 ⟨rfl, hb⟩; have n0_ := am_ (Kd.R_below (R_ HO_1536003.out) hb); have n1_ := am_ (Kd.R_below (R_ HO_1536004.out) hb); have n2_ := am_ (Kd.R_below (R_ HO_1537003.out) hb); have n3_ := am_ (Kd.R_below (R_ HO_1537004.out) hb); have n4_ := am_ (Kd.R_below (R_ HO_1559003.out) hb); have n5_ := am_ (Kd.R_below (R_ HO_1559004.out) hb); have n6_ := am_ (blk_below (g := gb1535) (o := .cells #[.int .i64 t1537, .string t1538, .string t1539, .slice Ao17 t1540.length co17, .slice Ao19 t1543.length co19] 26 (0, 0)) (blk_ BK1535.out) hb); have n7_ := am_ (blk_below (g := gb1536) (o := .cells #[.string t1546, .string t1547, .string t1548, .slice Ao24 t1549.length co24, .slice Ao26 t1552.length co26] 28 (0, 0)) (blk_ BK1536.out) hb); have n8_ := am_ (blk_below (g := gb1558) (o := .cells #[.int .i64 t1537, .string t1538, .string x1559002_7, .slice Ao104 x1559003_7.length co104, .slice Ao105 x1559004_7.length co105] 26 (0, 0)) (blk_ BK1558.out) hb); have n9_ := am_ (below_step (bel_ HB.out) hb); clear HO_1536003 HO_1536004 HO_1537003 HO_1537004 HO_1559003 HO_1559004 BK1535 BK1536 BK1558 HB; have HO_1536003 := n0_; have HO_1536004 := n1_; have HO_1537003 := n2_; have HO_1537004 := n3_; have HO_1559003 := n4_; have HO_1559004 := n5_; have BK1535 := n6_; have BK1536 := n7_; have BK1558 := n8_; have HB := n9_; clear n0_ n1_ n2_ n3_ n4_ n5_ n6_ n7_ n8_ n9_; (try clear hb); (try clear hb2); (try clear hk); (try clear hi); have hcz111_0 : w110.cell? ⟨gb1558, 0, none⟩ = some (.int .i64 t1537) := (blk_cell BK1558.out 0).trans rfl; have hcz111_1 : w110.cell? ⟨gb1558, 1, none⟩ = some (.string t1538) := (blk_cell BK1558.out 1).trans rfl; have hcz111_2 : w110.cell? ⟨gb1558, 2, none⟩ = some (.string x1559002_7) := (blk_cell BK1558.out 2).trans rfl; have hcz111_3 : w110.cell? ⟨gb1558, 3, none⟩ = some (.slice Ao104 x1559003_7.length co104) := (blk_cell BK1558.out 3).trans rfl; have hcz111_4 : w110.cell? ⟨gb1558, 4, none⟩ = some (.slice Ao105 x1559004_7.length co105) := (blk_cell BK1558.out 4).trans rfl; have hfz111_0 := blk_frozen BK1558.out 0; have hfz111_1 := blk_frozen BK1558.out 1; have hfz111_2 := blk_frozen BK1558.out 2; have hfz111_3 := blk_frozen BK1558.out 3; have hfz111_4 := blk_frozen BK1558.out 4; have hcz112_0 : w110.cell? ⟨gb1536, 0, none⟩ = some (.string t1546) := (blk_cell BK1536.out 0).trans rfl; have hcz112_1 : w110.cell? ⟨gb1536, 1, none⟩ = some (.string t1547) := (blk_cell BK1536.out 1).trans rfl; have hcz112_2 : w110.cell? ⟨gb1536, 2, none⟩ = some (.string t1548) := (blk_cell BK1536.out 2).trans rfl; have hcz112_3 : w110.cell? ⟨gb1536, 3, none⟩ = some (.slice Ao24 t1549.length co24) := (blk_cell BK1536.out 3).trans rfl; have hcz112_4 : w110.cell? ⟨gb1536, 4, none⟩ = some (.slice Ao26 t1552.length co26) := (blk_cell BK1536.out 4).trans rfl; have hfz112_0 := blk_frozen BK1536.out 0; have hfz112_1 := blk_frozen BK1536.out 1; have hfz112_2 := blk_frozen BK1536.out 2; have hfz112_3 := blk_frozen BK1536.out 3; have hfz112_4 := blk_frozen BK1536.out 4) | (go_at_call 14; (with_reducible refine (rule_Holds.calls kj7 t1537 t1538 x1559002_7 _ _ x1559003_7 _ _ x1559004_7 t1546 t1547 t1548 _ _ t1549 _ _ t1552 true _ ?side1 ?side2 ?side3 ?side4 ?side5 ?side6 ?side7 ?side8 A96.out).mono ?_); (case side1 => exact C_ (Kd.R_reads' HO_1559003.out).2.2); (case side2 => exact (Kd.R_reads' HO_1559003.out).2.1); (case side3 => exact C_ (Kd.R_reads' HO_1559004.out).2.2); (case side4 => exact (Kd.R_reads' HO_1559004.out).2.1); (case side5 => exact C_ (Kd.R_reads' HO_1537003.out).2.2); (case side6 => exact (Kd.R_reads' HO_1537003.out).2.1); (case side7 => exact C_ (Kd.R_reads' HO_1537004.out).2.2); (case side8 => exact (Kd.R_reads' HO_1537004.out).2.1); rintro e w113 ⟨rfl, hb⟩; have n0_ := am_ (Kd.R_below (R_ HO_1536003.out) hb); have n1_ := am_ (Kd.R_below (R_ HO_1536004.out) hb); have n2_ := am_ (Kd.R_below (R_ HO_1537003.out) hb); have n3_ := am_ (Kd.R_below (R_ HO_1537004.out) hb); have n4_ := am_ (Kd.R_below (R_ HO_1559003.out) hb); have n5_ := am_ (Kd.R_below (R_ HO_1559004.out) hb); have n6_ := am_ (blk_below (g := gb1535) (o := .cells #[.int .i64 t1537, .string t1538, .string t1539, .slice Ao17 t1540.length co17, .slice Ao19 t1543.length co19] 26 (0, 0)) (blk_ BK1535.out) hb); have n7_ := am_ (blk_below (g := gb1536) (o := .cells #[.string t1546, .string t1547, .string t1548, .slice Ao24 t1549.length co24, .slice Ao26 t1552.length co26] 28 (0, 0)) (blk_ BK1536.out) hb); have n8_ := am_ (blk_below (g := gb1558) (o := .cells #[.int .i64 t1537, .string t1538, .string x1559002_7, .slice Ao104 x1559003_7.length co104, .slice Ao105 x1559004_7.length co105] 26 (0, 0)) (blk_ BK1558.out) hb); have n9_ := am_ (below_step (bel_ HB.out) hb); clear HO_1536003 HO_1536004 HO_1537003 HO_1537004 HO_1559003 HO_1559004 BK1535 BK1536 BK1558 HB; have HO_1536003 := n0_; have HO_1536004 := n1_; have HO_1537003 := n2_; have HO_1537004 := n3_; have HO_1559003 := n4_; have HO_1559004 := n5_; have BK1535 := n6_; have BK1536 := n7_; have BK1558 := n8_; have HB := n9_; clear n0_ n1_ n2_ n3_ n4_ n5_ n6_ n7_ n8_ n9_; (try clear hb); (try clear hb2); (try clear hk); (try clear hi); have hcz114_0 : w113.cell? ⟨gb1558, 0, none⟩ = some (.int .i64 t1537) := (blk_cell BK1558.out 0).trans rfl; have hcz114_1 : w113.cell? ⟨gb1558, 1, none⟩ = some (.string t1538) := (blk_cell BK1558.out 1).trans rfl; have hcz114_2 : w113.cell? ⟨gb1558, 2, none⟩ = some (.string x1559002_7) := (blk_cell BK1558.out 2).trans rfl; have hcz114_3 : w113.cell? ⟨gb1558, 3, none⟩ = some (.slice Ao104 x1559003_7.length co104) := (blk_cell BK1558.out 3).trans rfl; have hcz114_4 : w113.cell? ⟨gb1558, 4, none⟩ = some (.slice Ao105 x1559004_7.length co105) := (blk_cell BK1558.out 4).trans rfl; have hfz114_0 := blk_frozen BK1558.out 0; have hfz114_1 := blk_frozen BK1558.out 1; have hfz114_2 := blk_frozen BK1558.out 2; have hfz114_3 := blk_frozen BK1558.out 3; have hfz114_4 := blk_frozen BK1558.out 4; have hcz115_0 : w113.cell? ⟨gb1535, 0, none⟩ = some (.int .i64 t1537) := (blk_cell BK1535.out 0).trans rfl; have hcz115_1 : w113.cell? ⟨gb1535, 1, none⟩ = some (.string t1538) := (blk_cell BK1535.out 1).trans rfl; have hcz115_2 : w113.cell? ⟨gb1535, 2, none⟩ = some (.string t1539) := (blk_cell BK1535.out 2).trans rfl; have hcz115_3 : w113.cell? ⟨gb1535, 3, none⟩ = some (.slice Ao17 t1540.length co17) := (blk_cell BK1535.out 3).trans rfl; have hcz115_4 : w113.cell? ⟨gb1535, 4, none⟩ = some (.slice Ao19 t1543.length co19) := (blk_cell BK1535.out 4).trans rfl; have hfz115_0 := blk_frozen BK1535.out 0; have hfz115_1 := blk_frozen BK1535.out 1; have hfz115_2 := blk_frozen BK1535.out 2; have hfz115_3 := blk_frozen BK1535.out 3; have hfz115_4 := blk_frozen BK1535.out 4) | (go_at_call 19; (with_reducible refine (rule_Order.calls t1537 t1538 x1559002_7 _ _ x1559003_7 _ _ x1559004_7 t1537 t1538 t1539 _ _ t1540 _ _ t1543 t1596 _ ?side1 ?side2 ?side3 ?side4 ?side5 ?side6 ?side7 ?side8 A98.out).mono ?_); (case side1 => exact C_ (Kd.R_reads' HO_1559003.out).2.2); (case side2 => exact (Kd.R_reads' HO_1559003.out).2.1); (case side3 => exact C_ (Kd.R_reads' HO_1559004.out).2.2); (case side4 => exact (Kd.R_reads' HO_1559004.out).2.1); (case side5 => exact C_ (Kd.R_reads' HO_1536003.out).2.2); (case side6 => exact (Kd.R_reads' HO_1536003.out).2.1); (case side7 => exact C_ (Kd.R_reads' HO_1536004.out).2.2); (case side8 => exact (Kd.R_reads' HO_1536004.out).2.1); rintro e w116 ⟨rfl, hb⟩; have n0_ := am_ (Kd.R_below (R_ HO_1536003.out) hb); have n1_ := am_ (Kd.R_below (R_ HO_1536004.out) hb); have n2_ := am_ (Kd.R_below (R_ HO_1537003.out) hb); have n3_ := am_ (Kd.R_below (R_ HO_1537004.out) hb); have n4_ := am_ (Kd.R_below (R_ HO_1559003.out) hb); have n5_ := am_ (Kd.R_below (R_ HO_1559004.out) hb); have n6_ := am_ (blk_below (g := gb1535) (o := .cells #[.int .i64 t1537, .string t1538, .string t1539, .slice Ao17 t1540.length co17, .slice Ao19 t1543.length co19] 26 (0, 0)) (blk_ BK1535.out) hb); have n7_ := am_ (blk_below (g := gb1536) (o := .cells #[.string t1546, .string t1547, .string t1548, .slice Ao24 t1549.length co24, .slice Ao26 t1552.length co26] 28 (0, 0)) (blk_ BK1536.out) hb); have n8_ := am_ (blk_below (g := gb1558) (o := .cells #[.int .i64 t1537, .string t1538, .string x1559002_7, .slice Ao104 x1559003_7.length co104, .slice Ao105 x1559004_7.length co105] 26 (0, 0)) (blk_ BK1558.out) hb); have n9_ := am_ (below_step (bel_ HB.out) hb); clear HO_1536003 HO_1536004 HO_1537003 HO_1537004 HO_1559003 HO_1559004 BK1535 BK1536 BK1558 HB; have HO_1536003 := n0_; have HO_1536004 := n1_; have HO_1537003 := n2_; have HO_1537004 := n3_; have HO_1559003 := n4_; have HO_1559004 := n5_; have BK1535 := n6_; have BK1536 := n7_; have BK1558 := n8_; have HB := n9_; clear n0_ n1_ n2_ n3_ n4_ n5_ n6_ n7_ n8_ n9_; (try clear hb); (try clear hb2); (try clear hk); (try clear hi)) | (go_at_call 18; (with_reducible refine (tolllaw06_awake.calls  t1597 _ A100.out).mono ?_); rintro e w117 ⟨rfl, hb⟩; have n0_ := am_ (Kd.R_below (R_ HO_1536003.out) hb); have n1_ := am_ (Kd.R_below (R_ HO_1536004.out) hb); have n2_ := am_ (Kd.R_below (R_ HO_1537003.out) hb); have n3_ := am_ (Kd.R_below (R_ HO_1537004.out) hb); have n4_ := am_ (Kd.R_below (R_ HO_1559003.out) hb); have n5_ := am_ (Kd.R_below (R_ HO_1559004.out) hb); have n6_ := am_ (blk_below (g := gb1535) (o := .cells #[.int .i64 t1537, .string t1538, .string t1539, .slice Ao17 t1540.length co17, .slice Ao19 t1543.length co19] 26 (0, 0)) (blk_ BK1535.out) hb); have n7_ := am_ (blk_below (g := gb1536) (o := .cells #[.string t1546, .string t1547, .string t1548, .slice Ao24 t1549.length co24, .slice Ao26 t1552.length co26] 28 (0, 0)) (blk_ BK1536.out) hb); have n8_ := am_ (blk_below (g := gb1558) (o := .cells #[.int .i64 t1537, .string t1538, .string x1559002_7, .slice Ao104 x1559003_7.length co104, .slice Ao105 x1559004_7.length co105] 26 (0, 0)) (blk_ BK1558.out) hb); have n9_ := am_ (below_step (bel_ HB.out) hb); clear HO_1536003 HO_1536004 HO_1537003 HO_1537004 HO_1559003 HO_1559004 BK1535 BK1536 BK1558 HB; have HO_1536003 := n0_; have HO_1536004 := n1_; have HO_1537003 := n2_; have HO_1537004 := n3_; have HO_1559003 := n4_; have HO_1559004 := n5_; have BK1535 := n6_; have BK1536 := n7_; have BK1558 := n8_; have HB := n9_; clear n0_ n1_ n2_ n3_ n4_ n5_ n6_ n7_ n8_ n9_; (try clear hb); (try clear hb2); (try clear hk); (try clear hi)))
        go_ret
        exact ⟨fi_, bel_ HB.out⟩
       ·rw [if_neg c99] at H
        exact absurd H (by simp)
      ·replace c97 := Bool.eq_false_iff.mpr c97
       subst c97
       have H1 : (none) = some r := by rw [if_neg (show ¬ (false = true) by decide)] at H; exact H
       clear H
       have H := H1
       clear H1
       exact absurd H (by simp)
     ·replace c95 := Bool.eq_false_iff.mpr c95
      subst c95
      have H1 : ((rule_Order.f t1537 t1538 x1559002_7 x1559003_7 x1559004_7 t1537 t1538 t1539 t1540 t1543).bind fun t1598 => (if t1598 ≥ 0 then ((tolllaw06_awake.f).bind fun t1599 => (some t1599)) else (none))) = some r := by rw [if_neg (show ¬ (false = true) by decide)] at H; exact H
      clear H
      have H := H1
      clear H1
      replace H := Option.bind_eq_some_iff.mp H
      obtain ⟨t1598, A1180, H⟩ := H
      replace H : (if t1598 ≥ 0 then ((tolllaw06_awake.f).bind fun t1599 => (some t1599)) else (none)) = some r := H
      have A118 := Aside0.mk A1180
      clear A1180
      by_cases c119 : t1598 ≥ 0
      ·rw [if_pos c119] at H
       have c119b0 : decide (0 ≤ t1598) = true := decide_eq_true c119
       clear c119
       replace H := Option.bind_eq_some_iff.mp H
       obtain ⟨t1599, A1200, H⟩ := H
       replace H : (some t1599) = some r := H
       have A120 := Aside0.mk A1200
       clear A1200
       obtain rfl := Option.some.inj H
       have hnb121 := NB1558_1535.out
       have hnc121 := NB1535_1558.out
       have hnb122 := NB1558_1536.out
       have hnc122 := NB1536_1558.out
       have hcz123_0 : wc.cell? ⟨gb1558, 0, none⟩ = some (.int .i64 t1537) := (blk_cell BK1558.out 0).trans rfl
       have hcz123_1 : wc.cell? ⟨gb1558, 1, none⟩ = some (.string t1538) := (blk_cell BK1558.out 1).trans rfl
       have hcz123_2 : wc.cell? ⟨gb1558, 2, none⟩ = some (.string x1559002_7) := (blk_cell BK1558.out 2).trans rfl
       have hcz123_3 : wc.cell? ⟨gb1558, 3, none⟩ = some (u1559003) := (blk_cell BK1558.out 3).trans rfl
       have hcz123_4 : wc.cell? ⟨gb1558, 4, none⟩ = some (u1559004) := (blk_cell BK1558.out 4).trans rfl
       have hfz123_0 := blk_frozen BK1558.out 0
       have hfz123_1 := blk_frozen BK1558.out 1
       have hfz123_2 := blk_frozen BK1558.out 2
       have hfz123_3 := blk_frozen BK1558.out 3
       have hfz123_4 := blk_frozen BK1558.out 4
       obtain ⟨Ao124, co124, eo124⟩ := Kd.R_slice HO_1559003.out
       subst eo124
       obtain ⟨Ao125, co125, eo125⟩ := Kd.R_slice HO_1559004.out
       subst eo125
       go_wp2_with (first | ((with_reducible refine gate_callee (f := 12) rfl ?_); refine goesL_ (some 86) rfl rfl Tryd.func12 kr_ rfl #[.agg #[.int .i64 t1537, .string t1538, .string x1559002_7, .slice Ao124 x1559003_7.length co124, .slice Ao125 x1559004_7.length co125]] rfl rl_ ?_; (with_reducible refine (rule_May.calls kj7 t1537 t1538 x1559002_7 _ _ x1559003_7 _ _ x1559004_7 true _ ?side1 ?side2 ?side3 ?side4 A92.out).mono ?_); (case side1 => exact C_ (Kd.R_reads' HO_1559003.out).2.2); (case side2 => exact (Kd.R_reads' HO_1559003.out).2.1); (case side3 => exact C_ (Kd.R_reads' HO_1559004.out).2.2); (case side4 => exact (Kd.R_reads' HO_1559004.out).2.1); rintro e w126 ⟨rfl, hb⟩; refine ⟨_, rfl, ?_⟩; have n0_ := am_ (Kd.R_below (R_ HO_1536003.out) hb); have n1_ := am_ (Kd.R_below (R_ HO_1536004.out) hb); have n2_ := am_ (Kd.R_below (R_ HO_1537003.out) hb); have n3_ := am_ (Kd.R_below (R_ HO_1537004.out) hb); have n4_ := am_ (Kd.R_below (R_ HO_1559003.out) hb); have n5_ := am_ (Kd.R_below (R_ HO_1559004.out) hb); have n6_ := am_ (blk_below (g := gb1535) (o := .cells #[.int .i64 t1537, .string t1538, .string t1539, .slice Ao17 t1540.length co17, .slice Ao19 t1543.length co19] 26 (0, 0)) (blk_ BK1535.out) hb); have n7_ := am_ (blk_below (g := gb1536) (o := .cells #[.string t1546, .string t1547, .string t1548, .slice Ao24 t1549.length co24, .slice Ao26 t1552.length co26] 28 (0, 0)) (blk_ BK1536.out) hb); have n8_ := am_ (blk_below (g := gb1558) (o := .cells #[.int .i64 t1537, .string t1538, .string x1559002_7, .slice Ao124 x1559003_7.length co124, .slice Ao125 x1559004_7.length co125] 26 (0, 0)) (blk_ BK1558.out) hb); have n9_ := am_ (below_step (bel_ HB.out) hb); clear HO_1536003 HO_1536004 HO_1537003 HO_1537004 HO_1559003 HO_1559004 BK1535 BK1536 BK1558 HB; have HO_1536003 := n0_; have HO_1536004 := n1_; have HO_1537003 := n2_; have HO_1537004 := n3_; have HO_1559003 := n4_; have HO_1559004 := n5_; have BK1535 := n6_; have BK1536 := n7_; have BK1558 := n8_; have HB := n9_; clear n0_ n1_ n2_ n3_ n4_ n5_ n6_ n7_ n8_ n9_; (try clear hb); (try clear hb2); (try clear hk); (try clear hi); have hnb127 := NB1535_1536.out; have hnc127 := NB1536_1535.out; have hcz128_0 : w126.cell? ⟨gb1535, 0, none⟩ = some (.int .i64 t1537) := (blk_cell BK1535.out 0).trans rfl; have hcz128_1 : w126.cell? ⟨gb1535, 1, none⟩ = some (.string t1538) := (blk_cell BK1535.out 1).trans rfl; have hcz128_2 : w126.cell? ⟨gb1535, 2, none⟩ = some (.string t1539) := (blk_cell BK1535.out 2).trans rfl; have hcz128_3 : w126.cell? ⟨gb1535, 3, none⟩ = some (.slice Ao17 t1540.length co17) := (blk_cell BK1535.out 3).trans rfl; have hcz128_4 : w126.cell? ⟨gb1535, 4, none⟩ = some (.slice Ao19 t1543.length co19) := (blk_cell BK1535.out 4).trans rfl; have hfz128_0 := blk_frozen BK1535.out 0; have hfz128_1 := blk_frozen BK1535.out 1; have hfz128_2 := blk_frozen BK1535.out 2; have hfz128_3 := blk_frozen BK1535.out 3; have hfz128_4 := blk_frozen BK1535.out 4; have hcz129_0 : w126.cell? ⟨gb1536, 0, none⟩ = some (.string t1546) := (blk_cell BK1536.out 0).trans rfl; have hcz129_1 : w126.cell? ⟨gb1536, 1, none⟩ = some (.string t1547) := (blk_cell BK1536.out 1).trans rfl; have hcz129_2 : w126.cell? ⟨gb1536, 2, none⟩ = some (.string t1548) := (blk_cell BK1536.out 2).trans rfl; have hcz129_3 : w126.cell? ⟨gb1536, 3, none⟩ = some (.slice Ao24 t1549.length co24) := (blk_cell BK1536.out 3).trans rfl; have hcz129_4 : w126.cell? ⟨gb1536, 4, none⟩ = some (.slice Ao26 t1552.length co26) := (blk_cell BK1536.out 4).trans rfl; have hfz129_0 := blk_frozen BK1536.out 0; have hfz129_1 := blk_frozen BK1536.out 1; have hfz129_2 := blk_frozen BK1536.out 2; have hfz129_3 := blk_frozen BK1536.out 3; have hfz129_4 := blk_frozen BK1536.out 4) | (go_at_call 14; (with_reducible refine (rule_Holds.calls kj7 t1537 t1538 t1539 _ _ t1540 _ _ t1543 t1546 t1547 t1548 _ _ t1549 _ _ t1552 false _ ?side1 ?side2 ?side3 ?side4 ?side5 ?side6 ?side7 ?side8 A94.out).mono ?_); (case side1 => exact C_ (Kd.R_reads' HO_1536003.out).2.2); (case side2 => exact (Kd.R_reads' HO_1536003.out).2.1); (case side3 => exact C_ (Kd.R_reads' HO_1536004.out).2.2); (case side4 => exact (Kd.R_reads' HO_1536004.out).2.1); (case side5 => exact C_ (Kd.R_reads' HO_1537003.out).2.2); (case side6 => exact (Kd.R_reads' HO_1537003.out).2.1); (case side7 => exact C_ (Kd.R_reads' HO_1537004.out).2.2); (case side8 => exact (Kd.R_reads' HO_1537004.out).2.1); rintro e w130 ⟨rfl, hb⟩; have n0_ := am_ (Kd.R_below (R_ HO_1536003.out) hb); have n1_ := am_ (Kd.R_below (R_ HO_1536004.out) hb); have n2_ := am_ (Kd.R_below (R_ HO_1537003.out) hb); have n3_ := am_ (Kd.R_below (R_ HO_1537004.out) hb); have n4_ := am_ (Kd.R_below (R_ HO_1559003.out) hb); have n5_ := am_ (Kd.R_below (R_ HO_1559004.out) hb); have n6_ := am_ (blk_below (g := gb1535) (o := .cells #[.int .i64 t1537, .string t1538, .string t1539, .slice Ao17 t1540.length co17, .slice Ao19 t1543.length co19] 26 (0, 0)) (blk_ BK1535.out) hb); have n7_ := am_ (blk_below (g := gb1536) (o := .cells #[.string t1546, .string t1547, .string t1548, .slice Ao24 t1549.length co24, .slice Ao26 t1552.length co26] 28 (0, 0)) (blk_ BK1536.out) hb); have n8_ := am_ (blk_below (g := gb1558) (o := .cells #[.int .i64 t1537, .string t1538, .string x1559002_7, .slice Ao124 x1559003_7.length co124, .slice Ao125 x1559004_7.length co125] 26 (0, 0)) (blk_ BK1558.out) hb); have n9_ := am_ (below_step (bel_ HB.out) hb); clear HO_1536003 HO_1536004 HO_1537003 HO_1537004 HO_1559003 HO_1559004 BK1535 BK1536 BK1558 HB; have HO_1536003 := n0_; have HO_1536004 := n1_; have HO_1537003 := n2_; have HO_1537004 := n3_; have HO_1559003 := n4_; have HO_1559004 := n5_; have BK1535 := n6_; have BK1536 := n7_; have BK1558 := n8_; have HB := n9_; clear n0_ n1_ n2_ n3_ n4_ n5_ n6_ n7_ n8_ n9_; (try clear hb); (try clear hb2); (try clear hk); (try clear hi); have hcz131_0 : w130.cell? ⟨gb1558, 0, none⟩ = some (.int .i64 t1537) := (blk_cell BK1558.out 0).trans rfl; have hcz131_1 : w130.cell? ⟨gb1558, 1, none⟩ = some (.string t1538) := (blk_cell BK1558.out 1).trans rfl; have hcz131_2 : w130.cell? ⟨gb1558, 2, none⟩ = some (.string x1559002_7) := (blk_cell BK1558.out 2).trans rfl; have hcz131_3 : w130.cell? ⟨gb1558, 3, none⟩ = some (.slice Ao124 x1559003_7.length co124) := (blk_cell BK1558.out 3).trans rfl; have hcz131_4 : w130.cell? ⟨gb1558, 4, none⟩ = some (.slice Ao125 x1559004_7.length co125) := (blk_cell BK1558.out 4).trans rfl; have hfz131_0 := blk_frozen BK1558.out 0; have hfz131_1 := blk_frozen BK1558.out 1; have hfz131_2 := blk_frozen BK1558.out 2; have hfz131_3 := blk_frozen BK1558.out 3; have hfz131_4 := blk_frozen BK1558.out 4; have hcz132_0 : w130.cell? ⟨gb1535, 0, none⟩ = some (.int .i64 t1537) := (blk_cell BK1535.out 0).trans rfl; have hcz132_1 : w130.cell? ⟨gb1535, 1, none⟩ = some (.string t1538) := (blk_cell BK1535.out 1).trans rfl; have hcz132_2 : w130.cell? ⟨gb1535, 2, none⟩ = some (.string t1539) := (blk_cell BK1535.out 2).trans rfl; have hcz132_3 : w130.cell? ⟨gb1535, 3, none⟩ = some (.slice Ao17 t1540.length co17) := (blk_cell BK1535.out 3).trans rfl; have hcz132_4 : w130.cell? ⟨gb1535, 4, none⟩ = some (.slice Ao19 t1543.length co19) := (blk_cell BK1535.out 4).trans rfl; have hfz132_0 := blk_frozen BK1535.out 0; have hfz132_1 := blk_frozen BK1535.out 1; have hfz132_2 := blk_frozen BK1535.out 2; have hfz132_3 := blk_frozen BK1535.out 3; have hfz132_4 := blk_frozen BK1535.out 4) | (go_at_call 19; (with_reducible refine (rule_Order.calls t1537 t1538 x1559002_7 _ _ x1559003_7 _ _ x1559004_7 t1537 t1538 t1539 _ _ t1540 _ _ t1543 t1598 _ ?side1 ?side2 ?side3 ?side4 ?side5 ?side6 ?side7 ?side8 A118.out).mono ?_); (case side1 => exact C_ (Kd.R_reads' HO_1559003.out).2.2); (case side2 => exact (Kd.R_reads' HO_1559003.out).2.1); (case side3 => exact C_ (Kd.R_reads' HO_1559004.out).2.2); (case side4 => exact (Kd.R_reads' HO_1559004.out).2.1); (case side5 => exact C_ (Kd.R_reads' HO_1536003.out).2.2); (case side6 => exact (Kd.R_reads' HO_1536003.out).2.1); (case side7 => exact C_ (Kd.R_reads' HO_1536004.out).2.2); (case side8 => exact (Kd.R_reads' HO_1536004.out).2.1); rintro e w133 ⟨rfl, hb⟩; have n0_ := am_ (Kd.R_below (R_ HO_1536003.out) hb); have n1_ := am_ (Kd.R_below (R_ HO_1536004.out) hb); have n2_ := am_ (Kd.R_below (R_ HO_1537003.out) hb); have n3_ := am_ (Kd.R_below (R_ HO_1537004.out) hb); have n4_ := am_ (Kd.R_below (R_ HO_1559003.out) hb); have n5_ := am_ (Kd.R_below (R_ HO_1559004.out) hb); have n6_ := am_ (blk_below (g := gb1535) (o := .cells #[.int .i64 t1537, .string t1538, .string t1539, .slice Ao17 t1540.length co17, .slice Ao19 t1543.length co19] 26 (0, 0)) (blk_ BK1535.out) hb); have n7_ := am_ (blk_below (g := gb1536) (o := .cells #[.string t1546, .string t1547, .string t1548, .slice Ao24 t1549.length co24, .slice Ao26 t1552.length co26] 28 (0, 0)) (blk_ BK1536.out) hb); have n8_ := am_ (blk_below (g := gb1558) (o := .cells #[.int .i64 t1537, .string t1538, .string x1559002_7, .slice Ao124 x1559003_7.length co124, .slice Ao125 x1559004_7.length co125] 26 (0, 0)) (blk_ BK1558.out) hb); have n9_ := am_ (below_step (bel_ HB.out) hb); clear HO_1536003 HO_1536004 HO_1537003 HO_1537004 HO_1559003 HO_1559004 BK1535 BK1536 BK1558 HB; have HO_1536003 := n0_; have HO_1536004 := n1_; have HO_1537003 := n2_; have HO_1537004 := n3_; have HO_1559003 := n4_; have HO_1559004 := n5_; have BK1535 := n6_; have BK1536 := n7_; have BK1558 := n8_; have HB := n9_; clear n0_ n1_ n2_ n3_ n4_ n5_ n6_ n7_ n8_ n9_; (try clear hb); (try clear hb2); (try clear hk); (try clear hi)) | (go_at_call 18; (with_reducible refine (tolllaw06_awake.calls  t1599 _ A120.out).mono ?_); rintro e w134 ⟨rfl, hb⟩; have n0_ := am_ (Kd.R_below (R_ HO_1536003.out) hb); have n1_ := am_ (Kd.R_below (R_ HO_1536004.out) hb); have n2_ := am_ (Kd.R_below (R_ HO_1537003.out) hb); have n3_ := am_ (Kd.R_below (R_ HO_1537004.out) hb); have n4_ := am_ (Kd.R_below (R_ HO_1559003.out) hb); have n5_ := am_ (Kd.R_below (R_ HO_1559004.out) hb); have n6_ := am_ (blk_below (g := gb1535) (o := .cells #[.int .i64 t1537, .string t1538, .string t1539, .slice Ao17 t1540.length co17, .slice Ao19 t1543.length co19] 26 (0, 0)) (blk_ BK1535.out) hb); have n7_ := am_ (blk_below (g := gb1536) (o := .cells #[.string t1546, .string t1547, .string t1548, .slice Ao24 t1549.length co24, .slice Ao26 t1552.length co26] 28 (0, 0)) (blk_ BK1536.out) hb); have n8_ := am_ (blk_below (g := gb1558) (o := .cells #[.int .i64 t1537, .string t1538, .string x1559002_7, .slice Ao124 x1559003_7.length co124, .slice Ao125 x1559004_7.length co125] 26 (0, 0)) (blk_ BK1558.out) hb); have n9_ := am_ (below_step (bel_ HB.out) hb); clear HO_1536003 HO_1536004 HO_1537003 HO_1537004 HO_1559003 HO_1559004 BK1535 BK1536 BK1558 HB; have HO_1536003 := n0_; have HO_1536004 := n1_; have HO_1537003 := n2_; have HO_1537004 := n3_; have HO_1559003 := n4_; have HO_1559004 := n5_; have BK1535 := n6_; have BK1536 := n7_; have BK1558 := n8_; have HB := n9_; clear n0_ n1_ n2_ n3_ n4_ n5_ n6_ n7_ n8_ n9_; (try clear hb); (try clear hb2); (try clear hk); (try clear hi)))
       go_ret
       exact ⟨fi_, bel_ HB.out⟩
      ·rw [if_neg c119] at H
       exact absurd H (by simp)
    ·replace c93 := Bool.eq_false_iff.mpr c93
     subst c93
     have H1 : (none) = some r := by rw [if_neg (show ¬ (false = true) by decide)] at H; exact H
     clear H
     have H := H1
     clear H1
     exact absurd H (by simp)
 ·replace c7 := Bool.eq_false_iff.mpr c7
  subst c7
  have H1 : ((rule_Holds.f k t1537 t1538 t1539 t1540 t1543 t1546 t1547 t1548 t1549 t1552).bind fun t1556 => (if t1556 = true then (none) else ((tolllaw06_awake.f).bind fun t1557 => (some t1557)))) = some r := by rw [if_neg (show ¬ (false = true) by decide)] at H; exact H
  clear H
  have H := H1
  clear H1
  replace H := Option.bind_eq_some_iff.mp H
  obtain ⟨t1556, A1350, H⟩ := H
  replace H : (if t1556 = true then (none) else ((tolllaw06_awake.f).bind fun t1557 => (some t1557))) = some r := H
  have A135 := Aside0.mk A1350
  clear A1350
  by_cases c136 : t1556 = true
  ·subst c136
   have H1 : (none) = some r := by rw [if_pos rfl] at H; exact H
   clear H
   have H := H1
   clear H1
   exact absurd H (by simp)
  ·replace c136 := Bool.eq_false_iff.mpr c136
   subst c136
   have H1 : ((tolllaw06_awake.f).bind fun t1557 => (some t1557)) = some r := by rw [if_neg (show ¬ (false = true) by decide)] at H; exact H
   clear H
   have H := H1
   clear H1
   replace H := Option.bind_eq_some_iff.mp H
   obtain ⟨t1557, A1370, H⟩ := H
   replace H : (some t1557) = some r := H
   have A137 := Aside0.mk A1370
   clear A1370
   obtain rfl := Option.some.inj H
   go_enter Tryd.func6, Tryd.ntmps6
   try go_wp2_with (first | ((with_reducible refine gate_dst (N := 3) rfl ?_); (try (refine gate_guard (by rfl) ?_; dsimp only)); refine box_event ?hg (N := 3) ?hd (cs := #[.int .i64 a0_0, .string a0_1, .string a0_2, .slice A0_3 l0_3.length c0_3, .slice A0_4 l0_4.length c0_4]) (t := 26) ?hr ?_; (case hd => rfl); (case hg => rfl); (case hr => first | (go_simp; done) | (go_simp; rfl)); intro gb1535 hg w138 hbox hb; have n0_ := am_ (below_step (bel_ HB.out) hb); have n1_ := am_ (hbox); have n2_ := am_ ((by rw [hg]; exact (below_size (bel_ HB.out)) : w.heap.size ≤ gb1535)); have n3_ := am_ ((by rw [hg]; exact (below_size (bel_ HB.out)) : w.heap.size ≤ gb1535)); clear HB; have HB := n0_; have BK1535 := n1_; have GW1535 := n2_; have GE1535 := n3_; clear n0_ n1_ n2_ n3_ hb hbox hg) | ((with_reducible refine gate_dst (N := 4) rfl ?_); (try (refine gate_guard (by rfl) ?_; dsimp only)); refine box_event ?hg (N := 4) ?hd (cs := #[.string a1_0, .string a1_1, .string a1_2, .slice A1_3 l1_3.length c1_3, .slice A1_4 l1_4.length c1_4]) (t := 28) ?hr ?_; (case hd => rfl); (case hg => rfl); (case hr => first | (go_simp; done) | (go_simp; rfl)); intro gb1536 hg w139 hbox hb; have n0_ := am_ (blk_below (g := gb1535) (o := .cells #[.int .i64 a0_0, .string a0_1, .string a0_2, .slice A0_3 l0_3.length c0_3, .slice A0_4 l0_4.length c0_4] 26 (0, 0)) (blk_ BK1535.out) hb); have n1_ := am_ (below_step (bel_ HB.out) hb); have n2_ := am_ (hbox); have n3_ := am_ ((by rw [hg]; exact (below_size (bel_ HB.out)) : w.heap.size ≤ gb1536)); have n4_ := am_ ((by rw [hg]; exact (below_size (bel_ HB.out)) : w.heap.size ≤ gb1536)); have n5_ := am_ ((by rw [hg]; exact Nat.ne_of_lt (blk_lt (g := gb1535) (o := .cells #[.int .i64 a0_0, .string a0_1, .string a0_2, .slice A0_3 l0_3.length c0_3, .slice A0_4 l0_4.length c0_4] 26 (0, 0)) (blk_ BK1535.out)) : gb1535 ≠ gb1536)); have n6_ := am_ ((by rw [hg]; exact Nat.ne_of_gt (blk_lt (g := gb1535) (o := .cells #[.int .i64 a0_0, .string a0_1, .string a0_2, .slice A0_3 l0_3.length c0_3, .slice A0_4 l0_4.length c0_4] 26 (0, 0)) (blk_ BK1535.out)) : gb1536 ≠ gb1535)); clear BK1535 HB; have BK1535 := n0_; have HB := n1_; have BK1536 := n2_; have GW1536 := n3_; have GE1536 := n4_; have NB1535_1536 := n5_; have NB1536_1535 := n6_; clear n0_ n1_ n2_ n3_ n4_ n5_ n6_ hb hbox hg))
   have n0_ := am_ (blk_drew BK1535.out)
   have n1_ := am_ (blk_drew BK1536.out)
   have n2_ := am_ (below_drew1 HB.out)
   clear BK1535 BK1536 HB
   have BK1535 := n0_
   have BK1536 := n1_
   have HB := n2_
   clear n0_ n1_ n2_
   refine start_ (n := 6) (S := fun w' => w'.cell? ⟨gb1535, 0, none⟩ = some (.int .i64 a0_0) ∧ w'.cell? ⟨gb1535, 1, none⟩ = some (.string a0_1) ∧ w'.cell? ⟨gb1535, 2, none⟩ = some (.string a0_2) ∧ w'.cell? ⟨gb1535, 3, none⟩ = some (.slice A0_3 l0_3.length c0_3) ∧ w'.cell? ⟨gb1535, 4, none⟩ = some (.slice A0_4 l0_4.length c0_4) ∧ w'.cell? ⟨gb1536, 0, none⟩ = some (.string a1_0) ∧ w'.cell? ⟨gb1536, 1, none⟩ = some (.string a1_1) ∧ w'.cell? ⟨gb1536, 2, none⟩ = some (.string a1_2) ∧ w'.cell? ⟨gb1536, 3, none⟩ = some (.slice A1_3 l1_3.length c1_3) ∧ w'.cell? ⟨gb1536, 4, none⟩ = some (.slice A1_4 l1_4.length c1_4)) (ds := [4, 5]) #[false, false, false, false, false, false] kr_ rfl rfl ⟨(blk_cell BK1535.out 0).trans rfl, (blk_cell BK1535.out 1).trans rfl, (blk_cell BK1535.out 2).trans rfl, (blk_cell BK1535.out 3).trans rfl, (blk_cell BK1535.out 4).trans rfl, (blk_cell BK1536.out 0).trans rfl, (blk_cell BK1536.out 1).trans rfl, (blk_cell BK1536.out 2).trans rfl, (blk_cell BK1536.out 3).trans rfl, (blk_cell BK1536.out 4).trans rfl⟩ (fun hHeld => ?_)
   generalize w139.drew = w140 at BK1535 BK1536 HB hHeld ⊢
   refine take_ (i := 0) (N := some 10) (v := ?_) (a' := ?_) #[true, false, false, false, false, false] rfl rfl kr_ (fun _ _ _ h => h) (Or.inl ⟨by rfl, ?_⟩) hHeld ?_ ?_
   rotate_left
   ·rintro w' ⟨s0, s1, s2, s3, s4, s5, s6, s7, s8, s9⟩
    go_simp
    with_reducible rfl
   rotate_left
   ·simp only [Act.put, sx_, s0_, s1_, i64_w, i32_w]
    rfl
   refine take_ (i := 2) (N := some 12) (v := ?_) (a' := ?_) #[true, false, true, false, false, false] rfl rfl kr_ (fun _ _ _ h => h) (Or.inl ⟨by rfl, ?_⟩) hHeld ?_ ?_
   rotate_left
   ·rintro w' ⟨s0, s1, s2, s3, s4, s5, s6, s7, s8, s9⟩
    go_simp
    with_reducible rfl
   rotate_left
   ·simp only [Act.put, sx_, s0_, s1_, i64_w, i32_w]
    rfl
   refine one_ (i := 1) (N := some 11) #[true, true, true, false, false, false] rfl rfl kr_ (by decide) (fun K hK => ?_)
   refine goes_ Tryd.func9 kr_ rfl #[.agg #[.int .i64 a0_0, .string a0_1, .string a0_2, .slice A0_3 l0_3.length c0_3, .slice A0_4 l0_4.length c0_4]] (by rfl) rfl rfl rl_ ?_
   with_reducible refine (tolllaw06_Few.calls k a0_0 a0_1 a0_2 _ _ l0_3 _ _ l0_4 t1537 t1538 t1539 t1540 t1543 _ ?side1 ?side2 ?side3 ?side4 A4.out).mono ?_
   (case side1 => exact C_ (Kd.C_below HR0_3.out HB.out))
   (case side2 => exact HC0_3.out)
   (case side3 => exact C_ (Kd.C_below HR0_4.out HB.out))
   (case side4 => exact HC0_4.out)
   rintro e w141 ⟨v1541, v1544, rfl, ho0, ho1, hb⟩
   refine ⟨_, rfl, ?_⟩
   have n0_ := am_ (Kd.R_lower ho0 (below_size (bel_ HB.out)))
   have n1_ := am_ (Kd.R_lower ho1 (below_size (bel_ HB.out)))
   have n2_ := am_ (blk_below (g := gb1535) (o := .cells #[.int .i64 a0_0, .string a0_1, .string a0_2, .slice A0_3 l0_3.length c0_3, .slice A0_4 l0_4.length c0_4] 26 (0, 0)) (blk_ BK1535.out) hb)
   have n3_ := am_ (blk_below (g := gb1536) (o := .cells #[.string a1_0, .string a1_1, .string a1_2, .slice A1_3 l1_3.length c1_3, .slice A1_4 l1_4.length c1_4] 28 (0, 0)) (blk_ BK1536.out) hb)
   have n4_ := am_ (below_step (bel_ HB.out) hb)
   clear BK1535 BK1536 HB
   have HO1542 := n0_
   have HO1545 := n1_
   have BK1535 := n2_
   have BK1536 := n3_
   have HB := n4_
   clear n0_ n1_ n2_ n3_ n4_
   (try clear hb)
   (try clear hb2)
   (try clear hk)
   (try clear hi)
   (try clear ho0)
   (try clear ho1)
   refine hK.out _ _ ⟨(blk_cell BK1535.out 0).trans rfl, (blk_cell BK1535.out 1).trans rfl, (blk_cell BK1535.out 2).trans rfl, (blk_cell BK1535.out 3).trans rfl, (blk_cell BK1535.out 4).trans rfl, (blk_cell BK1536.out 0).trans rfl, (blk_cell BK1536.out 1).trans rfl, (blk_cell BK1536.out 2).trans rfl, (blk_cell BK1536.out 3).trans rfl, (blk_cell BK1536.out 4).trans rfl⟩ (fun hHeld => ?_)
   clear hK K
   refine norm_ (a' := ?_) ?_ ?_
   rotate_left
   ·show Act.put _ (some 11) _ = _
    simp only [Act.put, sx_, s0_, s1_, i64_w, i32_w]
    rfl
   refine one_ (i := 3) (N := some 13) #[true, true, true, true, false, false] rfl rfl kr_ (by decide) (fun K hK => ?_)
   refine goes_ Tryd.func10 kr_ rfl #[.agg #[.string a1_0, .string a1_1, .string a1_2, .slice A1_3 l1_3.length c1_3, .slice A1_4 l1_4.length c1_4]] (by rfl) rfl rfl rl_ ?_
   with_reducible refine (tolllaw06_Asked.calls k a1_0 a1_1 a1_2 _ _ l1_3 _ _ l1_4 t1546 t1547 t1548 t1549 t1552 _ ?side1 ?side2 ?side3 ?side4 A5.out).mono ?_
   (case side1 => exact C_ (Kd.C_below HR1_3.out HB.out))
   (case side2 => exact HC1_3.out)
   (case side3 => exact C_ (Kd.C_below HR1_4.out HB.out))
   (case side4 => exact HC1_4.out)
   rintro e w142 ⟨v1550, v1553, rfl, ho0, ho1, hb⟩
   refine ⟨_, rfl, ?_⟩
   have n0_ := am_ (Kd.R_mono (Kd.R_told (Kd.R_told (Kd.R_old (R_ HO1542.out) hb) (Kd.R_base ho0)) (Kd.R_base ho1)) (fun _ h_ => h_.1))
   have n1_ := am_ (Kd.R_mono (Kd.R_told (Kd.R_told (Kd.R_old (R_ HO1545.out) hb) (Kd.R_base ho0)) (Kd.R_base ho1)) (fun _ h_ => h_.1))
   have n2_ := am_ (Kd.R_lower (Kd.R_new' (Kd.R_new' ho0 (Kd.R_lt (R_ HO1542.out))) (Kd.R_lt (R_ HO1545.out))) (below_size (bel_ HB.out)))
   have n3_ := am_ (Kd.R_lower (Kd.R_new' (Kd.R_new' ho1 (Kd.R_lt (R_ HO1542.out))) (Kd.R_lt (R_ HO1545.out))) (below_size (bel_ HB.out)))
   have n4_ := am_ (blk_below (g := gb1535) (o := .cells #[.int .i64 a0_0, .string a0_1, .string a0_2, .slice A0_3 l0_3.length c0_3, .slice A0_4 l0_4.length c0_4] 26 (0, 0)) (blk_ BK1535.out) hb)
   have n5_ := am_ (blk_below (g := gb1536) (o := .cells #[.string a1_0, .string a1_1, .string a1_2, .slice A1_3 l1_3.length c1_3, .slice A1_4 l1_4.length c1_4] 28 (0, 0)) (blk_ BK1536.out) hb)
   have n6_ := am_ (below_step (bel_ HB.out) hb)
   clear HO1542 HO1545 BK1535 BK1536 HB
   have HO1542 := n0_
   have HO1545 := n1_
   have HO1551 := n2_
   have HO1554 := n3_
   have BK1535 := n4_
   have BK1536 := n5_
   have HB := n6_
   clear n0_ n1_ n2_ n3_ n4_ n5_ n6_
   (try clear hb)
   (try clear hb2)
   (try clear hk)
   (try clear hi)
   (try clear ho0)
   (try clear ho1)
   obtain ⟨Ao146, co146, eo146⟩ := Kd.R_slice HO1542.out
   (first | subst eo146 | (injection eo146 with f1_ f2_ f3_; have f4_ := f1_.symm; have f5_ := f3_.symm; clear f1_ f2_ f3_; subst f4_; subst f5_))
   obtain ⟨Ao148, co148, eo148⟩ := Kd.R_slice HO1545.out
   (first | subst eo148 | (injection eo148 with f1_ f2_ f3_; have f4_ := f1_.symm; have f5_ := f3_.symm; clear f1_ f2_ f3_; subst f4_; subst f5_))
   obtain ⟨Ao153, co153, eo153⟩ := Kd.R_slice HO1551.out
   (first | subst eo153 | (injection eo153 with f1_ f2_ f3_; have f4_ := f1_.symm; have f5_ := f3_.symm; clear f1_ f2_ f3_; subst f4_; subst f5_))
   obtain ⟨Ao155, co155, eo155⟩ := Kd.R_slice HO1554.out
   (first | subst eo155 | (injection eo155 with f1_ f2_ f3_; have f4_ := f1_.symm; have f5_ := f3_.symm; clear f1_ f2_ f3_; subst f4_; subst f5_))
   refine hK.out _ _ ⟨(blk_cell BK1535.out 0).trans rfl, (blk_cell BK1535.out 1).trans rfl, (blk_cell BK1535.out 2).trans rfl, (blk_cell BK1535.out 3).trans rfl, (blk_cell BK1535.out 4).trans rfl, (blk_cell BK1536.out 0).trans rfl, (blk_cell BK1536.out 1).trans rfl, (blk_cell BK1536.out 2).trans rfl, (blk_cell BK1536.out 3).trans rfl, (blk_cell BK1536.out 4).trans rfl⟩ (fun hHeld => ?_)
   clear hK K
   refine norm_ (a' := ?_) ?_ ?_
   rotate_left
   ·show Act.put _ (some 13) _ = _
    simp only [Act.put, sx_, s0_, s1_, i64_w, i32_w]
    rfl
   refine last_ (i := 4) (N := none) #[true, true, true, true, true, false] rfl rfl kr_ (by decide) (fun K hK => ?_)
   have hs143 : w142.cell? ⟨gb1535, 0, none⟩ = some (.int .i64 a0_0) := (blk_cell BK1535.out 0).trans rfl
   have hfs143 := blk_frozen BK1535.out 0
   have hns143_1 := NB1536_1535.out
   have hms143_1 := NB1535_1536.out
   have hs144 : w142.cell? ⟨gb1535, 1, none⟩ = some (.string a0_1) := (blk_cell BK1535.out 1).trans rfl
   have hfs144 := blk_frozen BK1535.out 1
   have hns144_1 := NB1536_1535.out
   have hms144_1 := NB1535_1536.out
   have hs145 : w142.cell? ⟨gb1535, 2, none⟩ = some (.string a0_2) := (blk_cell BK1535.out 2).trans rfl
   have hfs145 := blk_frozen BK1535.out 2
   have hns145_1 := NB1536_1535.out
   have hms145_1 := NB1535_1536.out
   have hs147 : w142.cell? ⟨gb1535, 3, none⟩ = some (.slice A0_3 l0_3.length c0_3) := (blk_cell BK1535.out 3).trans rfl
   have hfs147 := blk_frozen BK1535.out 3
   have hns147_1 := NB1536_1535.out
   have hms147_1 := NB1535_1536.out
   have hs149 : w142.cell? ⟨gb1535, 4, none⟩ = some (.slice A0_4 l0_4.length c0_4) := (blk_cell BK1535.out 4).trans rfl
   have hfs149 := blk_frozen BK1535.out 4
   have hns149_1 := NB1536_1535.out
   have hms149_1 := NB1535_1536.out
   refine skip_ (w1 := ?_) (by rfl) rfl ?_ ?_
   rotate_left
   ·go_simp
    rfl
   refine hK.out _ _ ?_
   clear hK K
   refine last_ (i := 5) (N := none) #[true, true, true, true, true, true] rfl rfl kr_ (by decide) (fun K hK => ?_)
   have hs150 : w142.cell? ⟨gb1536, 0, none⟩ = some (.string a1_0) := (blk_cell BK1536.out 0).trans rfl
   have hfs150 := blk_frozen BK1536.out 0
   have hns150_0 := NB1535_1536.out
   have hms150_0 := NB1536_1535.out
   have hs151 : w142.cell? ⟨gb1536, 1, none⟩ = some (.string a1_1) := (blk_cell BK1536.out 1).trans rfl
   have hfs151 := blk_frozen BK1536.out 1
   have hns151_0 := NB1535_1536.out
   have hms151_0 := NB1536_1535.out
   have hs152 : w142.cell? ⟨gb1536, 2, none⟩ = some (.string a1_2) := (blk_cell BK1536.out 2).trans rfl
   have hfs152 := blk_frozen BK1536.out 2
   have hns152_0 := NB1535_1536.out
   have hms152_0 := NB1536_1535.out
   have hs154 : w142.cell? ⟨gb1536, 3, none⟩ = some (.slice A1_3 l1_3.length c1_3) := (blk_cell BK1536.out 3).trans rfl
   have hfs154 := blk_frozen BK1536.out 3
   have hns154_0 := NB1535_1536.out
   have hms154_0 := NB1536_1535.out
   have hs156 : w142.cell? ⟨gb1536, 4, none⟩ = some (.slice A1_4 l1_4.length c1_4) := (blk_cell BK1536.out 4).trans rfl
   have hfs156 := blk_frozen BK1536.out 4
   have hns156_0 := NB1535_1536.out
   have hms156_0 := NB1536_1535.out
   refine skip_ (w1 := ?_) (by rfl) rfl ?_ ?_
   rotate_left
   ·go_simp
    rfl
   refine hK.out _ _ ?_
   clear hK K
   refine done_ kr_ ?_
   have hnb157 := NB1535_1536.out
   have hnc157 := NB1536_1535.out
   have hcz158_0 : w142.cell? ⟨gb1535, 0, none⟩ = some (.int .i64 a0_0) := (blk_cell BK1535.out 0).trans rfl
   have hcz158_1 : w142.cell? ⟨gb1535, 1, none⟩ = some (.string a0_1) := (blk_cell BK1535.out 1).trans rfl
   have hcz158_2 : w142.cell? ⟨gb1535, 2, none⟩ = some (.string a0_2) := (blk_cell BK1535.out 2).trans rfl
   have hcz158_3 : w142.cell? ⟨gb1535, 3, none⟩ = some (.slice A0_3 l0_3.length c0_3) := (blk_cell BK1535.out 3).trans rfl
   have hcz158_4 : w142.cell? ⟨gb1535, 4, none⟩ = some (.slice A0_4 l0_4.length c0_4) := (blk_cell BK1535.out 4).trans rfl
   have hfz158_0 := blk_frozen BK1535.out 0
   have hfz158_1 := blk_frozen BK1535.out 1
   have hfz158_2 := blk_frozen BK1535.out 2
   have hfz158_3 := blk_frozen BK1535.out 3
   have hfz158_4 := blk_frozen BK1535.out 4
   try go_wp2_with (first | ((with_reducible refine gate_callee (f := 12) rfl ?_); refine goesL_ (some 15) rfl rfl Tryd.func12 kr_ rfl #[.agg #[.int .i64 t1537, .string t1538, .string t1539, .slice Ao146 t1540.length co146, .slice Ao148 t1543.length co148]] rfl rl_ ?_; (with_reducible refine (rule_May.calls k t1537 t1538 t1539 _ _ t1540 _ _ t1543 false _ ?side1 ?side2 ?side3 ?side4 A6.out).mono ?_); (case side1 => refine (Kd.R_reads' (e := 49) (base := w.heap.size) (ok := fun k_ => ((some k_ ≠ (.slice Ao148 t1543.length co148 : Value).ownBlock ∧ some k_ ≠ (.slice Ao153 t1549.length co153 : Value).ownBlock) ∧ some k_ ≠ (.slice Ao155 t1552.length co155 : Value).ownBlock)) (n := t1540.length) (c := co146) ?_).2.2; exact (by (with_reducible repeat (first | apply Kd.R_alloc | apply Kd.R_drewN | apply Kd.R_drew)); exact (Kd.R_mono (Kd.R_mono (Kd.R_far (p := ⟨gb1536, 4, none⟩) (Kd.R_far (p := ⟨gb1536, 3, none⟩) (Kd.R_far (p := ⟨gb1536, 2, none⟩) (Kd.R_far (p := ⟨gb1536, 1, none⟩) (Kd.R_far (p := ⟨gb1536, 0, none⟩) (Kd.R_far (p := ⟨gb1535, 4, none⟩) (Kd.R_far (p := ⟨gb1535, 3, none⟩) (Kd.R_far (p := ⟨gb1535, 2, none⟩) (Kd.R_far (p := ⟨gb1535, 1, none⟩) (Kd.R_far (p := ⟨gb1535, 0, none⟩) (Kd.R_types (Kd.R_types HO1542.out BK1535.out (by decide)) BK1536.out (by decide)) (fun _ hk => hk.1.2) (.int .i64 t1537)) (fun _ hk => hk.1.2) (.string t1538)) (fun _ hk => hk.1.2) (.string t1539)) (fun _ hk => hk.1.2) (.slice Ao146 t1540.length co146)) (fun _ hk => hk.1.2) (.slice Ao148 t1543.length co148)) (fun _ hk => hk.2) (.string t1546)) (fun _ hk => hk.2) (.string t1547)) (fun _ hk => hk.2) (.string t1548)) (fun _ hk => hk.2) (.slice Ao153 t1549.length co153)) (fun _ hk => hk.2) (.slice Ao155 t1552.length co155)) (fun _ h_ => h_.1)) (fun _ h_ => h_.1)))); (case side2 => exact (Kd.R_reads' HO1542.out).2.1); (case side3 => refine (Kd.R_reads' (e := 49) (base := w.heap.size) (ok := fun k_ => ((some k_ ≠ (.slice Ao146 t1540.length co146 : Value).ownBlock ∧ some k_ ≠ (.slice Ao153 t1549.length co153 : Value).ownBlock) ∧ some k_ ≠ (.slice Ao155 t1552.length co155 : Value).ownBlock)) (n := t1543.length) (c := co148) ?_).2.2; exact (by (with_reducible repeat (first | apply Kd.R_alloc | apply Kd.R_drewN | apply Kd.R_drew)); exact (Kd.R_mono (Kd.R_mono (Kd.R_far (p := ⟨gb1536, 4, none⟩) (Kd.R_far (p := ⟨gb1536, 3, none⟩) (Kd.R_far (p := ⟨gb1536, 2, none⟩) (Kd.R_far (p := ⟨gb1536, 1, none⟩) (Kd.R_far (p := ⟨gb1536, 0, none⟩) (Kd.R_far (p := ⟨gb1535, 4, none⟩) (Kd.R_far (p := ⟨gb1535, 3, none⟩) (Kd.R_far (p := ⟨gb1535, 2, none⟩) (Kd.R_far (p := ⟨gb1535, 1, none⟩) (Kd.R_far (p := ⟨gb1535, 0, none⟩) (Kd.R_types (Kd.R_types HO1545.out BK1535.out (by decide)) BK1536.out (by decide)) (fun _ hk => hk.1.2) (.int .i64 t1537)) (fun _ hk => hk.1.2) (.string t1538)) (fun _ hk => hk.1.2) (.string t1539)) (fun _ hk => hk.1.2) (.slice Ao146 t1540.length co146)) (fun _ hk => hk.1.2) (.slice Ao148 t1543.length co148)) (fun _ hk => hk.2) (.string t1546)) (fun _ hk => hk.2) (.string t1547)) (fun _ hk => hk.2) (.string t1548)) (fun _ hk => hk.2) (.slice Ao153 t1549.length co153)) (fun _ hk => hk.2) (.slice Ao155 t1552.length co155)) (fun _ h_ => h_.1)) (fun _ h_ => h_.1)))); (case side4 => exact (Kd.R_reads' HO1545.out).2.1); rintro e w159 ⟨rfl, hb⟩; refine ⟨_, rfl, ?_⟩; have n0_ := am_ (Kd.R_below (by (with_reducible repeat (first | apply Kd.R_alloc | apply Kd.R_drewN | apply Kd.R_drew)); exact (Kd.R_mono (Kd.R_mono (Kd.R_far (p := ⟨gb1536, 4, none⟩) (Kd.R_far (p := ⟨gb1536, 3, none⟩) (Kd.R_far (p := ⟨gb1536, 2, none⟩) (Kd.R_far (p := ⟨gb1536, 1, none⟩) (Kd.R_far (p := ⟨gb1536, 0, none⟩) (Kd.R_far (p := ⟨gb1535, 4, none⟩) (Kd.R_far (p := ⟨gb1535, 3, none⟩) (Kd.R_far (p := ⟨gb1535, 2, none⟩) (Kd.R_far (p := ⟨gb1535, 1, none⟩) (Kd.R_far (p := ⟨gb1535, 0, none⟩) (Kd.R_types (Kd.R_types HO1542.out BK1535.out (by decide)) BK1536.out (by decide)) (fun _ hk => hk.1.2) (.int .i64 t1537)) (fun _ hk => hk.1.2) (.string t1538)) (fun _ hk => hk.1.2) (.string t1539)) (fun _ hk => hk.1.2) (.slice Ao146 t1540.length co146)) (fun _ hk => hk.1.2) (.slice Ao148 t1543.length co148)) (fun _ hk => hk.2) (.string t1546)) (fun _ hk => hk.2) (.string t1547)) (fun _ hk => hk.2) (.string t1548)) (fun _ hk => hk.2) (.slice Ao153 t1549.length co153)) (fun _ hk => hk.2) (.slice Ao155 t1552.length co155)) (fun _ h_ => h_.1)) (fun _ h_ => h_.1))) hb); have n1_ := am_ (Kd.R_below (by (with_reducible repeat (first | apply Kd.R_alloc | apply Kd.R_drewN | apply Kd.R_drew)); exact (Kd.R_mono (Kd.R_mono (Kd.R_far (p := ⟨gb1536, 4, none⟩) (Kd.R_far (p := ⟨gb1536, 3, none⟩) (Kd.R_far (p := ⟨gb1536, 2, none⟩) (Kd.R_far (p := ⟨gb1536, 1, none⟩) (Kd.R_far (p := ⟨gb1536, 0, none⟩) (Kd.R_far (p := ⟨gb1535, 4, none⟩) (Kd.R_far (p := ⟨gb1535, 3, none⟩) (Kd.R_far (p := ⟨gb1535, 2, none⟩) (Kd.R_far (p := ⟨gb1535, 1, none⟩) (Kd.R_far (p := ⟨gb1535, 0, none⟩) (Kd.R_types (Kd.R_types HO1545.out BK1535.out (by decide)) BK1536.out (by decide)) (fun _ hk => hk.1.2) (.int .i64 t1537)) (fun _ hk => hk.1.2) (.string t1538)) (fun _ hk => hk.1.2) (.string t1539)) (fun _ hk => hk.1.2) (.slice Ao146 t1540.length co146)) (fun _ hk => hk.1.2) (.slice Ao148 t1543.length co148)) (fun _ hk => hk.2) (.string t1546)) (fun _ hk => hk.2) (.string t1547)) (fun _ hk => hk.2) (.string t1548)) (fun _ hk => hk.2) (.slice Ao153 t1549.length co153)) (fun _ hk => hk.2) (.slice Ao155 t1552.length co155)) (fun _ h_ => h_.1)) (fun _ h_ => h_.1))) hb); have n2_ := am_ (Kd.R_below (by (with_reducible repeat (first | apply Kd.R_alloc | apply Kd.R_drewN | apply Kd.R_drew)); exact (Kd.R_mono (Kd.R_mono (Kd.R_far (p := ⟨gb1536, 4, none⟩) (Kd.R_far (p := ⟨gb1536, 3, none⟩) (Kd.R_far (p := ⟨gb1536, 2, none⟩) (Kd.R_far (p := ⟨gb1536, 1, none⟩) (Kd.R_far (p := ⟨gb1536, 0, none⟩) (Kd.R_far (p := ⟨gb1535, 4, none⟩) (Kd.R_far (p := ⟨gb1535, 3, none⟩) (Kd.R_far (p := ⟨gb1535, 2, none⟩) (Kd.R_far (p := ⟨gb1535, 1, none⟩) (Kd.R_far (p := ⟨gb1535, 0, none⟩) (Kd.R_types (Kd.R_types HO1551.out BK1535.out (by decide)) BK1536.out (by decide)) (fun _ hk => hk.1.2) (.int .i64 t1537)) (fun _ hk => hk.1.2) (.string t1538)) (fun _ hk => hk.1.2) (.string t1539)) (fun _ hk => hk.1.2) (.slice Ao146 t1540.length co146)) (fun _ hk => hk.1.2) (.slice Ao148 t1543.length co148)) (fun _ hk => hk.2) (.string t1546)) (fun _ hk => hk.2) (.string t1547)) (fun _ hk => hk.2) (.string t1548)) (fun _ hk => hk.2) (.slice Ao153 t1549.length co153)) (fun _ hk => hk.2) (.slice Ao155 t1552.length co155)) (fun _ h_ => h_.1)) (fun _ h_ => h_.1))) hb); have n3_ := am_ (Kd.R_below (by (with_reducible repeat (first | apply Kd.R_alloc | apply Kd.R_drewN | apply Kd.R_drew)); exact (Kd.R_mono (Kd.R_mono (Kd.R_far (p := ⟨gb1536, 4, none⟩) (Kd.R_far (p := ⟨gb1536, 3, none⟩) (Kd.R_far (p := ⟨gb1536, 2, none⟩) (Kd.R_far (p := ⟨gb1536, 1, none⟩) (Kd.R_far (p := ⟨gb1536, 0, none⟩) (Kd.R_far (p := ⟨gb1535, 4, none⟩) (Kd.R_far (p := ⟨gb1535, 3, none⟩) (Kd.R_far (p := ⟨gb1535, 2, none⟩) (Kd.R_far (p := ⟨gb1535, 1, none⟩) (Kd.R_far (p := ⟨gb1535, 0, none⟩) (Kd.R_types (Kd.R_types HO1554.out BK1535.out (by decide)) BK1536.out (by decide)) (fun _ hk => hk.1.2) (.int .i64 t1537)) (fun _ hk => hk.1.2) (.string t1538)) (fun _ hk => hk.1.2) (.string t1539)) (fun _ hk => hk.1.2) (.slice Ao146 t1540.length co146)) (fun _ hk => hk.1.2) (.slice Ao148 t1543.length co148)) (fun _ hk => hk.2) (.string t1546)) (fun _ hk => hk.2) (.string t1547)) (fun _ hk => hk.2) (.string t1548)) (fun _ hk => hk.2) (.slice Ao153 t1549.length co153)) (fun _ hk => hk.2) (.slice Ao155 t1552.length co155)) (fun _ h_ => h_.1)) (fun _ h_ => h_.1))) hb); have n4_ := am_ (blk_below (g := gb1535) (o := .cells #[.int .i64 t1537, .string t1538, .string t1539, .slice Ao146 t1540.length co146, .slice Ao148 t1543.length co148] 26 (0, 0)) (by (with_reducible repeat (first | refine blk_drewN ?_ _ | refine blk_drew ?_ | refine blk_alloc ?_ _)); refine blk_far ?_ NB1535_1536.out _; (with_reducible repeat (first | refine blk_drewN ?_ _ | refine blk_drew ?_ | refine blk_alloc ?_ _)); refine blk_far ?_ NB1535_1536.out _; (with_reducible repeat (first | refine blk_drewN ?_ _ | refine blk_drew ?_ | refine blk_alloc ?_ _)); refine blk_far ?_ NB1535_1536.out _; (with_reducible repeat (first | refine blk_drewN ?_ _ | refine blk_drew ?_ | refine blk_alloc ?_ _)); refine blk_far ?_ NB1535_1536.out _; (with_reducible repeat (first | refine blk_drewN ?_ _ | refine blk_drew ?_ | refine blk_alloc ?_ _)); refine blk_far ?_ NB1535_1536.out _; (with_reducible repeat (first | refine blk_drewN ?_ _ | refine blk_drew ?_ | refine blk_alloc ?_ _)); refine blk_put (cs := #[.int .i64 t1537, .string t1538, .string t1539, .slice Ao146 t1540.length co146, .slice A0_4 l0_4.length c0_4]) ?_ 4 _ rfl; (with_reducible repeat (first | refine blk_drewN ?_ _ | refine blk_drew ?_ | refine blk_alloc ?_ _)); refine blk_put (cs := #[.int .i64 t1537, .string t1538, .string t1539, .slice A0_3 l0_3.length c0_3, .slice A0_4 l0_4.length c0_4]) ?_ 3 _ rfl; (with_reducible repeat (first | refine blk_drewN ?_ _ | refine blk_drew ?_ | refine blk_alloc ?_ _)); refine blk_put (cs := #[.int .i64 t1537, .string t1538, .string a0_2, .slice A0_3 l0_3.length c0_3, .slice A0_4 l0_4.length c0_4]) ?_ 2 _ rfl; (with_reducible repeat (first | refine blk_drewN ?_ _ | refine blk_drew ?_ | refine blk_alloc ?_ _)); refine blk_put (cs := #[.int .i64 t1537, .string a0_1, .string a0_2, .slice A0_3 l0_3.length c0_3, .slice A0_4 l0_4.length c0_4]) ?_ 1 _ rfl; (with_reducible repeat (first | refine blk_drewN ?_ _ | refine blk_drew ?_ | refine blk_alloc ?_ _)); refine blk_put (cs := #[.int .i64 a0_0, .string a0_1, .string a0_2, .slice A0_3 l0_3.length c0_3, .slice A0_4 l0_4.length c0_4]) ?_ 0 _ rfl; (with_reducible repeat (first | refine blk_drewN ?_ _ | refine blk_drew ?_ | refine blk_alloc ?_ _)); exact BK1535.out) hb); have n5_ := am_ (blk_below (g := gb1536) (o := .cells #[.string t1546, .string t1547, .string t1548, .slice Ao153 t1549.length co153, .slice Ao155 t1552.length co155] 28 (0, 0)) (by (with_reducible repeat (first | refine blk_drewN ?_ _ | refine blk_drew ?_ | refine blk_alloc ?_ _)); refine blk_put (cs := #[.string t1546, .string t1547, .string t1548, .slice Ao153 t1549.length co153, .slice A1_4 l1_4.length c1_4]) ?_ 4 _ rfl; (with_reducible repeat (first | refine blk_drewN ?_ _ | refine blk_drew ?_ | refine blk_alloc ?_ _)); refine blk_put (cs := #[.string t1546, .string t1547, .string t1548, .slice A1_3 l1_3.length c1_3, .slice A1_4 l1_4.length c1_4]) ?_ 3 _ rfl; (with_reducible repeat (first | refine blk_drewN ?_ _ | refine blk_drew ?_ | refine blk_alloc ?_ _)); refine blk_put (cs := #[.string t1546, .string t1547, .string a1_2, .slice A1_3 l1_3.length c1_3, .slice A1_4 l1_4.length c1_4]) ?_ 2 _ rfl; (with_reducible repeat (first | refine blk_drewN ?_ _ | refine blk_drew ?_ | refine blk_alloc ?_ _)); refine blk_put (cs := #[.string t1546, .string a1_1, .string a1_2, .slice A1_3 l1_3.length c1_3, .slice A1_4 l1_4.length c1_4]) ?_ 1 _ rfl; (with_reducible repeat (first | refine blk_drewN ?_ _ | refine blk_drew ?_ | refine blk_alloc ?_ _)); refine blk_put (cs := #[.string a1_0, .string a1_1, .string a1_2, .slice A1_3 l1_3.length c1_3, .slice A1_4 l1_4.length c1_4]) ?_ 0 _ rfl; (with_reducible repeat (first | refine blk_drewN ?_ _ | refine blk_drew ?_ | refine blk_alloc ?_ _)); refine blk_far ?_ NB1536_1535.out _; (with_reducible repeat (first | refine blk_drewN ?_ _ | refine blk_drew ?_ | refine blk_alloc ?_ _)); refine blk_far ?_ NB1536_1535.out _; (with_reducible repeat (first | refine blk_drewN ?_ _ | refine blk_drew ?_ | refine blk_alloc ?_ _)); refine blk_far ?_ NB1536_1535.out _; (with_reducible repeat (first | refine blk_drewN ?_ _ | refine blk_drew ?_ | refine blk_alloc ?_ _)); refine blk_far ?_ NB1536_1535.out _; (with_reducible repeat (first | refine blk_drewN ?_ _ | refine blk_drew ?_ | refine blk_alloc ?_ _)); refine blk_far ?_ NB1536_1535.out _; (with_reducible repeat (first | refine blk_drewN ?_ _ | refine blk_drew ?_ | refine blk_alloc ?_ _)); exact BK1536.out) hb); have n6_ := am_ (below_step (bel_ HB.out) hb); clear HO1542 HO1545 HO1551 HO1554 BK1535 BK1536 HB; have HO1542 := n0_; have HO1545 := n1_; have HO1551 := n2_; have HO1554 := n3_; have BK1535 := n4_; have BK1536 := n5_; have HB := n6_; clear n0_ n1_ n2_ n3_ n4_ n5_ n6_; (try clear hb); (try clear hb2); (try clear hk); (try clear hi); have hcz160_0 : w159.cell? ⟨gb1535, 0, none⟩ = some (.int .i64 t1537) := (blk_cell BK1535.out 0).trans rfl; have hcz160_1 : w159.cell? ⟨gb1535, 1, none⟩ = some (.string t1538) := (blk_cell BK1535.out 1).trans rfl; have hcz160_2 : w159.cell? ⟨gb1535, 2, none⟩ = some (.string t1539) := (blk_cell BK1535.out 2).trans rfl; have hcz160_3 : w159.cell? ⟨gb1535, 3, none⟩ = some (.slice Ao146 t1540.length co146) := (blk_cell BK1535.out 3).trans rfl; have hcz160_4 : w159.cell? ⟨gb1535, 4, none⟩ = some (.slice Ao148 t1543.length co148) := (blk_cell BK1535.out 4).trans rfl; have hfz160_0 := blk_frozen BK1535.out 0; have hfz160_1 := blk_frozen BK1535.out 1; have hfz160_2 := blk_frozen BK1535.out 2; have hfz160_3 := blk_frozen BK1535.out 3; have hfz160_4 := blk_frozen BK1535.out 4; have hcz161_0 : w159.cell? ⟨gb1536, 0, none⟩ = some (.string t1546) := (blk_cell BK1536.out 0).trans rfl; have hcz161_1 : w159.cell? ⟨gb1536, 1, none⟩ = some (.string t1547) := (blk_cell BK1536.out 1).trans rfl; have hcz161_2 : w159.cell? ⟨gb1536, 2, none⟩ = some (.string t1548) := (blk_cell BK1536.out 2).trans rfl; have hcz161_3 : w159.cell? ⟨gb1536, 3, none⟩ = some (.slice Ao153 t1549.length co153) := (blk_cell BK1536.out 3).trans rfl; have hcz161_4 : w159.cell? ⟨gb1536, 4, none⟩ = some (.slice Ao155 t1552.length co155) := (blk_cell BK1536.out 4).trans rfl; have hfz161_0 := blk_frozen BK1536.out 0; have hfz161_1 := blk_frozen BK1536.out 1; have hfz161_2 := blk_frozen BK1536.out 2; have hfz161_3 := blk_frozen BK1536.out 3; have hfz161_4 := blk_frozen BK1536.out 4) | ((with_reducible refine gate_callee (f := 14) rfl ?_); refine goesL_ (some 19) rfl rfl Tryd.func14 kr_ rfl #[.agg #[.int .i64 t1537, .string t1538, .string t1539, .slice Ao146 t1540.length co146, .slice Ao148 t1543.length co148], .agg #[.string t1546, .string t1547, .string t1548, .slice Ao153 t1549.length co153, .slice Ao155 t1552.length co155]] rfl rl_ ?_; (with_reducible refine (rule_Holds.calls k t1537 t1538 t1539 _ _ t1540 _ _ t1543 t1546 t1547 t1548 _ _ t1549 _ _ t1552 false _ ?side1 ?side2 ?side3 ?side4 ?side5 ?side6 ?side7 ?side8 A135.out).mono ?_); (case side1 => exact C_ (Kd.R_reads' HO1542.out).2.2); (case side2 => exact (Kd.R_reads' HO1542.out).2.1); (case side3 => exact C_ (Kd.R_reads' HO1545.out).2.2); (case side4 => exact (Kd.R_reads' HO1545.out).2.1); (case side5 => exact C_ (Kd.R_reads' HO1551.out).2.2); (case side6 => exact (Kd.R_reads' HO1551.out).2.1); (case side7 => exact C_ (Kd.R_reads' HO1554.out).2.2); (case side8 => exact (Kd.R_reads' HO1554.out).2.1); rintro e w162 ⟨rfl, hb⟩; refine ⟨_, rfl, ?_⟩; have n0_ := am_ (Kd.R_below (R_ HO1542.out) hb); have n1_ := am_ (Kd.R_below (R_ HO1545.out) hb); have n2_ := am_ (Kd.R_below (R_ HO1551.out) hb); have n3_ := am_ (Kd.R_below (R_ HO1554.out) hb); have n4_ := am_ (blk_below (g := gb1535) (o := .cells #[.int .i64 t1537, .string t1538, .string t1539, .slice Ao146 t1540.length co146, .slice Ao148 t1543.length co148] 26 (0, 0)) (blk_ BK1535.out) hb); have n5_ := am_ (blk_below (g := gb1536) (o := .cells #[.string t1546, .string t1547, .string t1548, .slice Ao153 t1549.length co153, .slice Ao155 t1552.length co155] 28 (0, 0)) (blk_ BK1536.out) hb); have n6_ := am_ (below_step (bel_ HB.out) hb); clear HO1542 HO1545 HO1551 HO1554 BK1535 BK1536 HB; have HO1542 := n0_; have HO1545 := n1_; have HO1551 := n2_; have HO1554 := n3_; have BK1535 := n4_; have BK1536 := n5_; have HB := n6_; clear n0_ n1_ n2_ n3_ n4_ n5_ n6_; (try clear hb); (try clear hb2); (try clear hk); (try clear hi)) | (go_at_call 18; (with_reducible refine (tolllaw06_awake.calls  t1557 _ A137.out).mono ?_); rintro e w163 ⟨rfl, hb⟩; have n0_ := am_ (Kd.R_below (R_ HO1542.out) hb); have n1_ := am_ (Kd.R_below (R_ HO1545.out) hb); have n2_ := am_ (Kd.R_below (R_ HO1551.out) hb); have n3_ := am_ (Kd.R_below (R_ HO1554.out) hb); have n4_ := am_ (blk_below (g := gb1535) (o := .cells #[.int .i64 t1537, .string t1538, .string t1539, .slice Ao146 t1540.length co146, .slice Ao148 t1543.length co148] 26 (0, 0)) (blk_ BK1535.out) hb); have n5_ := am_ (blk_below (g := gb1536) (o := .cells #[.string t1546, .string t1547, .string t1548, .slice Ao153 t1549.length co153, .slice Ao155 t1552.length co155] 28 (0, 0)) (blk_ BK1536.out) hb); have n6_ := am_ (below_step (bel_ HB.out) hb); clear HO1542 HO1545 HO1551 HO1554 BK1535 BK1536 HB; have HO1542 := n0_; have HO1545 := n1_; have HO1551 := n2_; have HO1554 := n3_; have BK1535 := n4_; have BK1536 := n5_; have HB := n6_; clear n0_ n1_ n2_ n3_ n4_ n5_ n6_; (try clear hb); (try clear hb2); (try clear hk); (try clear hi)))
   go_ret
   exact ⟨fi_, bel_ HB.out⟩

/-- THE ONE PURE STATEMENT of tolllaw06_RuleLess. -/
noncomputable def tolllaw06_RuleLess.Pure : Prop := ∀ (a0_0 : Int) (a0_1 : ByteArray) (a0_2 : ByteArray) (l0_3 : List (S49)) (l0_4 : List (S49)) (a1_0 : ByteArray) (a1_1 : ByteArray) (a1_2 : ByteArray) (l1_3 : List (S49)) (l1_4 : List (S49)) (a2 : Int), ((((Lit.int .i64 a0_0).wf = true) ∧ (a0_1.size ≤ 140737488351232)) ∧ (a0_2.size ≤ 140737488351232) ∧ (l0_3.length ≤ maxLen ∧ l0_3.length * 32 ≤ 140737488351232 ∧ ∀ y ∈ l0_3, (y.f0.size ≤ 140737488351232) ∧ (y.f1.size ≤ 140737488351232)) ∧ (l0_4.length ≤ maxLen ∧ l0_4.length * 32 ≤ 140737488351232 ∧ ∀ y ∈ l0_4, (y.f0.size ≤ 140737488351232) ∧ (y.f1.size ≤ 140737488351232))) → ((a1_0.size ≤ 140737488351232) ∧ (a1_1.size ≤ 140737488351232) ∧ (a1_2.size ≤ 140737488351232) ∧ (l1_3.length ≤ maxLen ∧ l1_3.length * 32 ≤ 140737488351232 ∧ ∀ y ∈ l1_3, (y.f0.size ≤ 140737488351232) ∧ (y.f1.size ≤ 140737488351232)) ∧ (l1_4.length ≤ maxLen ∧ l1_4.length * 32 ≤ 140737488351232 ∧ ∀ y ∈ l1_4, (y.f0.size ≤ 140737488351232) ∧ (y.f1.size ≤ 140737488351232))) → ((Lit.int .u8 a2).wf = true) → ∃ k, tolllaw06_RuleLess.f k a0_0 a0_1 a0_2 l0_3 l0_4 a1_0 a1_1 a1_2 l1_3 l1_4 a2 = some true

end Go.Proofs.YtompldnifiieaaaDoor.P
