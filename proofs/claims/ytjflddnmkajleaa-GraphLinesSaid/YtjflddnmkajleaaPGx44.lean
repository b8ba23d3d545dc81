-- By the session's own program out of the kit's print, with texts of the session's own for the functions that the print does not take.
import Derived.Test.YtjflddnmkajleaaPGx0
import Derived.Test.YtjflddnmkajleaaPGx8
import Derived.Test.YtjflddnmkajleaaPGx20
import Derived.Test.YtjflddnmkajleaaPGx21
import Derived.Test.YtjflddnmkajleaaPGx31
import Derived.Test.YtjflddnmkajleaaPGx39
namespace Go.Proofs.Ytjflddnmkajleaa.PG
open Go.RowKit Go.Proofs.YtjflddnmkajleaaW.PrintWords Go.Proofs.YtjflddnmkajleaaW.PrintLast Go.Proofs.YtjflddnmkajleaaW.PrintMore
attribute [local go_sem] max2_int min2_int max_two min_two max_three min_three max_four min_four   -- for this text's walks alone
set_option linter.unusedVariables false
set_option linter.unusedSimpArgs false

/-! ### ratlinelaw10_GraphLines: function 8 -/
mutual
def ratlinelaw10_GraphLines.l0 : Nat → Int → Int → Int → List (List Int) → Int → Option (Bool)
  | 0, _, _, _, _, _ => none
  | k + 1, x0, x1, x2, x7, x8 => if x8 < x0 then (if (wrap64 (x8 + 1)) < x0 then (if ([] : List Int).length < 17592186044416 then ((some (([] : List Int) ++ [wrap64 (x8 + 1)] : List Int)).bind fun y656 => (if x8 = x1 then (if y656.length < 17592186044416 then (if x7.length < 5864062014805 then (ratlinelaw10_GraphLines.l0 k x0 x1 x2 (x7 ++ [(y656 ++ [x2])]) (wrap64 (x8 + 1))) else (none)) else (none)) else (if x7.length < 5864062014805 then (ratlinelaw10_GraphLines.l0 k x0 x1 x2 (x7 ++ [y656]) (wrap64 (x8 + 1))) else (none)))) else (none)) else (if x8 = x1 then (if ([] : List Int).length < 17592186044416 then (if x7.length < 5864062014805 then (ratlinelaw10_GraphLines.l0 k x0 x1 x2 (x7 ++ [(([] : List Int) ++ [x2])]) (wrap64 (x8 + 1))) else (none)) else (none)) else (if x7.length < 5864062014805 then (ratlinelaw10_GraphLines.l0 k x0 x1 x2 (x7 ++ [([] : List Int)]) (wrap64 (x8 + 1))) else (none)))) else ((graph_Doms.f k x7).bind fun t677 => ((graph_Loops.f k x7).bind fun t680 => (if (t677.length : Int) = x0 then ((graph_Order.f k x7).bind fun t683 => (ratlinelaw10_GraphLines.j1 k x0 x1 x2 x7 t677 t680 ((t683.length : Int) != x0))) else (ratlinelaw10_GraphLines.j1 k x0 x1 x2 x7 t677 t680 true))))
def ratlinelaw10_GraphLines.j1 : Nat → Int → Int → Int → List (List Int) → List Int → List (S37) → Bool → Option (Bool)
  | 0, _, _, _, _, _, _, _ => none
  | k + 1, x0, x1, x2, x7, x10, x11, x67 => if x67 = true then (some false) else (ratlinelaw10_GraphLines.l1 k x0 x1 x2 x7 x10 x11 (decide (x2 > (wrap64 (x1 + 1)))) 0)
def ratlinelaw10_GraphLines.l1 : Nat → Int → Int → Int → List (List Int) → List Int → List (S37) → Bool → Int → Option (Bool)
  | 0, _, _, _, _, _, _, _, _ => none
  | k + 1, x0, x1, x2, x7, x10, x11, x12, x13 => if x13 < x0 then (if x12 = true then (ratlinelaw10_GraphLines.j3 k x0 x1 x2 x7 x10 x11 x12 x13 (wrap64 (x13 - 1)) (x13 == x2)) else (ratlinelaw10_GraphLines.j3 k x0 x1 x2 x7 x10 x11 x12 x13 (wrap64 (x13 - 1)) false)) else (if x2 > x1 then (if (x11.length : Int) = 0 then ((graph_Cyclic.f k x7 ([] : List Bool)).bind fun t688 => (if t688 = true then (some false) else ((ratlinelaw10_awake.f k).bind fun t689 => (some t689)))) else (some false)) else (if (x11.length : Int) = 1 then (if 0 < (x11.length : Int) then (if ((rd_T37 x11 0).f0) = x2 then (if (((rd_T37 x11 0).f1).length : Int) = (wrap64 ((wrap64 (x1 - x2)) + 1)) then (if ((rd_T37 x11 0).f2) = (-1) then ((graph_Cyclic.f k x7 ([] : List Bool)).bind fun t693 => (ratlinelaw10_GraphLines.j4 k x0 x1 x2 x7 x11 (!t693))) else (ratlinelaw10_GraphLines.j4 k x0 x1 x2 x7 x11 true)) else (ratlinelaw10_GraphLines.j4 k x0 x1 x2 x7 x11 true)) else (ratlinelaw10_GraphLines.j4 k x0 x1 x2 x7 x11 true)) else (none)) else (ratlinelaw10_GraphLines.j4 k x0 x1 x2 x7 x11 true)))
def ratlinelaw10_GraphLines.j3 : Nat → Int → Int → Int → List (List Int) → List Int → List (S37) → Bool → Int → Int → Bool → Option (Bool)
  | 0, _, _, _, _, _, _, _, _, _, _ => none
  | k + 1, x0, x1, x2, x7, x10, x11, x12, x13, x14, x84 => if x84 = true then (if 0 ≤ x13 then (if x13 < (x10.length : Int) then (if (rd x10 x13) = x1 then (ratlinelaw10_GraphLines.l1 k x0 x1 x2 x7 x10 x11 x12 (wrap64 (x13 + 1))) else (some false)) else (none)) else (none)) else (if 0 ≤ x13 then (if x13 < (x10.length : Int) then (if (rd x10 x13) = x14 then (ratlinelaw10_GraphLines.l1 k x0 x1 x2 x7 x10 x11 x12 (wrap64 (x13 + 1))) else (some false)) else (none)) else (none))
def ratlinelaw10_GraphLines.j4 : Nat → Int → Int → Int → List (List Int) → List (S37) → Bool → Option (Bool)
  | 0, _, _, _, _, _, _ => none
  | k + 1, x0, x1, x2, x7, x11, x140 => if x140 = true then (some false) else (if 0 ≤ x0 then (if (x0 : Int).toNat ≤ 281474976710656 then ((some (List.replicate (x0 : Int).toNat false : List Bool)).bind fun y694 => (if 0 ≤ x1 then (if x1 < (y694.length : Int) then (if 0 < (x11.length : Int) then (if 0 < (((rd_T37 x11 0).f1).length : Int) then (if (rd ((rd_T37 x11 0).f1) 0) = x2 then (if 0 ≤ (wrap64 ((((rd_T37 x11 0).f1).length : Int) - 1)) then (if (wrap64 ((((rd_T37 x11 0).f1).length : Int) - 1)) < (((rd_T37 x11 0).f1).length : Int) then (if (rd ((rd_T37 x11 0).f1) (wrap64 ((((rd_T37 x11 0).f1).length : Int) - 1))) = x1 then ((graph_Cyclic.f k x7 (y694.set (x1 : Int).toNat true)).bind fun t703 => (if t703 = true then (some false) else ((ratlinelaw10_awake.f k).bind fun t704 => (some t704)))) else (some false)) else (none)) else (none)) else (some false)) else (none)) else (none)) else (none)) else (none))) else (none)) else (none))
end
def ratlinelaw10_GraphLines.f (k : Nat) (a0 : Int) (a1 : Int) (a2 : Int) : Option (Bool) := if (wrap64 ((Int.tmod (Go.bits .and .i64 a0 65535) 60) + 1)) = 0 then (none) else (ratlinelaw10_GraphLines.l0 k (wrap64 ((Int.tmod (Go.bits .and .i64 a0 65535) 60) + 1)) (Int.tmod (Go.bits .and .i64 a1 65535) (wrap64 ((Int.tmod (Go.bits .and .i64 a0 65535) 60) + 1))) (Int.tmod (Go.bits .and .i64 a2 65535) (wrap64 ((Int.tmod (Go.bits .and .i64 a0 65535) 60) + 1))) ([] : List (List Int)) 0)
theorem ratlinelaw10_GraphLines.mono_l : ∀ k, (∀ y0 y1 y2 y3 y4, LeO (ratlinelaw10_GraphLines.l0 k y0 y1 y2 y3 y4) (ratlinelaw10_GraphLines.l0 (k + 1) y0 y1 y2 y3 y4)) ∧ (∀ y0 y1 y2 y3 y4 y5 y6, LeO (ratlinelaw10_GraphLines.j1 k y0 y1 y2 y3 y4 y5 y6) (ratlinelaw10_GraphLines.j1 (k + 1) y0 y1 y2 y3 y4 y5 y6)) ∧ (∀ y0 y1 y2 y3 y4 y5 y6 y7, LeO (ratlinelaw10_GraphLines.l1 k y0 y1 y2 y3 y4 y5 y6 y7) (ratlinelaw10_GraphLines.l1 (k + 1) y0 y1 y2 y3 y4 y5 y6 y7)) ∧ (∀ y0 y1 y2 y3 y4 y5 y6 y7 y8 y9, LeO (ratlinelaw10_GraphLines.j3 k y0 y1 y2 y3 y4 y5 y6 y7 y8 y9) (ratlinelaw10_GraphLines.j3 (k + 1) y0 y1 y2 y3 y4 y5 y6 y7 y8 y9)) ∧ (∀ y0 y1 y2 y3 y4 y5, LeO (ratlinelaw10_GraphLines.j4 k y0 y1 y2 y3 y4 y5) (ratlinelaw10_GraphLines.j4 (k + 1) y0 y1 y2 y3 y4 y5))
  | 0 => ⟨fun _ _ _ _ _ r h => by simp [ratlinelaw10_GraphLines.l0] at h, fun _ _ _ _ _ _ _ r h => by simp [ratlinelaw10_GraphLines.j1] at h, fun _ _ _ _ _ _ _ _ r h => by simp [ratlinelaw10_GraphLines.l1] at h, fun _ _ _ _ _ _ _ _ _ _ r h => by simp [ratlinelaw10_GraphLines.j3] at h, fun _ _ _ _ _ _ r h => by simp [ratlinelaw10_GraphLines.j4] at h⟩
  | k + 1 => by
    obtain ⟨ih0, ih1, ih2, ih3, ih4⟩ := ratlinelaw10_GraphLines.mono_l k
    refine ⟨?_, ?_, ?_, ?_, ?_⟩
    · intro y0 y1 y2 y3 y4
      unfold ratlinelaw10_GraphLines.l0
      repeat' first
      | (with_reducible exact ih0 _ _ _ _ _)
      | (with_reducible exact ih1 _ _ _ _ _ _ _)
      | (with_reducible exact ih2 _ _ _ _ _ _ _ _)
      | (with_reducible exact ih3 _ _ _ _ _ _ _ _ _ _)
      | (with_reducible exact ih4 _ _ _ _ _ _)
      | (with_reducible exact graph_Cyclic.mono _ _ _)
      | (with_reducible exact graph_Doms.mono _ _)
      | (with_reducible exact graph_Loops.mono _ _)
      | (with_reducible exact graph_Order.mono _ _)
      | (with_reducible exact ratlinelaw10_awake.mono _)
      | (with_reducible exact LeO.refl _)
      | (with_reducible exact LeO.none _)
      | (with_reducible refine LeO.ite ?_ ?_)
      | (with_reducible refine LeO.bind ?_ (fun _ => ?_))
      | exact ih0 _ _ _ _ _
      | exact ih1 _ _ _ _ _ _ _
      | exact ih2 _ _ _ _ _ _ _ _
      | exact ih3 _ _ _ _ _ _ _ _ _ _
      | exact ih4 _ _ _ _ _ _
      | exact graph_Cyclic.mono _ _ _
      | exact graph_Doms.mono _ _
      | exact graph_Loops.mono _ _
      | exact graph_Order.mono _ _
      | exact ratlinelaw10_awake.mono _
      | exact LeO.none _
      | refine LeO.ite ?_ ?_
      | refine LeO.bind ?_ (fun _ => ?_)
    · intro y0 y1 y2 y3 y4 y5 y6
      unfold ratlinelaw10_GraphLines.j1
      repeat' first
      | (with_reducible exact ih0 _ _ _ _ _)
      | (with_reducible exact ih1 _ _ _ _ _ _ _)
      | (with_reducible exact ih2 _ _ _ _ _ _ _ _)
      | (with_reducible exact ih3 _ _ _ _ _ _ _ _ _ _)
      | (with_reducible exact ih4 _ _ _ _ _ _)
      | (with_reducible exact graph_Cyclic.mono _ _ _)
      | (with_reducible exact graph_Doms.mono _ _)
      | (with_reducible exact graph_Loops.mono _ _)
      | (with_reducible exact graph_Order.mono _ _)
      | (with_reducible exact ratlinelaw10_awake.mono _)
      | (with_reducible exact LeO.refl _)
      | (with_reducible exact LeO.none _)
      | (with_reducible refine LeO.ite ?_ ?_)
      | (with_reducible refine LeO.bind ?_ (fun _ => ?_))
      | exact ih0 _ _ _ _ _
      | exact ih1 _ _ _ _ _ _ _
      | exact ih2 _ _ _ _ _ _ _ _
      | exact ih3 _ _ _ _ _ _ _ _ _ _
      | exact ih4 _ _ _ _ _ _
      | exact graph_Cyclic.mono _ _ _
      | exact graph_Doms.mono _ _
      | exact graph_Loops.mono _ _
      | exact graph_Order.mono _ _
      | exact ratlinelaw10_awake.mono _
      | exact LeO.none _
      | refine LeO.ite ?_ ?_
      | refine LeO.bind ?_ (fun _ => ?_)
    · intro y0 y1 y2 y3 y4 y5 y6 y7
      unfold ratlinelaw10_GraphLines.l1
      repeat' first
      | (with_reducible exact ih0 _ _ _ _ _)
      | (with_reducible exact ih1 _ _ _ _ _ _ _)
      | (with_reducible exact ih2 _ _ _ _ _ _ _ _)
      | (with_reducible exact ih3 _ _ _ _ _ _ _ _ _ _)
      | (with_reducible exact ih4 _ _ _ _ _ _)
      | (with_reducible exact graph_Cyclic.mono _ _ _)
      | (with_reducible exact graph_Doms.mono _ _)
      | (with_reducible exact graph_Loops.mono _ _)
      | (with_reducible exact graph_Order.mono _ _)
      | (with_reducible exact ratlinelaw10_awake.mono _)
      | (with_reducible exact LeO.refl _)
      | (with_reducible exact LeO.none _)
      | (with_reducible refine LeO.ite ?_ ?_)
      | (with_reducible refine LeO.bind ?_ (fun _ => ?_))
      | exact ih0 _ _ _ _ _
      | exact ih1 _ _ _ _ _ _ _
      | exact ih2 _ _ _ _ _ _ _ _
      | exact ih3 _ _ _ _ _ _ _ _ _ _
      | exact ih4 _ _ _ _ _ _
      | exact graph_Cyclic.mono _ _ _
      | exact graph_Doms.mono _ _
      | exact graph_Loops.mono _ _
      | exact graph_Order.mono _ _
      | exact ratlinelaw10_awake.mono _
      | exact LeO.none _
      | refine LeO.ite ?_ ?_
      | refine LeO.bind ?_ (fun _ => ?_)
    · intro y0 y1 y2 y3 y4 y5 y6 y7 y8 y9
      unfold ratlinelaw10_GraphLines.j3
      repeat' first
      | (with_reducible exact ih0 _ _ _ _ _)
      | (with_reducible exact ih1 _ _ _ _ _ _ _)
      | (with_reducible exact ih2 _ _ _ _ _ _ _ _)
      | (with_reducible exact ih3 _ _ _ _ _ _ _ _ _ _)
      | (with_reducible exact ih4 _ _ _ _ _ _)
      | (with_reducible exact graph_Cyclic.mono _ _ _)
      | (with_reducible exact graph_Doms.mono _ _)
      | (with_reducible exact graph_Loops.mono _ _)
      | (with_reducible exact graph_Order.mono _ _)
      | (with_reducible exact ratlinelaw10_awake.mono _)
      | (with_reducible exact LeO.refl _)
      | (with_reducible exact LeO.none _)
      | (with_reducible refine LeO.ite ?_ ?_)
      | (with_reducible refine LeO.bind ?_ (fun _ => ?_))
      | exact ih0 _ _ _ _ _
      | exact ih1 _ _ _ _ _ _ _
      | exact ih2 _ _ _ _ _ _ _ _
      | exact ih3 _ _ _ _ _ _ _ _ _ _
      | exact ih4 _ _ _ _ _ _
      | exact graph_Cyclic.mono _ _ _
      | exact graph_Doms.mono _ _
      | exact graph_Loops.mono _ _
      | exact graph_Order.mono _ _
      | exact ratlinelaw10_awake.mono _
      | exact LeO.none _
      | refine LeO.ite ?_ ?_
      | refine LeO.bind ?_ (fun _ => ?_)
    · intro y0 y1 y2 y3 y4 y5
      unfold ratlinelaw10_GraphLines.j4
      repeat' first
      | (with_reducible exact ih0 _ _ _ _ _)
      | (with_reducible exact ih1 _ _ _ _ _ _ _)
      | (with_reducible exact ih2 _ _ _ _ _ _ _ _)
      | (with_reducible exact ih3 _ _ _ _ _ _ _ _ _ _)
      | (with_reducible exact ih4 _ _ _ _ _ _)
      | (with_reducible exact graph_Cyclic.mono _ _ _)
      | (with_reducible exact graph_Doms.mono _ _)
      | (with_reducible exact graph_Loops.mono _ _)
      | (with_reducible exact graph_Order.mono _ _)
      | (with_reducible exact ratlinelaw10_awake.mono _)
      | (with_reducible exact LeO.refl _)
      | (with_reducible exact LeO.none _)
      | (with_reducible refine LeO.ite ?_ ?_)
      | (with_reducible refine LeO.bind ?_ (fun _ => ?_))
      | exact ih0 _ _ _ _ _
      | exact ih1 _ _ _ _ _ _ _
      | exact ih2 _ _ _ _ _ _ _ _
      | exact ih3 _ _ _ _ _ _ _ _ _ _
      | exact ih4 _ _ _ _ _ _
      | exact graph_Cyclic.mono _ _ _
      | exact graph_Doms.mono _ _
      | exact graph_Loops.mono _ _
      | exact graph_Order.mono _ _
      | exact ratlinelaw10_awake.mono _
      | exact LeO.none _
      | refine LeO.ite ?_ ?_
      | refine LeO.bind ?_ (fun _ => ?_)
theorem ratlinelaw10_GraphLines.mono : ∀ a0 a1 a2 k, LeO (ratlinelaw10_GraphLines.f k a0 a1 a2) (ratlinelaw10_GraphLines.f (k + 1) a0 a1 a2) := by
  intro a0 a1 a2 k
  obtain ⟨ih0, ih1, ih2, ih3, ih4⟩ := ratlinelaw10_GraphLines.mono_l k
  unfold ratlinelaw10_GraphLines.f
  repeat' first
      | (with_reducible exact ih0 _ _ _ _ _)
      | (with_reducible exact ih1 _ _ _ _ _ _ _)
      | (with_reducible exact ih2 _ _ _ _ _ _ _ _)
      | (with_reducible exact ih3 _ _ _ _ _ _ _ _ _ _)
      | (with_reducible exact ih4 _ _ _ _ _ _)
      | (with_reducible exact graph_Cyclic.mono _ _ _)
      | (with_reducible exact graph_Doms.mono _ _)
      | (with_reducible exact graph_Loops.mono _ _)
      | (with_reducible exact graph_Order.mono _ _)
      | (with_reducible exact ratlinelaw10_awake.mono _)
      | (with_reducible exact LeO.refl _)
      | (with_reducible exact LeO.none _)
      | (with_reducible refine LeO.ite ?_ ?_)
      | (with_reducible refine LeO.bind ?_ (fun _ => ?_))
      | exact ih0 _ _ _ _ _
      | exact ih1 _ _ _ _ _ _ _
      | exact ih2 _ _ _ _ _ _ _ _
      | exact ih3 _ _ _ _ _ _ _ _ _ _
      | exact ih4 _ _ _ _ _ _
      | exact graph_Cyclic.mono _ _ _
      | exact graph_Doms.mono _ _
      | exact graph_Loops.mono _ _
      | exact graph_Order.mono _ _
      | exact ratlinelaw10_awake.mono _
      | exact LeO.none _
      | refine LeO.ite ?_ ?_
      | refine LeO.bind ?_ (fun _ => ?_)
def ratlinelaw10_GraphLines.T2 : Bool × List (List Nat × List Nat) := (true, [([], []), ([0], [0]), ([], []), ([1, 2], [1, 2]), ([], []), ([4], [4]), ([], []), ([5, 6], [5, 6]), ([3, 0, 1, 2, 3], [0, 3]), ([7, 8, 0, 1, 2, 3, 4, 5, 6, 7, 8], [4, 7])])
def ratlinelaw10_GraphLines.B2 : List Nat := [0, 1, 0, 7, 0, 16, 0, 112, 15, 511]
theorem ratlinelaw10_GraphLines.tab2 : rtab .any (opsOf Try.f8 2) = ratlinelaw10_GraphLines.T2 := by kernel_rfl
theorem ratlinelaw10_GraphLines.bits2 : waitsOk ratlinelaw10_GraphLines.T2.2 ratlinelaw10_GraphLines.B2 = true := by kernel_rfl
def ratlinelaw10_GraphLines.T32 : Bool × List (List Nat × List Nat) := (true, [([], []), ([0], [0]), ([1], [1]), ([2], [2]), ([3], [3]), ([4], [4]), ([], []), ([5, 6], [5, 6]), ([7], [7]), ([8], [8]), ([9, 8], [8, 9]), ([10, 8], [8, 10]), ([11, 8], [8, 11]), ([8], [8]), ([13, 8], [8, 13]), ([14, 8], [8, 14]), ([15, 8], [8, 15]), ([16, 8], [8, 16]), ([17, 8], [8, 17]), ([12, 18, 8], [8, 12, 18]), ([19, 8], [8, 19]), ([8], [8]), ([20, 21, 8], [8, 20, 21]), ([8, 22], [8, 22]), ([23, 8], [23]), ([24], [24]), ([24], [24]), ([25, 26, 24, 24], [24, 25, 26]), ([27, 24], [24, 27]), ([24, 28], [24, 28]), ([29, 27], [29]), ([30, 30], [30]), ([30, 31], [30, 31]), ([32, 31, 0, 1, 2, 3, 4, 5, 6, 7, 8, 9, 10, 11, 12, 13, 14, 15, 16, 17, 18, 19, 20, 21, 22, 23, 24, 25, 26, 27, 28, 29, 30, 31, 32], [32])])
def ratlinelaw10_GraphLines.B32 : List Nat := [0, 1, 3, 7, 15, 31, 0, 127, 255, 511, 1023, 2047, 4095, 511, 8703, 25087, 57855, 123391, 254463, 524287, 1048575, 511, 4194303, 8388607, 16777215, 33554431, 33554431, 134217727, 268435455, 536870911, 1073741823, 2147483647, 4294967295, 8589934591]
theorem ratlinelaw10_GraphLines.tab32 : rtab .any (opsOf Try.f8 32) = ratlinelaw10_GraphLines.T32 := by kernel_rfl
theorem ratlinelaw10_GraphLines.bits32 : waitsOk ratlinelaw10_GraphLines.T32.2 ratlinelaw10_GraphLines.B32 = true := by kernel_rfl
set_option maxHeartbeats 8000000 in
set_option maxRecDepth 100000 in
theorem ratlinelaw10_GraphLines.calls (k : Nat) (a0 : Int) (a1 : Int) (a2 : Int) (r : Bool) (hr : Aside0 (r = true)) (w : World) (h : ratlinelaw10_GraphLines.f k a0 a1 a2 = some r) :
    Calls Try.prog 8 #[.int .i64 a0, .int .i64 a1, .int .i64 a2] w fun e w' => e = .returned (.bool r) ∧ Below w.heap.size w w' := by
  have HB := Aside0.mk (Below.refl w.heap.size w)
  have H : (if (wrap64 ((Int.tmod (Go.bits .and .i64 a0 65535) 60) + 1)) = 0 then (none) else (ratlinelaw10_GraphLines.l0 k (wrap64 ((Int.tmod (Go.bits .and .i64 a0 65535) 60) + 1)) (Int.tmod (Go.bits .and .i64 a1 65535) (wrap64 ((Int.tmod (Go.bits .and .i64 a0 65535) 60) + 1))) (Int.tmod (Go.bits .and .i64 a2 65535) (wrap64 ((Int.tmod (Go.bits .and .i64 a0 65535) 60) + 1))) ([] : List (List Int)) 0)) = some r := h
  clear h
  by_cases c4 : (wrap64 ((Int.tmod (Go.bits .and .i64 a0 65535) 60) + 1)) = 0
  · rw [if_pos c4] at H
    exact absurd H (by simp)
  · rw [if_neg c4] at H
    have c4b0 : ((wrap64 ((Int.tmod (Go.bits .and .i64 a0 65535) 60) + 1)) == 0) = false := beq_eq_false_iff_ne.mpr c4
    have c4b1 : ((wrap64 ((Int.tmod (Go.bits .and .i64 a0 65535) 60) + 1)) != 0) = true := bne_iff_ne.mpr c4
    have H' := Aside0.mk H
    clear H
    go_enter Try.func8, Try.ntmps8
    try go_wp2
    have n0_ := Aside0.mk (below_drew1 HB.out)
    clear HB
    have HB := n0_
    clear n0_
    refine start_ (n := 10) (S := fun w' => True) (ds := []) #[false, false, false, false, false, false, false, false, false, false] (by kernel_rfl) rfl rfl trivial (fun hHeld => ?_); refine with_tabW ratlinelaw10_GraphLines.tab2 ratlinelaw10_GraphLines.bits2 (fun HT_ HW_ => ?_)
    generalize w.drew = w5 at HB hHeld ⊢
    refine pure_ (i := 0) (N := some 20) (v := ?_) (a' := ?_) #[true, false, false, false, false, false, false, false, false, false] rfl rfl (any_of HT_.out (by kernel_rfl)) (fun _ _ _ h => h) (Or.inl ⟨by rfl, ?_⟩) ?_ ?_
    rotate_left
    · intro w'
      go_simp
      with_reducible rfl
    rotate_left
    · simp only [Act.put, List.setIfInBounds_toArray, List.set_cons_zero, List.set_cons_succ, i64_w, i32_w]
      rfl
    refine pure_ (i := 1) (N := some 21) (v := ?_) (a' := ?_) #[true, true, false, false, false, false, false, false, false, false] rfl rfl (any_of HT_.out (by kernel_rfl)) (fun _ _ _ h => h) (Or.inl ⟨by rfl, ?_⟩) ?_ ?_
    rotate_left
    · intro w'
      go_simp
      with_reducible rfl
    rotate_left
    · simp only [Act.put, List.setIfInBounds_toArray, List.set_cons_zero, List.set_cons_succ, i64_w, i32_w]
      rfl
    refine pure_ (i := 2) (N := some 22) (v := ?_) (a' := ?_) #[true, true, true, false, false, false, false, false, false, false] rfl rfl (any_of HT_.out (by kernel_rfl)) (fun _ _ _ h => h) (Or.inl ⟨by rfl, ?_⟩) ?_ ?_
    rotate_left
    · intro w'
      go_simp
      with_reducible rfl
    rotate_left
    · simp only [Act.put, List.setIfInBounds_toArray, List.set_cons_zero, List.set_cons_succ, i64_w, i32_w]
      rfl
    refine pure_ (i := 3) (N := some 23) (v := ?_) (a' := ?_) #[true, true, true, true, false, false, false, false, false, false] rfl rfl (any_of HT_.out (by kernel_rfl)) (fun _ _ _ h => h) (Or.inl ⟨by rfl, ?_⟩) ?_ ?_
    rotate_left
    · intro w'
      go_simp
      with_reducible rfl
    rotate_left
    · simp only [Act.put, List.setIfInBounds_toArray, List.set_cons_zero, List.set_cons_succ, i64_w, i32_w]
      rfl
    refine pure_ (i := 4) (N := some 24) (v := ?_) (a' := ?_) #[true, true, true, true, true, false, false, false, false, false] rfl rfl (any_of HT_.out (by kernel_rfl)) (fun _ _ _ h => h) (Or.inl ⟨by rfl, ?_⟩) ?_ ?_
    rotate_left
    · intro w'
      go_simp
      with_reducible rfl
    rotate_left
    · simp only [Act.put, List.setIfInBounds_toArray, List.set_cons_zero, List.set_cons_succ, i64_w, i32_w]
      rfl
    refine pure_ (i := 5) (N := some 25) (v := ?_) (a' := ?_) #[true, true, true, true, true, true, false, false, false, false] rfl rfl (any_of HT_.out (by kernel_rfl)) (fun _ _ _ h => h) (Or.inl ⟨by rfl, ?_⟩) ?_ ?_
    rotate_left
    · intro w'
      go_simp
      with_reducible rfl
    rotate_left
    · simp only [Act.put, List.setIfInBounds_toArray, List.set_cons_zero, List.set_cons_succ, i64_w, i32_w]
      rfl
    refine pure_ (i := 6) (N := some 26) (v := ?_) (a' := ?_) #[true, true, true, true, true, true, true, false, false, false] rfl rfl (any_of HT_.out (by kernel_rfl)) (fun _ _ _ h => h) (Or.inl ⟨by rfl, ?_⟩) ?_ ?_
    rotate_left
    · intro w'
      go_simp
      with_reducible rfl
    rotate_left
    · simp only [Act.put, List.setIfInBounds_toArray, List.set_cons_zero, List.set_cons_succ, i64_w, i32_w]
      rfl
    refine pure_ (i := 7) (N := some 27) (v := ?_) (a' := ?_) #[true, true, true, true, true, true, true, true, false, false] rfl rfl (any_of HT_.out (by kernel_rfl)) (fun _ _ _ h => h) (Or.inl ⟨by rfl, ?_⟩) ?_ ?_
    rotate_left
    · intro w'
      go_simp
      with_reducible rfl
    rotate_left
    · simp only [Act.put, List.setIfInBounds_toArray, List.set_cons_zero, List.set_cons_succ, i64_w, i32_w]
      rfl
    refine pure_ (i := 8) (N := some 1) (v := ?_) (a' := ?_) #[true, true, true, true, true, true, true, true, true, false] rfl rfl (any_of HT_.out (by kernel_rfl)) (fun _ _ _ h => h) (Or.inl ⟨by rfl, ?_⟩) ?_ ?_
    rotate_left
    · intro w'
      go_simp
      with_reducible rfl
    rotate_left
    · simp only [Act.put, List.setIfInBounds_toArray, List.set_cons_zero, List.set_cons_succ, i64_w, i32_w]
      rfl
    refine pure_ (i := 9) (N := some 2) (v := ?_) (a' := ?_) #[true, true, true, true, true, true, true, true, true, true] rfl rfl (any_of HT_.out (by kernel_rfl)) (fun _ _ _ h => h) (Or.inl ⟨by rfl, ?_⟩) ?_ ?_
    rotate_left
    · intro w'
      go_simp
      with_reducible rfl
    rotate_left
    · simp only [Act.put, List.setIfInBounds_toArray, List.set_cons_zero, List.set_cons_succ, i64_w, i32_w]
      rfl
    refine done_ (done_of HT_.out (by kernel_rfl)) ?_
    try go_wp2
    go_loopg [7, 8] k (fun kq v7 v8 w' => ∃ (x7_1 : List (List Int)) (x8_1 : Int), v8 = .int .i64 x8_1 ∧ Aside0 (ratlinelaw10_GraphLines.l0 kq (wrap64 ((Int.tmod (Go.bits .and .i64 a0 65535) 60) + 1)) (Int.tmod (Go.bits .and .i64 a1 65535) (wrap64 ((Int.tmod (Go.bits .and .i64 a0 65535) 60) + 1))) (Int.tmod (Go.bits .and .i64 a2 65535) (wrap64 ((Int.tmod (Go.bits .and .i64 a0 65535) 60) + 1))) x7_1 x8_1 = some r) ∧ Aside0 (kq ≤ k) ∧ Aside0 (Kd.S (Kd.slice 3 (Kd.int .i64)) 25 w' w.heap.size (fun _ => True) v7 x7_1) ∧ Aside0 (Below w.heap.size w w'))
    case atStart => exact ⟨(([] : List (List Int))), (0), (by first | rfl | (simp; done) | (simp [*]; done)), H', ⟨Nat.le_refl _⟩, ⟨by first | exact Kd.S_nil _ _ _ _ _ | exact Kd.N_nil _ _ _ _ _ | exact Kd.V_nil _ _ _ _ _ | exact Kd.Q_nil _ _ _ _ _ | exact Kd.R_nil _ _ _ _ _⟩, ⟨by repeat (first | (with_reducible first | exact HB.out | apply below_alloc | apply pw_below_drewN | apply below_drew1) | exact HB.out)⟩⟩
    case round =>
      clear H'
      try clear p2
      try clear c4
      try clear c4b0
      try clear c4b1
      obtain ⟨x7_1, x8_1, rfl, HA, HK1, HO_7, HB⟩ := hrel
      cases gk with
      | zero => exact absurd HA.out (by simp [ratlinelaw10_GraphLines.l0])
      | succ k1 =>
        have H := HA.out
        clear HA
        simp only [ratlinelaw10_GraphLines.l0] at H
        by_cases c6 : x8_1 < (wrap64 ((Int.tmod (Go.bits .and .i64 a0 65535) 60) + 1))
        · rw [if_pos c6] at H
          have c6b0 : decide (x8_1 < (wrap64 ((Int.tmod (Go.bits .and .i64 a0 65535) 60) + 1))) = true := decide_eq_true c6
          clear c6
          by_cases c7 : (wrap64 (x8_1 + 1)) < (wrap64 ((Int.tmod (Go.bits .and .i64 a0 65535) 60) + 1))
          · rw [if_pos c7] at H
            have c7b0 : decide ((wrap64 (x8_1 + 1)) < (wrap64 ((Int.tmod (Go.bits .and .i64 a0 65535) 60) + 1))) = true := decide_eq_true c7
            clear c7
            by_cases c8 : ([] : List Int).length < 17592186044416
            · rw [if_pos c8] at H
              have LMc8 := Aside0.mk c8
              clear c8
              obtain ⟨y656, hy656⟩ : ∃ y_ : List Int, y_ = (([] : List Int) ++ [wrap64 (x8_1 + 1)]) := ⟨_, rfl⟩
              replace H : (if x8_1 = (Int.tmod (Go.bits .and .i64 a1 65535) (wrap64 ((Int.tmod (Go.bits .and .i64 a0 65535) 60) + 1))) then (if y656.length < 17592186044416 then (if x7_1.length < 5864062014805 then (ratlinelaw10_GraphLines.l0 k1 (wrap64 ((Int.tmod (Go.bits .and .i64 a0 65535) 60) + 1)) (Int.tmod (Go.bits .and .i64 a1 65535) (wrap64 ((Int.tmod (Go.bits .and .i64 a0 65535) 60) + 1))) (Int.tmod (Go.bits .and .i64 a2 65535) (wrap64 ((Int.tmod (Go.bits .and .i64 a0 65535) 60) + 1))) (x7_1 ++ [(y656 ++ [(Int.tmod (Go.bits .and .i64 a2 65535) (wrap64 ((Int.tmod (Go.bits .and .i64 a0 65535) 60) + 1)))])]) (wrap64 (x8_1 + 1))) else (none)) else (none)) else (if x7_1.length < 5864062014805 then (ratlinelaw10_GraphLines.l0 k1 (wrap64 ((Int.tmod (Go.bits .and .i64 a0 65535) 60) + 1)) (Int.tmod (Go.bits .and .i64 a1 65535) (wrap64 ((Int.tmod (Go.bits .and .i64 a0 65535) 60) + 1))) (Int.tmod (Go.bits .and .i64 a2 65535) (wrap64 ((Int.tmod (Go.bits .and .i64 a0 65535) 60) + 1))) (x7_1 ++ [y656]) (wrap64 (x8_1 + 1))) else (none))) = some r := by first | (rw [hy656]; with_reducible exact H) | (have H2_ := (Option.bind_some _ _).symm.trans H; rw [hy656]; with_reducible exact H2_) | (have H2_ := (Option.bind_some _ _).symm.trans H; with_reducible exact H2_) | with_reducible exact H | (rw [hy656]; exact H) | exact H
              have Ny656 := Aside0.mk hy656
              clear hy656
              by_cases c9 : x8_1 = (Int.tmod (Go.bits .and .i64 a1 65535) (wrap64 ((Int.tmod (Go.bits .and .i64 a0 65535) 60) + 1)))
              · rw [if_pos c9] at H
                have c9b0 : (x8_1 == (Int.tmod (Go.bits .and .i64 a1 65535) (wrap64 ((Int.tmod (Go.bits .and .i64 a0 65535) 60) + 1)))) = true := beq_iff_eq.mpr c9
                have c9b1 : (x8_1 != (Int.tmod (Go.bits .and .i64 a1 65535) (wrap64 ((Int.tmod (Go.bits .and .i64 a0 65535) 60) + 1)))) = false := bne_eq_false_iff_eq.mpr c9
                clear c9
                by_cases c10 : y656.length < 17592186044416
                · rw [if_pos c10] at H
                  have LMc10 := Aside0.mk c10
                  clear c10
                  obtain ⟨y659, hy659⟩ : ∃ y_ : List Int, y_ = (y656 ++ [(Int.tmod (Go.bits .and .i64 a2 65535) (wrap64 ((Int.tmod (Go.bits .and .i64 a0 65535) 60) + 1)))]) := ⟨_, rfl⟩
                  replace H : (if x7_1.length < 5864062014805 then (ratlinelaw10_GraphLines.l0 k1 (wrap64 ((Int.tmod (Go.bits .and .i64 a0 65535) 60) + 1)) (Int.tmod (Go.bits .and .i64 a1 65535) (wrap64 ((Int.tmod (Go.bits .and .i64 a0 65535) 60) + 1))) (Int.tmod (Go.bits .and .i64 a2 65535) (wrap64 ((Int.tmod (Go.bits .and .i64 a0 65535) 60) + 1))) (x7_1 ++ [y659]) (wrap64 (x8_1 + 1))) else (none)) = some r := by first | (rw [hy659]; with_reducible exact H) | (have H2_ := (Option.bind_some _ _).symm.trans H; rw [hy659]; with_reducible exact H2_) | (have H2_ := (Option.bind_some _ _).symm.trans H; with_reducible exact H2_) | with_reducible exact H | (rw [hy659]; exact H) | exact H
                  have Ny659 := Aside0.mk hy659
                  clear hy659
                  by_cases c11 : x7_1.length < 5864062014805
                  · rw [if_pos c11] at H
                    have LMc11 := Aside0.mk c11
                    clear c11
                    obtain ⟨y662, hy662⟩ : ∃ y_ : List (List Int), y_ = (x7_1 ++ [y659]) := ⟨_, rfl⟩
                    replace H : (ratlinelaw10_GraphLines.l0 k1 (wrap64 ((Int.tmod (Go.bits .and .i64 a0 65535) 60) + 1)) (Int.tmod (Go.bits .and .i64 a1 65535) (wrap64 ((Int.tmod (Go.bits .and .i64 a0 65535) 60) + 1))) (Int.tmod (Go.bits .and .i64 a2 65535) (wrap64 ((Int.tmod (Go.bits .and .i64 a0 65535) 60) + 1))) y662 (wrap64 (x8_1 + 1))) = some r := by first | (rw [hy662]; with_reducible exact H) | (have H2_ := (Option.bind_some _ _).symm.trans H; rw [hy662]; with_reducible exact H2_) | (have H2_ := (Option.bind_some _ _).symm.trans H; with_reducible exact H2_) | with_reducible exact H | (rw [hy662]; exact H) | exact H
                    have Ny662 := Aside0.mk hy662
                    clear hy662
                    have H' := Aside0.mk H
                    clear H
                    go_wp2_with (first | ((with_reducible refine gate_builtin (b := .append) (xs := #[.tmp 37, .tmp 40]) rfl ?_); (try (refine gate_guard (by rfl) ?_; dsimp only)); at_builtin; refine Kd.R_append (Kd.int .i64) (w0 := w) w.heap.size rfl (.tmp 37) (.tmp 40) 25 3 (.int .i64 0) 8 rfl Try.underlying25 info3 rfl (by decide) (by omega) (.slice none 0 0) ([] : List Int) (wrap64 (x8_1 + 1)) [.int .i64 (wrap64 (x8_1 + 1))] (fun _ => True) (fun _ => False) rfl rfl ?aP (fun _ hk => hk.elim) ?aF ?aO ?aB ?aS ?aL ?_; (case aP => exact rfl); (case aB => exact (by repeat (first | (with_reducible first | exact HB.out | apply below_alloc | apply pw_below_drewN | apply below_drew1) | exact HB.out))); (case aF => exact (fun _ _ => trivial)); (case aO => exact ((Kd.R_nil _ _ _ _ (fun _ => True)))); (case aS => exact (below_size (by repeat (first | (with_reducible first | exact HB.out | apply below_alloc | apply pw_below_drewN | apply below_drew1) | exact HB.out)))); (case aL => have := LMc8.out; omega); intro v657 w12 ho hb hg hat; rw [← Ny656.out] at ho; have n0_ := Aside0.mk (Kd.S_after (Kd.S_apart_nil (by (with_reducible repeat (first | apply Kd.S_alloc | apply Kd.S_drewN | apply Kd.S_drew)); exact HO_7.out)) hg hat); have n1_ := Aside0.mk (hb); have n2_ := Aside0.mk (ho); clear HO_7; clear HB; have HO_7 := n0_; have HB := n1_; have HO658 := n2_; clear n0_ n1_ n2_; clear ho hb hg hat) | ((with_reducible refine gate_builtin (b := .append) (xs := #[.tmp 45, .tmp 47]) rfl ?_); (try (refine gate_guard (by rfl) ?_; dsimp only)); at_builtin; refine Kd.R_append (Kd.int .i64) (w0 := w) w.heap.size rfl (.tmp 45) (.tmp 47) 25 3 (.int .i64 0) 8 rfl Try.underlying25 info3 rfl (by decide) (by omega) v657 y656 (Int.tmod (Go.bits .and .i64 a2 65535) (wrap64 ((Int.tmod (Go.bits .and .i64 a0 65535) 60) + 1))) [.int .i64 (Int.tmod (Go.bits .and .i64 a2 65535) (wrap64 ((Int.tmod (Go.bits .and .i64 a0 65535) 60) + 1)))] (fun _ => True) (fun _ => False) rfl rfl ?aP (fun _ hk => hk.elim) ?aF ?aO ?aB ?aS ?aL ?_; (case aP => exact rfl); (case aB => exact (by repeat (first | (with_reducible first | exact HB.out | apply below_alloc | apply pw_below_drewN | apply below_drew1) | exact HB.out))); (case aF => exact (fun _ _ => trivial)); (case aO => exact (by (with_reducible repeat (first | apply Kd.R_alloc | apply Kd.R_drewN | apply Kd.R_drew)); exact HO658.out)); (case aS => exact (below_size (by repeat (first | (with_reducible first | exact HB.out | apply below_alloc | apply pw_below_drewN | apply below_drew1) | exact HB.out)))); (case aL => have := LMc10.out; omega); intro v660 w13 ho hb hg hat; rw [← Ny659.out] at ho; have n0_ := Aside0.mk (Kd.S_after (ok := (fun _ => True)) (by (with_reducible repeat (first | apply Kd.S_alloc | apply Kd.S_drewN | apply Kd.S_drew)); exact HO_7.out) hg hat); have n1_ := Aside0.mk (hb); have n2_ := Aside0.mk (ho); clear HO_7; clear HB; clear HO658; have HO_7 := n0_; have HB := n1_; have HO661 := n2_; clear n0_ n1_ n2_; clear ho hb hg hat; obtain ⟨Ao15, co15, eo15⟩ := Kd.R_slice HO661.out; subst eo15) | ((with_reducible refine gate_builtin (b := .append) (xs := #[.tmp 49, .tmp 51]) rfl ?_); (try (refine gate_guard (by rfl) ?_; dsimp only)); at_builtin; refine Kd.S_append (Kd.slice 3 (Kd.int .i64)) (w0 := w) w.heap.size rfl (.tmp 49) (.tmp 51) 22 25 (.slice none 0 0) 24 rfl Try.underlying22 info25 rfl (by decide) (by omega) u7 x7_1 y659 [.slice Ao15 y659.length co15] (fun _ => True) (fun k_ => some k_ = (.slice Ao15 y659.length co15 : Value).ownBlock) rfl rfl ?aP (fun k_ hk_ => ((Kd.R_mono (ok' := fun k_ => ((fun _ => True)) k_ ∧ some k_ ≠ (u7 : Value).ownBlock) (Kd.R_apart' (HO661.out) (Kd.S_typed HO_7.out) (by decide)) (fun k_ hk => ⟨trivial, hk.2⟩))).1 k_ hk_.symm) ?aF ?aO ?aB ?aS ?aL ?_; (case aP => exact Kd.M_row (Kd.R_mono (Kd.R_tight rfl (Kd.R_mono (ok' := fun k_ => ((fun _ => True)) k_ ∧ some k_ ≠ (u7 : Value).ownBlock) (Kd.R_apart' (HO661.out) (Kd.S_typed HO_7.out) (by decide)) (fun k_ hk => ⟨trivial, hk.2⟩))) (fun _ h_ => h_))); (case aB => exact (by repeat (first | (with_reducible first | exact HB.out | apply below_alloc | apply pw_below_drewN | apply below_drew1) | exact HB.out))); (case aF => exact (fun _ _ => trivial)); (case aO => exact (by (with_reducible repeat (first | apply Kd.S_alloc | apply Kd.S_drewN | apply Kd.S_drew)); exact Kd.S_mono HO_7.out (fun k_ hk => ⟨trivial, fun e_ => hk.2 e_⟩))); (case aS => exact (below_size (by repeat (first | (with_reducible first | exact HB.out | apply below_alloc | apply pw_below_drewN | apply below_drew1) | exact HB.out)))); (case aL => have := LMc11.out; omega); intro v663 w14 ho hb hg hat; rw [← Ny662.out] at ho; have n0_ := Aside0.mk (hb); have n1_ := Aside0.mk (ho); clear HB; clear HO_7; clear HO661; have HB := n0_; have HO664 := n1_; clear n0_ n1_; clear ho hb hg hat))
                    go_roundg k1
                    case measure => have := HK1.out; omega
                    case rel => exact ⟨(y662), (wrap64 (x8_1 + 1)), (by first | rfl | (simp; done) | (simp [*]; done)), H', ⟨by have := HK1.out; omega⟩, ⟨by (with_reducible repeat (first | apply Kd.S_alloc | apply Kd.S_drewN | apply Kd.S_drew)); exact HO664.out⟩, ⟨by repeat (first | (with_reducible first | exact HB.out | apply below_alloc | apply pw_below_drewN | apply below_drew1) | exact HB.out)⟩⟩
                  · rw [if_neg c11] at H
                    exact absurd H (by simp)
                · rw [if_neg c10] at H
                  exact absurd H (by simp)
              · rw [if_neg c9] at H
                have c9b0 : (x8_1 == (Int.tmod (Go.bits .and .i64 a1 65535) (wrap64 ((Int.tmod (Go.bits .and .i64 a0 65535) 60) + 1)))) = false := beq_eq_false_iff_ne.mpr c9
                have c9b1 : (x8_1 != (Int.tmod (Go.bits .and .i64 a1 65535) (wrap64 ((Int.tmod (Go.bits .and .i64 a0 65535) 60) + 1)))) = true := bne_iff_ne.mpr c9
                by_cases c16 : x7_1.length < 5864062014805
                · rw [if_pos c16] at H
                  have LMc16 := Aside0.mk c16
                  clear c16
                  obtain ⟨y665, hy665⟩ : ∃ y_ : List (List Int), y_ = (x7_1 ++ [y656]) := ⟨_, rfl⟩
                  replace H : (ratlinelaw10_GraphLines.l0 k1 (wrap64 ((Int.tmod (Go.bits .and .i64 a0 65535) 60) + 1)) (Int.tmod (Go.bits .and .i64 a1 65535) (wrap64 ((Int.tmod (Go.bits .and .i64 a0 65535) 60) + 1))) (Int.tmod (Go.bits .and .i64 a2 65535) (wrap64 ((Int.tmod (Go.bits .and .i64 a0 65535) 60) + 1))) y665 (wrap64 (x8_1 + 1))) = some r := by first | (rw [hy665]; with_reducible exact H) | (have H2_ := (Option.bind_some _ _).symm.trans H; rw [hy665]; with_reducible exact H2_) | (have H2_ := (Option.bind_some _ _).symm.trans H; with_reducible exact H2_) | with_reducible exact H | (rw [hy665]; exact H) | exact H
                  have Ny665 := Aside0.mk hy665
                  clear hy665
                  have H' := Aside0.mk H
                  clear H
                  go_wp2_with (first | ((with_reducible refine gate_builtin (b := .append) (xs := #[.tmp 37, .tmp 40]) rfl ?_); (try (refine gate_guard (by rfl) ?_; dsimp only)); at_builtin; refine Kd.R_append (Kd.int .i64) (w0 := w) w.heap.size rfl (.tmp 37) (.tmp 40) 25 3 (.int .i64 0) 8 rfl Try.underlying25 info3 rfl (by decide) (by omega) (.slice none 0 0) ([] : List Int) (wrap64 (x8_1 + 1)) [.int .i64 (wrap64 (x8_1 + 1))] (fun _ => True) (fun _ => False) rfl rfl ?aP (fun _ hk => hk.elim) ?aF ?aO ?aB ?aS ?aL ?_; (case aP => exact rfl); (case aB => exact (by repeat (first | (with_reducible first | exact HB.out | apply below_alloc | apply pw_below_drewN | apply below_drew1) | exact HB.out))); (case aF => exact (fun _ _ => trivial)); (case aO => exact ((Kd.R_nil _ _ _ _ (fun _ => True)))); (case aS => exact (below_size (by repeat (first | (with_reducible first | exact HB.out | apply below_alloc | apply pw_below_drewN | apply below_drew1) | exact HB.out)))); (case aL => have := LMc8.out; omega); intro v657 w17 ho hb hg hat; rw [← Ny656.out] at ho; have n0_ := Aside0.mk (Kd.S_after (Kd.S_apart_nil (by (with_reducible repeat (first | apply Kd.S_alloc | apply Kd.S_drewN | apply Kd.S_drew)); exact HO_7.out)) hg hat); have n1_ := Aside0.mk (hb); have n2_ := Aside0.mk (ho); clear HO_7; clear HB; have HO_7 := n0_; have HB := n1_; have HO658 := n2_; clear n0_ n1_ n2_; clear ho hb hg hat; obtain ⟨Ao19, co19, eo19⟩ := Kd.R_slice HO658.out; subst eo19) | ((with_reducible refine gate_builtin (b := .append) (xs := #[.tmp 49, .tmp 51]) rfl ?_); (try (refine gate_guard (by rfl) ?_; dsimp only)); at_builtin; refine Kd.S_append (Kd.slice 3 (Kd.int .i64)) (w0 := w) w.heap.size rfl (.tmp 49) (.tmp 51) 22 25 (.slice none 0 0) 24 rfl Try.underlying22 info25 rfl (by decide) (by omega) u7 x7_1 y656 [.slice Ao19 y656.length co19] (fun _ => True) (fun k_ => some k_ = (.slice Ao19 y656.length co19 : Value).ownBlock) rfl rfl ?aP (fun k_ hk_ => ((Kd.R_mono (ok' := fun k_ => ((fun _ => True)) k_ ∧ some k_ ≠ (u7 : Value).ownBlock) (Kd.R_apart' (HO658.out) (Kd.S_typed HO_7.out) (by decide)) (fun k_ hk => ⟨trivial, hk.2⟩))).1 k_ hk_.symm) ?aF ?aO ?aB ?aS ?aL ?_; (case aP => exact Kd.M_row (Kd.R_mono (Kd.R_tight rfl (Kd.R_mono (ok' := fun k_ => ((fun _ => True)) k_ ∧ some k_ ≠ (u7 : Value).ownBlock) (Kd.R_apart' (HO658.out) (Kd.S_typed HO_7.out) (by decide)) (fun k_ hk => ⟨trivial, hk.2⟩))) (fun _ h_ => h_))); (case aB => exact (by repeat (first | (with_reducible first | exact HB.out | apply below_alloc | apply pw_below_drewN | apply below_drew1) | exact HB.out))); (case aF => exact (fun _ _ => trivial)); (case aO => exact (by (with_reducible repeat (first | apply Kd.S_alloc | apply Kd.S_drewN | apply Kd.S_drew)); exact Kd.S_mono HO_7.out (fun k_ hk => ⟨trivial, fun e_ => hk.2 e_⟩))); (case aS => exact (below_size (by repeat (first | (with_reducible first | exact HB.out | apply below_alloc | apply pw_below_drewN | apply below_drew1) | exact HB.out)))); (case aL => have := LMc16.out; omega); intro v666 w18 ho hb hg hat; rw [← Ny665.out] at ho; have n0_ := Aside0.mk (hb); have n1_ := Aside0.mk (ho); clear HB; clear HO_7; clear HO658; have HB := n0_; have HO667 := n1_; clear n0_ n1_; clear ho hb hg hat))
                  go_roundg k1
                  case measure => have := HK1.out; omega
                  case rel => exact ⟨(y665), (wrap64 (x8_1 + 1)), (by first | rfl | (simp; done) | (simp [*]; done)), H', ⟨by have := HK1.out; omega⟩, ⟨by (with_reducible repeat (first | apply Kd.S_alloc | apply Kd.S_drewN | apply Kd.S_drew)); exact HO667.out⟩, ⟨by repeat (first | (with_reducible first | exact HB.out | apply below_alloc | apply pw_below_drewN | apply below_drew1) | exact HB.out)⟩⟩
                · rw [if_neg c16] at H
                  exact absurd H (by simp)
            · rw [if_neg c8] at H
              exact absurd H (by simp)
          · rw [if_neg c7] at H
            have c7b0 : decide ((wrap64 (x8_1 + 1)) < (wrap64 ((Int.tmod (Go.bits .and .i64 a0 65535) 60) + 1))) = false := decide_eq_false c7
            clear c7
            by_cases c20 : x8_1 = (Int.tmod (Go.bits .and .i64 a1 65535) (wrap64 ((Int.tmod (Go.bits .and .i64 a0 65535) 60) + 1)))
            · rw [if_pos c20] at H
              have c20b0 : (x8_1 == (Int.tmod (Go.bits .and .i64 a1 65535) (wrap64 ((Int.tmod (Go.bits .and .i64 a0 65535) 60) + 1)))) = true := beq_iff_eq.mpr c20
              have c20b1 : (x8_1 != (Int.tmod (Go.bits .and .i64 a1 65535) (wrap64 ((Int.tmod (Go.bits .and .i64 a0 65535) 60) + 1)))) = false := bne_eq_false_iff_eq.mpr c20
              clear c20
              by_cases c21 : ([] : List Int).length < 17592186044416
              · rw [if_pos c21] at H
                have LMc21 := Aside0.mk c21
                clear c21
                obtain ⟨y668, hy668⟩ : ∃ y_ : List Int, y_ = (([] : List Int) ++ [(Int.tmod (Go.bits .and .i64 a2 65535) (wrap64 ((Int.tmod (Go.bits .and .i64 a0 65535) 60) + 1)))]) := ⟨_, rfl⟩
                replace H : (if x7_1.length < 5864062014805 then (ratlinelaw10_GraphLines.l0 k1 (wrap64 ((Int.tmod (Go.bits .and .i64 a0 65535) 60) + 1)) (Int.tmod (Go.bits .and .i64 a1 65535) (wrap64 ((Int.tmod (Go.bits .and .i64 a0 65535) 60) + 1))) (Int.tmod (Go.bits .and .i64 a2 65535) (wrap64 ((Int.tmod (Go.bits .and .i64 a0 65535) 60) + 1))) (x7_1 ++ [y668]) (wrap64 (x8_1 + 1))) else (none)) = some r := by first | (rw [hy668]; with_reducible exact H) | (have H2_ := (Option.bind_some _ _).symm.trans H; rw [hy668]; with_reducible exact H2_) | (have H2_ := (Option.bind_some _ _).symm.trans H; with_reducible exact H2_) | with_reducible exact H | (rw [hy668]; exact H) | exact H
                have Ny668 := Aside0.mk hy668
                clear hy668
                by_cases c22 : x7_1.length < 5864062014805
                · rw [if_pos c22] at H
                  have LMc22 := Aside0.mk c22
                  clear c22
                  obtain ⟨y671, hy671⟩ : ∃ y_ : List (List Int), y_ = (x7_1 ++ [y668]) := ⟨_, rfl⟩
                  replace H : (ratlinelaw10_GraphLines.l0 k1 (wrap64 ((Int.tmod (Go.bits .and .i64 a0 65535) 60) + 1)) (Int.tmod (Go.bits .and .i64 a1 65535) (wrap64 ((Int.tmod (Go.bits .and .i64 a0 65535) 60) + 1))) (Int.tmod (Go.bits .and .i64 a2 65535) (wrap64 ((Int.tmod (Go.bits .and .i64 a0 65535) 60) + 1))) y671 (wrap64 (x8_1 + 1))) = some r := by first | (rw [hy671]; with_reducible exact H) | (have H2_ := (Option.bind_some _ _).symm.trans H; rw [hy671]; with_reducible exact H2_) | (have H2_ := (Option.bind_some _ _).symm.trans H; with_reducible exact H2_) | with_reducible exact H | (rw [hy671]; exact H) | exact H
                  have Ny671 := Aside0.mk hy671
                  clear hy671
                  have H' := Aside0.mk H
                  clear H
                  go_wp2_with (first | ((with_reducible refine gate_builtin (b := .append) (xs := #[.tmp 45, .tmp 47]) rfl ?_); (try (refine gate_guard (by rfl) ?_; dsimp only)); at_builtin; refine Kd.R_append (Kd.int .i64) (w0 := w) w.heap.size rfl (.tmp 45) (.tmp 47) 25 3 (.int .i64 0) 8 rfl Try.underlying25 info3 rfl (by decide) (by omega) (.slice none 0 0) ([] : List Int) (Int.tmod (Go.bits .and .i64 a2 65535) (wrap64 ((Int.tmod (Go.bits .and .i64 a0 65535) 60) + 1))) [.int .i64 (Int.tmod (Go.bits .and .i64 a2 65535) (wrap64 ((Int.tmod (Go.bits .and .i64 a0 65535) 60) + 1)))] (fun _ => True) (fun _ => False) rfl rfl ?aP (fun _ hk => hk.elim) ?aF ?aO ?aB ?aS ?aL ?_; (case aP => exact rfl); (case aB => exact (by repeat (first | (with_reducible first | exact HB.out | apply below_alloc | apply pw_below_drewN | apply below_drew1) | exact HB.out))); (case aF => exact (fun _ _ => trivial)); (case aO => exact ((Kd.R_nil _ _ _ _ (fun _ => True)))); (case aS => exact (below_size (by repeat (first | (with_reducible first | exact HB.out | apply below_alloc | apply pw_below_drewN | apply below_drew1) | exact HB.out)))); (case aL => have := LMc21.out; omega); intro v669 w23 ho hb hg hat; rw [← Ny668.out] at ho; have n0_ := Aside0.mk (Kd.S_after (Kd.S_apart_nil (by (with_reducible repeat (first | apply Kd.S_alloc | apply Kd.S_drewN | apply Kd.S_drew)); exact HO_7.out)) hg hat); have n1_ := Aside0.mk (hb); have n2_ := Aside0.mk (ho); clear HO_7; clear HB; have HO_7 := n0_; have HB := n1_; have HO670 := n2_; clear n0_ n1_ n2_; clear ho hb hg hat; obtain ⟨Ao25, co25, eo25⟩ := Kd.R_slice HO670.out; subst eo25) | ((with_reducible refine gate_builtin (b := .append) (xs := #[.tmp 49, .tmp 51]) rfl ?_); (try (refine gate_guard (by rfl) ?_; dsimp only)); at_builtin; refine Kd.S_append (Kd.slice 3 (Kd.int .i64)) (w0 := w) w.heap.size rfl (.tmp 49) (.tmp 51) 22 25 (.slice none 0 0) 24 rfl Try.underlying22 info25 rfl (by decide) (by omega) u7 x7_1 y668 [.slice Ao25 y668.length co25] (fun _ => True) (fun k_ => some k_ = (.slice Ao25 y668.length co25 : Value).ownBlock) rfl rfl ?aP (fun k_ hk_ => ((Kd.R_mono (ok' := fun k_ => ((fun _ => True)) k_ ∧ some k_ ≠ (u7 : Value).ownBlock) (Kd.R_apart' (HO670.out) (Kd.S_typed HO_7.out) (by decide)) (fun k_ hk => ⟨trivial, hk.2⟩))).1 k_ hk_.symm) ?aF ?aO ?aB ?aS ?aL ?_; (case aP => exact Kd.M_row (Kd.R_mono (Kd.R_tight rfl (Kd.R_mono (ok' := fun k_ => ((fun _ => True)) k_ ∧ some k_ ≠ (u7 : Value).ownBlock) (Kd.R_apart' (HO670.out) (Kd.S_typed HO_7.out) (by decide)) (fun k_ hk => ⟨trivial, hk.2⟩))) (fun _ h_ => h_))); (case aB => exact (by repeat (first | (with_reducible first | exact HB.out | apply below_alloc | apply pw_below_drewN | apply below_drew1) | exact HB.out))); (case aF => exact (fun _ _ => trivial)); (case aO => exact (by (with_reducible repeat (first | apply Kd.S_alloc | apply Kd.S_drewN | apply Kd.S_drew)); exact Kd.S_mono HO_7.out (fun k_ hk => ⟨trivial, fun e_ => hk.2 e_⟩))); (case aS => exact (below_size (by repeat (first | (with_reducible first | exact HB.out | apply below_alloc | apply pw_below_drewN | apply below_drew1) | exact HB.out)))); (case aL => have := LMc22.out; omega); intro v672 w24 ho hb hg hat; rw [← Ny671.out] at ho; have n0_ := Aside0.mk (hb); have n1_ := Aside0.mk (ho); clear HB; clear HO_7; clear HO670; have HB := n0_; have HO673 := n1_; clear n0_ n1_; clear ho hb hg hat))
                  go_roundg k1
                  case measure => have := HK1.out; omega
                  case rel => exact ⟨(y671), (wrap64 (x8_1 + 1)), (by first | rfl | (simp; done) | (simp [*]; done)), H', ⟨by have := HK1.out; omega⟩, ⟨by (with_reducible repeat (first | apply Kd.S_alloc | apply Kd.S_drewN | apply Kd.S_drew)); exact HO673.out⟩, ⟨by repeat (first | (with_reducible first | exact HB.out | apply below_alloc | apply pw_below_drewN | apply below_drew1) | exact HB.out)⟩⟩
                · rw [if_neg c22] at H
                  exact absurd H (by simp)
              · rw [if_neg c21] at H
                exact absurd H (by simp)
            · rw [if_neg c20] at H
              have c20b0 : (x8_1 == (Int.tmod (Go.bits .and .i64 a1 65535) (wrap64 ((Int.tmod (Go.bits .and .i64 a0 65535) 60) + 1)))) = false := beq_eq_false_iff_ne.mpr c20
              have c20b1 : (x8_1 != (Int.tmod (Go.bits .and .i64 a1 65535) (wrap64 ((Int.tmod (Go.bits .and .i64 a0 65535) 60) + 1)))) = true := bne_iff_ne.mpr c20
              by_cases c26 : x7_1.length < 5864062014805
              · rw [if_pos c26] at H
                have LMc26 := Aside0.mk c26
                clear c26
                obtain ⟨y674, hy674⟩ : ∃ y_ : List (List Int), y_ = (x7_1 ++ [([] : List Int)]) := ⟨_, rfl⟩
                replace H : (ratlinelaw10_GraphLines.l0 k1 (wrap64 ((Int.tmod (Go.bits .and .i64 a0 65535) 60) + 1)) (Int.tmod (Go.bits .and .i64 a1 65535) (wrap64 ((Int.tmod (Go.bits .and .i64 a0 65535) 60) + 1))) (Int.tmod (Go.bits .and .i64 a2 65535) (wrap64 ((Int.tmod (Go.bits .and .i64 a0 65535) 60) + 1))) y674 (wrap64 (x8_1 + 1))) = some r := by first | (rw [hy674]; with_reducible exact H) | (have H2_ := (Option.bind_some _ _).symm.trans H; rw [hy674]; with_reducible exact H2_) | (have H2_ := (Option.bind_some _ _).symm.trans H; with_reducible exact H2_) | with_reducible exact H | (rw [hy674]; exact H) | exact H
                have Ny674 := Aside0.mk hy674
                clear hy674
                have H' := Aside0.mk H
                clear H
                go_wp2_with (first | ((with_reducible refine gate_builtin (b := .append) (xs := #[.tmp 49, .tmp 51]) rfl ?_); (try (refine gate_guard (by rfl) ?_; dsimp only)); at_builtin; refine Kd.S_append (Kd.slice 3 (Kd.int .i64)) (w0 := w) w.heap.size rfl (.tmp 49) (.tmp 51) 22 25 (.slice none 0 0) 24 rfl Try.underlying22 info25 rfl (by decide) (by omega) u7 x7_1 ([] : List Int) [.slice none 0 0] (fun _ => True) (fun _ => False) rfl rfl ?aP (fun k_ hk_ => hk_.elim) ?aF ?aO ?aB ?aS ?aL ?_; (case aP => exact Kd.M_row (Kd.R_nil _ _ _ _ _)); (case aB => exact (by repeat (first | (with_reducible first | exact HB.out | apply below_alloc | apply pw_below_drewN | apply below_drew1) | exact HB.out))); (case aF => exact (fun _ _ => trivial)); (case aO => exact (by (with_reducible repeat (first | apply Kd.S_alloc | apply Kd.S_drewN | apply Kd.S_drew)); exact Kd.S_mono HO_7.out (fun k_ hk => ⟨trivial, fun e_ => e_⟩))); (case aS => exact (below_size (by repeat (first | (with_reducible first | exact HB.out | apply below_alloc | apply pw_below_drewN | apply below_drew1) | exact HB.out)))); (case aL => have := LMc26.out; omega); intro v675 w27 ho hb hg hat; rw [← Ny674.out] at ho; have n0_ := Aside0.mk (hb); have n1_ := Aside0.mk (ho); clear HB; clear HO_7; have HB := n0_; have HO676 := n1_; clear n0_ n1_; clear ho hb hg hat))
                go_roundg k1
                case measure => have := HK1.out; omega
                case rel => exact ⟨(y674), (wrap64 (x8_1 + 1)), (by first | rfl | (simp; done) | (simp [*]; done)), H', ⟨by have := HK1.out; omega⟩, ⟨by (with_reducible repeat (first | apply Kd.S_alloc | apply Kd.S_drewN | apply Kd.S_drew)); exact HO676.out⟩, ⟨by repeat (first | (with_reducible first | exact HB.out | apply below_alloc | apply pw_below_drewN | apply below_drew1) | exact HB.out)⟩⟩
              · rw [if_neg c26] at H
                exact absurd H (by simp)
        · rw [if_neg c6] at H
          have c6b0 : decide (x8_1 < (wrap64 ((Int.tmod (Go.bits .and .i64 a0 65535) 60) + 1))) = false := decide_eq_false c6
          clear c6
          replace H := Option.bind_eq_some_iff.mp H
          obtain ⟨t677, A280, H⟩ := H
          replace H : ((graph_Loops.f k1 x7_1).bind fun t680 => (if (t677.length : Int) = (wrap64 ((Int.tmod (Go.bits .and .i64 a0 65535) 60) + 1)) then ((graph_Order.f k1 x7_1).bind fun t683 => (ratlinelaw10_GraphLines.j1 k1 (wrap64 ((Int.tmod (Go.bits .and .i64 a0 65535) 60) + 1)) (Int.tmod (Go.bits .and .i64 a1 65535) (wrap64 ((Int.tmod (Go.bits .and .i64 a0 65535) 60) + 1))) (Int.tmod (Go.bits .and .i64 a2 65535) (wrap64 ((Int.tmod (Go.bits .and .i64 a0 65535) 60) + 1))) x7_1 t677 t680 ((t683.length : Int) != (wrap64 ((Int.tmod (Go.bits .and .i64 a0 65535) 60) + 1))))) else (ratlinelaw10_GraphLines.j1 k1 (wrap64 ((Int.tmod (Go.bits .and .i64 a0 65535) 60) + 1)) (Int.tmod (Go.bits .and .i64 a1 65535) (wrap64 ((Int.tmod (Go.bits .and .i64 a0 65535) 60) + 1))) (Int.tmod (Go.bits .and .i64 a2 65535) (wrap64 ((Int.tmod (Go.bits .and .i64 a0 65535) 60) + 1))) x7_1 t677 t680 true))) = some r := H
          have A28 := Aside0.mk A280
          clear A280
          replace H := Option.bind_eq_some_iff.mp H
          obtain ⟨t680, A290, H⟩ := H
          replace H : (if (t677.length : Int) = (wrap64 ((Int.tmod (Go.bits .and .i64 a0 65535) 60) + 1)) then ((graph_Order.f k1 x7_1).bind fun t683 => (ratlinelaw10_GraphLines.j1 k1 (wrap64 ((Int.tmod (Go.bits .and .i64 a0 65535) 60) + 1)) (Int.tmod (Go.bits .and .i64 a1 65535) (wrap64 ((Int.tmod (Go.bits .and .i64 a0 65535) 60) + 1))) (Int.tmod (Go.bits .and .i64 a2 65535) (wrap64 ((Int.tmod (Go.bits .and .i64 a0 65535) 60) + 1))) x7_1 t677 t680 ((t683.length : Int) != (wrap64 ((Int.tmod (Go.bits .and .i64 a0 65535) 60) + 1))))) else (ratlinelaw10_GraphLines.j1 k1 (wrap64 ((Int.tmod (Go.bits .and .i64 a0 65535) 60) + 1)) (Int.tmod (Go.bits .and .i64 a1 65535) (wrap64 ((Int.tmod (Go.bits .and .i64 a0 65535) 60) + 1))) (Int.tmod (Go.bits .and .i64 a2 65535) (wrap64 ((Int.tmod (Go.bits .and .i64 a0 65535) 60) + 1))) x7_1 t677 t680 true)) = some r := H
          have A29 := Aside0.mk A290
          clear A290
          have HC30 := Aside0.mk H
          clear H
          obtain ⟨Ao31, co31, eo31⟩ := Kd.S_slice HO_7.out
          subst eo31
          go_upto_region 15 with (first | ((with_reducible refine gate_callee (f := 11) rfl ?_); refine goesL_ (some 54) rfl rfl Try.func11 (by kernel_rfl) rfl #[.slice Ao31 x7_1.length co31] rfl (by (try simp only [List.map_toArray, List.map_cons, List.map_nil]); first | done | rfl | (simp only [List.length_drop, List.length_take]; rfl)) ?_; (with_reducible refine (graph_Doms.calls k1 _ _ x7_1 t677 _ ?side1 ?side2 A28.out).mono ?_); (case side1 => repeat (first | exact (Kd.S_reads' HO_7.out).2.2 | (with_reducible refine Kd.C_alloc ?_ _) | (with_reducible refine Kd.C_drewN ?_ _) | (with_reducible refine Kd.C_drew ?_))); (case side2 => exact (Kd.S_reads' HO_7.out).2.1); rintro e w32 ⟨v678, rfl, ho0, hb⟩; refine ⟨_, rfl, ?_⟩; have n0_ := Aside0.mk (Kd.S_elder' (by (with_reducible repeat (first | apply Kd.S_alloc | apply Kd.S_drewN | apply Kd.S_drew)); exact HO_7.out) (Kd.R_base ho0) hb); have n1_ := Aside0.mk (Kd.R_lower ho0 (below_size (by repeat (first | (with_reducible first | exact HB.out | apply below_alloc | apply pw_below_drewN | apply below_drew1) | exact HB.out)))); have n2_ := Aside0.mk (below_step (by repeat (first | (with_reducible first | exact HB.out | apply below_alloc | apply pw_below_drewN | apply below_drew1) | exact HB.out)) hb); clear HO_7; clear HB; have HO_7 := n0_; have HO679 := n1_; have HB := n2_; clear n0_ n1_ n2_; (try clear hb); (try clear hb2); (try clear hk); (try clear hi); (try clear ho0)) | ((with_reducible refine gate_callee (f := 17) rfl ?_); refine goesL_ (some 56) rfl rfl Try.func17 (by kernel_rfl) rfl #[.slice Ao31 x7_1.length co31] rfl (by (try simp only [List.map_toArray, List.map_cons, List.map_nil]); first | done | rfl | (simp only [List.length_drop, List.length_take]; rfl)) ?_; (with_reducible refine (graph_Loops.calls k1 _ _ x7_1 t680 _ ?side1 ?side2 A29.out).mono ?_); (case side1 => repeat (first | exact (Kd.S_reads' HO_7.out).2.2 | (with_reducible refine Kd.C_alloc ?_ _) | (with_reducible refine Kd.C_drewN ?_ _) | (with_reducible refine Kd.C_drew ?_))); (case side2 => exact (Kd.S_reads' HO_7.out).2.1); rintro e w33 ⟨v681, rfl, ho0, hb⟩; refine ⟨_, rfl, ?_⟩; have n0_ := Aside0.mk (Kd.S_below (by (with_reducible repeat (first | apply Kd.S_alloc | apply Kd.S_drewN | apply Kd.S_drew)); exact HO_7.out) hb); have n1_ := Aside0.mk (Kd.R_below (by (with_reducible repeat (first | apply Kd.R_alloc | apply Kd.R_drewN | apply Kd.R_drew)); exact HO679.out) hb); have n2_ := Aside0.mk (Kd.V_lower (Kd.V_mono (ok' := fun k_ => some k_ ≠ (.slice Ao31 x7_1.length co31 : Value).ownBlock ∧ some k_ ≠ (v678 : Value).ownBlock) ho0 (fun k_ hk_ => ⟨(Kd.fresh' (Kd.S_lt (by (with_reducible repeat (first | apply Kd.S_alloc | apply Kd.S_drewN | apply Kd.S_drew)); exact HO_7.out)) k_ hk_), (Kd.fresh' (Kd.R_lt (by (with_reducible repeat (first | apply Kd.R_alloc | apply Kd.R_drewN | apply Kd.R_drew)); exact HO679.out)) k_ hk_)⟩)) (below_size (by repeat (first | (with_reducible first | exact HB.out | apply below_alloc | apply pw_below_drewN | apply below_drew1) | exact HB.out)))); have n3_ := Aside0.mk (below_step (by repeat (first | (with_reducible first | exact HB.out | apply below_alloc | apply pw_below_drewN | apply below_drew1) | exact HB.out)) hb); clear HO_7; clear HO679; clear HB; have HO_7 := n0_; have HO679 := n1_; have HO682 := n2_; have HB := n3_; clear n0_ n1_ n2_ n3_; (try clear hb); (try clear hb2); (try clear hk); (try clear hi); (try clear ho0)))
          (try simp only [Act.put, List.setIfInBounds_toArray, List.set_cons_zero, List.set_cons_succ])
          go_cut [67] (fun v67 wc => ∃ (kq : Nat) (x67_29 : Bool), v67 = .bool x67_29 ∧ Aside0 (ratlinelaw10_GraphLines.j1 kq (wrap64 ((Int.tmod (Go.bits .and .i64 a0 65535) 60) + 1)) (Int.tmod (Go.bits .and .i64 a1 65535) (wrap64 ((Int.tmod (Go.bits .and .i64 a0 65535) 60) + 1))) (Int.tmod (Go.bits .and .i64 a2 65535) (wrap64 ((Int.tmod (Go.bits .and .i64 a0 65535) 60) + 1))) x7_1 t677 t680 x67_29 = some r) ∧ Aside0 (kq ≤ k1) ∧ Aside0 (Kd.S (Kd.slice 3 (Kd.int .i64)) 25 wc w.heap.size (fun k_ => some k_ ≠ (v678 : Value).ownBlock) (.slice Ao31 x7_1.length co31) x7_1) ∧ Aside0 (Kd.R (Kd.int .i64) 3 wc w.heap.size (fun _ => True) v678 t677) ∧ Aside0 (Kd.V k37 37 wc w.heap.size (fun k_ => some k_ ≠ ((.slice Ao31 x7_1.length co31) : Value).ownBlock ∧ some k_ ≠ (v678 : Value).ownBlock) v681 t680) ∧ Aside0 (Below w.heap.size w wc))
          case first =>
            have H := HC30.out
            clear HC30
            by_cases c34 : (t677.length : Int) = (wrap64 ((Int.tmod (Go.bits .and .i64 a0 65535) 60) + 1))
            · rw [if_pos c34] at H
              have c34b0 : ((t677.length : Int) == (wrap64 ((Int.tmod (Go.bits .and .i64 a0 65535) 60) + 1))) = true := beq_iff_eq.mpr c34
              have c34b1 : ((t677.length : Int) != (wrap64 ((Int.tmod (Go.bits .and .i64 a0 65535) 60) + 1))) = false := bne_eq_false_iff_eq.mpr c34
              clear c34
              (first | rw [c34b0] | (simp only [i64_w, i32_w]; rw [c34b0]) | skip)
              replace H := Option.bind_eq_some_iff.mp H
              obtain ⟨t683, A350, H⟩ := H
              replace H : (ratlinelaw10_GraphLines.j1 k1 (wrap64 ((Int.tmod (Go.bits .and .i64 a0 65535) 60) + 1)) (Int.tmod (Go.bits .and .i64 a1 65535) (wrap64 ((Int.tmod (Go.bits .and .i64 a0 65535) 60) + 1))) (Int.tmod (Go.bits .and .i64 a2 65535) (wrap64 ((Int.tmod (Go.bits .and .i64 a0 65535) 60) + 1))) x7_1 t677 t680 ((t683.length : Int) != (wrap64 ((Int.tmod (Go.bits .and .i64 a0 65535) 60) + 1)))) = some r := H
              have A35 := Aside0.mk A350
              clear A350
              have H' := Aside0.mk H
              clear H
              obtain ⟨Ao36, co36, eo36⟩ := Kd.R_slice HO679.out
              subst eo36
              go_wp2_with (first | (go_at_call 22; (with_reducible refine (graph_Order.calls k1 _ _ x7_1 t683 _ ?side1 ?side2 A35.out).mono ?_); (case side1 => repeat (first | exact (Kd.S_reads' HO_7.out).2.2 | (with_reducible refine Kd.C_alloc ?_ _) | (with_reducible refine Kd.C_drewN ?_ _) | (with_reducible refine Kd.C_drew ?_))); (case side2 => exact (Kd.S_reads' HO_7.out).2.1); rintro e w37 ⟨v684, rfl, ho0, hb⟩; have n0_ := Aside0.mk (Kd.S_below (by (with_reducible repeat (first | apply Kd.S_alloc | apply Kd.S_drewN | apply Kd.S_drew)); exact HO_7.out) hb); have n1_ := Aside0.mk (Kd.R_below (by (with_reducible repeat (first | apply Kd.R_alloc | apply Kd.R_drewN | apply Kd.R_drew)); exact HO679.out) hb); have n2_ := Aside0.mk (Kd.V_below (by (with_reducible repeat (first | apply Kd.V_alloc | apply Kd.V_drewN | apply Kd.V_drew)); exact HO682.out) hb); have n3_ := Aside0.mk (Kd.V_lower (Kd.V_mono (ok' := fun k_ => some k_ ≠ (.slice Ao31 x7_1.length co31 : Value).ownBlock ∧ some k_ ≠ (.slice Ao36 t677.length co36 : Value).ownBlock) ho0 (fun k_ hk_ => ⟨(Kd.fresh' (Kd.S_lt (by (with_reducible repeat (first | apply Kd.S_alloc | apply Kd.S_drewN | apply Kd.S_drew)); exact HO_7.out)) k_ hk_), (Kd.fresh' (Kd.R_lt (by (with_reducible repeat (first | apply Kd.R_alloc | apply Kd.R_drewN | apply Kd.R_drew)); exact HO679.out)) k_ hk_)⟩)) (below_size (by repeat (first | (with_reducible first | exact HB.out | apply below_alloc | apply pw_below_drewN | apply below_drew1) | exact HB.out)))); have n4_ := Aside0.mk (below_step (by repeat (first | (with_reducible first | exact HB.out | apply below_alloc | apply pw_below_drewN | apply below_drew1) | exact HB.out)) hb); clear HO_7; clear HO679; clear HO682; clear HB; have HO_7 := n0_; have HO679 := n1_; have HO682 := n2_; have HO685 := n3_; have HB := n4_; clear n0_ n1_ n2_ n3_ n4_; (try clear hb); (try clear hb2); (try clear hk); (try clear hi); (try clear ho0); obtain ⟨Ao38, co38, eo38⟩ := Kd.V_slice HO685.out; subst eo38))
              go_meet
              case rel => exact ⟨_, (((t683.length : Int) != (wrap64 ((Int.tmod (Go.bits .and .i64 a0 65535) 60) + 1)))), (by first | rfl | (simp; done) | (simp [*]; done)), H', ⟨by have := HK1.out; first | omega | exact Nat.le_refl _⟩, ⟨by (with_reducible repeat (first | apply Kd.S_alloc | apply Kd.S_drewN | apply Kd.S_drew)); exact Kd.S_mono HO_7.out (fun _ hk => hk.2)⟩, ⟨by (with_reducible repeat (first | apply Kd.R_alloc | apply Kd.R_drewN | apply Kd.R_drew)); exact HO679.out⟩, ⟨by (with_reducible repeat (first | apply Kd.V_alloc | apply Kd.V_drewN | apply Kd.V_drew)); exact HO682.out⟩, ⟨by repeat (first | (with_reducible first | exact HB.out | apply below_alloc | apply pw_below_drewN | apply below_drew1) | exact HB.out)⟩⟩
            · rw [if_neg c34] at H
              have c34b0 : ((t677.length : Int) == (wrap64 ((Int.tmod (Go.bits .and .i64 a0 65535) 60) + 1))) = false := beq_eq_false_iff_ne.mpr c34
              have c34b1 : ((t677.length : Int) != (wrap64 ((Int.tmod (Go.bits .and .i64 a0 65535) 60) + 1))) = true := bne_iff_ne.mpr c34
              (first | rw [c34b0] | (simp only [i64_w, i32_w]; rw [c34b0]) | skip)
              have H' := Aside0.mk H
              clear H
              obtain ⟨Ao39, co39, eo39⟩ := Kd.R_slice HO679.out
              subst eo39
              go_wp2
              go_meet
              case rel => exact ⟨_, (true), (by first | rfl | (simp; done) | (simp [*]; done)), H', ⟨by have := HK1.out; first | omega | exact Nat.le_refl _⟩, ⟨by (with_reducible repeat (first | apply Kd.S_alloc | apply Kd.S_drewN | apply Kd.S_drew)); exact Kd.S_mono HO_7.out (fun _ hk => hk.2)⟩, ⟨by (with_reducible repeat (first | apply Kd.R_alloc | apply Kd.R_drewN | apply Kd.R_drew)); exact HO679.out⟩, ⟨by (with_reducible repeat (first | apply Kd.V_alloc | apply Kd.V_drewN | apply Kd.V_drew)); exact HO682.out⟩, ⟨by repeat (first | (with_reducible first | exact HB.out | apply below_alloc | apply pw_below_drewN | apply below_drew1) | exact HB.out)⟩⟩
          case rest =>
            clear HC30
            try clear c1
            try clear c2
            try clear p2
            try clear c3
            try clear c4
            try clear c4b0
            try clear c4b1
            try clear c6
            try clear c6b0
            try clear p6
            try clear c7
            try clear c7b0
            try clear c8
            try clear c9
            try clear c9b0
            try clear c9b1
            try clear c10
            try clear c11
            try clear c16
            try clear c17
            try clear c20
            try clear c20b0
            try clear c20b1
            try clear c21
            try clear c22
            try clear c26
            try clear c34
            try clear c34b0
            try clear c34b1
            try clear p2
            obtain ⟨kq, x67_29, rfl, HA, HJ29, HO_7, HO_10, HO_11, HB⟩ := hcut
            cases kq with
            | zero => exact absurd HA.out (by simp [ratlinelaw10_GraphLines.j1])
            | succ kj29 =>
              have H := HA.out
              clear HA
              simp only [ratlinelaw10_GraphLines.j1] at H
              by_cases c40 : x67_29 = true
              · subst c40
                have H1 : (some false) = some r := by rw [if_pos rfl] at H; exact H
                clear H
                have H := H1
                clear H1
                exact absurd (Option.some.inj H) (by rw [hr.out]; decide)
              · replace c40 := Bool.eq_false_iff.mpr c40
                subst c40
                have H1 : (ratlinelaw10_GraphLines.l1 kj29 (wrap64 ((Int.tmod (Go.bits .and .i64 a0 65535) 60) + 1)) (Int.tmod (Go.bits .and .i64 a1 65535) (wrap64 ((Int.tmod (Go.bits .and .i64 a0 65535) 60) + 1))) (Int.tmod (Go.bits .and .i64 a2 65535) (wrap64 ((Int.tmod (Go.bits .and .i64 a0 65535) 60) + 1))) x7_1 t677 t680 (decide ((Int.tmod (Go.bits .and .i64 a2 65535) (wrap64 ((Int.tmod (Go.bits .and .i64 a0 65535) 60) + 1))) > (wrap64 ((Int.tmod (Go.bits .and .i64 a1 65535) (wrap64 ((Int.tmod (Go.bits .and .i64 a0 65535) 60) + 1))) + 1)))) 0) = some r := by rw [if_neg (show ¬ (false = true) by decide)] at H; exact H
                clear H
                have H := H1
                clear H1
                have H' := Aside0.mk H
                clear H
                go_wp2
                generalize hxs12 : (decide ((Int.tmod (Go.bits .and .i64 a2 65535) (wrap64 ((Int.tmod (Go.bits .and .i64 a0 65535) 60) + 1))) > (wrap64 ((Int.tmod (Go.bits .and .i64 a1 65535) (wrap64 ((Int.tmod (Go.bits .and .i64 a0 65535) 60) + 1))) + 1)))) = xs12 at H' ⊢
                go_loopg [13] kj29 (fun kq v13 w' => ∃ (x13_3 : Int), v13 = .int .i64 x13_3 ∧ Aside0 (ratlinelaw10_GraphLines.l1 kq (wrap64 ((Int.tmod (Go.bits .and .i64 a0 65535) 60) + 1)) (Int.tmod (Go.bits .and .i64 a1 65535) (wrap64 ((Int.tmod (Go.bits .and .i64 a0 65535) 60) + 1))) (Int.tmod (Go.bits .and .i64 a2 65535) (wrap64 ((Int.tmod (Go.bits .and .i64 a0 65535) 60) + 1))) x7_1 t677 t680 xs12 x13_3 = some r) ∧ Aside0 (kq ≤ kj29) ∧ Aside0 (Kd.S (Kd.slice 3 (Kd.int .i64)) 25 w' w.heap.size (fun k_ => some k_ ≠ (v678 : Value).ownBlock) (.slice Ao31 x7_1.length co31) x7_1) ∧ Aside0 (Kd.R (Kd.int .i64) 3 w' w.heap.size (fun _ => True) v678 t677) ∧ Aside0 (Kd.V k37 37 w' w.heap.size (fun k_ => some k_ ≠ ((.slice Ao31 x7_1.length co31) : Value).ownBlock ∧ some k_ ≠ (v678 : Value).ownBlock) v681 t680) ∧ Aside0 (Below w.heap.size w w'))
                case atStart => exact ⟨(0), (by first | rfl | (simp; done) | (simp [*]; done)), H', ⟨Nat.le_refl _⟩, ⟨by (with_reducible repeat (first | apply Kd.S_alloc | apply Kd.S_drewN | apply Kd.S_drew)); exact HO_7.out⟩, ⟨by (with_reducible repeat (first | apply Kd.R_alloc | apply Kd.R_drewN | apply Kd.R_drew)); exact HO_10.out⟩, ⟨by (with_reducible repeat (first | apply Kd.V_alloc | apply Kd.V_drewN | apply Kd.V_drew)); exact HO_11.out⟩, ⟨by repeat (first | (with_reducible first | exact HB.out | apply below_alloc | apply pw_below_drewN | apply below_drew1) | exact HB.out)⟩⟩
                case round =>
                  clear H'
                  try clear c1
                  try clear c2
                  try clear p2
                  try clear c3
                  try clear c4
                  try clear c4b0
                  try clear c4b1
                  try clear c6
                  try clear c6b0
                  try clear p6
                  try clear c7
                  try clear c7b0
                  try clear c8
                  try clear c9
                  try clear c9b0
                  try clear c9b1
                  try clear c10
                  try clear c11
                  try clear c16
                  try clear c17
                  try clear c20
                  try clear c20b0
                  try clear c20b1
                  try clear c21
                  try clear c22
                  try clear c26
                  try clear c34
                  try clear c34b0
                  try clear c34b1
                  try clear c40
                  try clear p2
                  try clear p6
                  obtain ⟨x13_3, rfl, HA, HK3, HO_7, HO_10, HO_11, HB⟩ := hrel
                  cases gk with
                  | zero => exact absurd HA.out (by simp [ratlinelaw10_GraphLines.l1])
                  | succ k3 =>
                    have H := HA.out
                    clear HA
                    simp only [ratlinelaw10_GraphLines.l1] at H
                    by_cases c41 : x13_3 < (wrap64 ((Int.tmod (Go.bits .and .i64 a0 65535) 60) + 1))
                    · rw [if_pos c41] at H
                      have c41b0 : decide (x13_3 < (wrap64 ((Int.tmod (Go.bits .and .i64 a0 65535) 60) + 1))) = true := decide_eq_true c41
                      clear c41
                      have HC42 := Aside0.mk H
                      clear H
                      go_upto_region 22 with (fail)
                      go_cut [84] (fun v84 wc => ∃ (kq : Nat) (x84_41 : Bool), v84 = .bool x84_41 ∧ Aside0 (ratlinelaw10_GraphLines.j3 kq (wrap64 ((Int.tmod (Go.bits .and .i64 a0 65535) 60) + 1)) (Int.tmod (Go.bits .and .i64 a1 65535) (wrap64 ((Int.tmod (Go.bits .and .i64 a0 65535) 60) + 1))) (Int.tmod (Go.bits .and .i64 a2 65535) (wrap64 ((Int.tmod (Go.bits .and .i64 a0 65535) 60) + 1))) x7_1 t677 t680 xs12 x13_3 (wrap64 (x13_3 - 1)) x84_41 = some r) ∧ Aside0 (kq ≤ k3) ∧ Aside0 (Kd.S (Kd.slice 3 (Kd.int .i64)) 25 wc w.heap.size (fun k_ => some k_ ≠ (v678 : Value).ownBlock) (.slice Ao31 x7_1.length co31) x7_1) ∧ Aside0 (Kd.R (Kd.int .i64) 3 wc w.heap.size (fun _ => True) v678 t677) ∧ Aside0 (Kd.V k37 37 wc w.heap.size (fun k_ => some k_ ≠ ((.slice Ao31 x7_1.length co31) : Value).ownBlock ∧ some k_ ≠ (v678 : Value).ownBlock) v681 t680) ∧ Aside0 (Below w.heap.size w wc))
                      case first =>
                        have H := HC42.out
                        clear HC42
                        by_cases c43 : xs12 = true
                        · rw [if_pos c43] at H
                          have c43b0 : xs12 = true := c43
                          clear c43
                          subst c43b0
                          have H' := Aside0.mk H
                          clear H
                          go_wp2
                          go_meet
                          case rel => exact ⟨_, ((x13_3 == (Int.tmod (Go.bits .and .i64 a2 65535) (wrap64 ((Int.tmod (Go.bits .and .i64 a0 65535) 60) + 1))))), (by first | rfl | (simp; done) | (simp [*]; done)), H', ⟨by have := HK1.out; have := HJ29.out; have := HK3.out; first | omega | exact Nat.le_refl _⟩, ⟨by (with_reducible repeat (first | apply Kd.S_alloc | apply Kd.S_drewN | apply Kd.S_drew)); exact HO_7.out⟩, ⟨by (with_reducible repeat (first | apply Kd.R_alloc | apply Kd.R_drewN | apply Kd.R_drew)); exact HO_10.out⟩, ⟨by (with_reducible repeat (first | apply Kd.V_alloc | apply Kd.V_drewN | apply Kd.V_drew)); exact HO_11.out⟩, ⟨by repeat (first | (with_reducible first | exact HB.out | apply below_alloc | apply pw_below_drewN | apply below_drew1) | exact HB.out)⟩⟩
                        · rw [if_neg c43] at H
                          have c43b0 : xs12 = false := by simpa using c43
                          clear c43
                          subst c43b0
                          have H' := Aside0.mk H
                          clear H
                          go_wp2
                          go_meet
                          case rel => exact ⟨_, (false), (by first | rfl | (simp; done) | (simp [*]; done)), H', ⟨by have := HK1.out; have := HJ29.out; have := HK3.out; first | omega | exact Nat.le_refl _⟩, ⟨by (with_reducible repeat (first | apply Kd.S_alloc | apply Kd.S_drewN | apply Kd.S_drew)); exact HO_7.out⟩, ⟨by (with_reducible repeat (first | apply Kd.R_alloc | apply Kd.R_drewN | apply Kd.R_drew)); exact HO_10.out⟩, ⟨by (with_reducible repeat (first | apply Kd.V_alloc | apply Kd.V_drewN | apply Kd.V_drew)); exact HO_11.out⟩, ⟨by repeat (first | (with_reducible first | exact HB.out | apply below_alloc | apply pw_below_drewN | apply below_drew1) | exact HB.out)⟩⟩
                      case rest =>
                        clear HC42
                        try clear c1
                        try clear c2
                        try clear p2
                        try clear c3
                        try clear c4
                        try clear c4b0
                        try clear c4b1
                        try clear c6
                        try clear c6b0
                        try clear p6
                        try clear c7
                        try clear c7b0
                        try clear c8
                        try clear c9
                        try clear c9b0
                        try clear c9b1
                        try clear c10
                        try clear c11
                        try clear c16
                        try clear c17
                        try clear c20
                        try clear c20b0
                        try clear c20b1
                        try clear c21
                        try clear c22
                        try clear c26
                        try clear c34
                        try clear c34b0
                        try clear c34b1
                        try clear c40
                        try clear c41
                        try clear c41b0
                        try clear c43
                        try clear c43b0
                        try clear p2
                        try clear p6
                        obtain ⟨kq, x84_41, rfl, HA, HJ41, HO_7, HO_10, HO_11, HB⟩ := hcut
                        cases kq with
                        | zero => exact absurd HA.out (by simp [ratlinelaw10_GraphLines.j3])
                        | succ kj41 =>
                          have H := HA.out
                          clear HA
                          simp only [ratlinelaw10_GraphLines.j3] at H
                          by_cases c44 : x84_41 = true
                          · subst c44
                            have H1 : (if 0 ≤ x13_3 then (if x13_3 < (t677.length : Int) then (if (rd t677 x13_3) = (Int.tmod (Go.bits .and .i64 a1 65535) (wrap64 ((Int.tmod (Go.bits .and .i64 a0 65535) 60) + 1))) then (ratlinelaw10_GraphLines.l1 kj41 (wrap64 ((Int.tmod (Go.bits .and .i64 a0 65535) 60) + 1)) (Int.tmod (Go.bits .and .i64 a1 65535) (wrap64 ((Int.tmod (Go.bits .and .i64 a0 65535) 60) + 1))) (Int.tmod (Go.bits .and .i64 a2 65535) (wrap64 ((Int.tmod (Go.bits .and .i64 a0 65535) 60) + 1))) x7_1 t677 t680 xs12 (wrap64 (x13_3 + 1))) else (some false)) else (none)) else (none)) = some r := by rw [if_pos rfl] at H; exact H
                            clear H
                            have H := H1
                            clear H1
                            by_cases c45 : 0 ≤ x13_3
                            · rw [if_pos c45] at H
                              have c45b0 : decide (0 ≤ x13_3) = true := decide_eq_true c45
                              clear c45
                              by_cases c46 : x13_3 < (t677.length : Int)
                              · rw [if_pos c46] at H
                                have c46b0 : decide (x13_3 < (t677.length : Int)) = true := decide_eq_true c46
                                clear c46
                                by_cases c47 : (rd t677 x13_3) = (Int.tmod (Go.bits .and .i64 a1 65535) (wrap64 ((Int.tmod (Go.bits .and .i64 a0 65535) 60) + 1)))
                                · rw [if_pos c47] at H
                                  have c47b0 : ((rd t677 x13_3) == (Int.tmod (Go.bits .and .i64 a1 65535) (wrap64 ((Int.tmod (Go.bits .and .i64 a0 65535) 60) + 1)))) = true := beq_iff_eq.mpr c47
                                  have c47b1 : ((rd t677 x13_3) != (Int.tmod (Go.bits .and .i64 a1 65535) (wrap64 ((Int.tmod (Go.bits .and .i64 a0 65535) 60) + 1)))) = false := bne_eq_false_iff_eq.mpr c47
                                  clear c47
                                  have H' := Aside0.mk H
                                  clear H
                                  obtain ⟨Ao48, co48, eo48⟩ := Kd.R_slice HO_10.out
                                  subst eo48
                                  have p686 : 0 ≤ (x13_3 : Int) := of_decide_eq_true (by first | (with_reducible assumption) | assumption)
                                  have q686 : x13_3 < (t677.length : Int) := of_decide_eq_true (by first | (with_reducible assumption) | assumption)
                                  obtain ⟨ad686, e686, hx686_0⟩ := Kd.at_int (Kd.R_reads' HO_10.out).2.2 x13_3 p686 q686
                                  cases e686
                                  replace p686 := eq_true p686
                                  replace q686 := eq_true q686
                                  go_wp2
                                  go_roundg kj41
                                  case measure => have := HK1.out; have := HJ29.out; have := HK3.out; have := HJ41.out; omega
                                  case rel => exact ⟨(wrap64 (x13_3 + 1)), (by first | rfl | (simp; done) | (simp [*]; done)), H', ⟨by have := HK1.out; have := HJ29.out; have := HK3.out; have := HJ41.out; omega⟩, ⟨by (with_reducible repeat (first | apply Kd.S_alloc | apply Kd.S_drewN | apply Kd.S_drew)); exact HO_7.out⟩, ⟨by (with_reducible repeat (first | apply Kd.R_alloc | apply Kd.R_drewN | apply Kd.R_drew)); exact HO_10.out⟩, ⟨by (with_reducible repeat (first | apply Kd.V_alloc | apply Kd.V_drewN | apply Kd.V_drew)); exact HO_11.out⟩, ⟨by repeat (first | (with_reducible first | exact HB.out | apply below_alloc | apply pw_below_drewN | apply below_drew1) | exact HB.out)⟩⟩
                                · rw [if_neg c47] at H
                                  exact absurd (Option.some.inj H) (by rw [hr.out]; decide)
                              · rw [if_neg c46] at H
                                exact absurd H (by simp)
                            · rw [if_neg c45] at H
                              exact absurd H (by simp)
                          · replace c44 := Bool.eq_false_iff.mpr c44
                            subst c44
                            have H1 : (if 0 ≤ x13_3 then (if x13_3 < (t677.length : Int) then (if (rd t677 x13_3) = (wrap64 (x13_3 - 1)) then (ratlinelaw10_GraphLines.l1 kj41 (wrap64 ((Int.tmod (Go.bits .and .i64 a0 65535) 60) + 1)) (Int.tmod (Go.bits .and .i64 a1 65535) (wrap64 ((Int.tmod (Go.bits .and .i64 a0 65535) 60) + 1))) (Int.tmod (Go.bits .and .i64 a2 65535) (wrap64 ((Int.tmod (Go.bits .and .i64 a0 65535) 60) + 1))) x7_1 t677 t680 xs12 (wrap64 (x13_3 + 1))) else (some false)) else (none)) else (none)) = some r := by rw [if_neg (show ¬ (false = true) by decide)] at H; exact H
                            clear H
                            have H := H1
                            clear H1
                            by_cases c50 : 0 ≤ x13_3
                            · rw [if_pos c50] at H
                              have c50b0 : decide (0 ≤ x13_3) = true := decide_eq_true c50
                              clear c50
                              by_cases c51 : x13_3 < (t677.length : Int)
                              · rw [if_pos c51] at H
                                have c51b0 : decide (x13_3 < (t677.length : Int)) = true := decide_eq_true c51
                                clear c51
                                by_cases c52 : (rd t677 x13_3) = (wrap64 (x13_3 - 1))
                                · rw [if_pos c52] at H
                                  have c52b0 : ((rd t677 x13_3) == (wrap64 (x13_3 - 1))) = true := beq_iff_eq.mpr c52
                                  have c52b1 : ((rd t677 x13_3) != (wrap64 (x13_3 - 1))) = false := bne_eq_false_iff_eq.mpr c52
                                  clear c52
                                  have H' := Aside0.mk H
                                  clear H
                                  obtain ⟨Ao53, co53, eo53⟩ := Kd.R_slice HO_10.out
                                  subst eo53
                                  have p687 : 0 ≤ (x13_3 : Int) := of_decide_eq_true (by first | (with_reducible assumption) | assumption)
                                  have q687 : x13_3 < (t677.length : Int) := of_decide_eq_true (by first | (with_reducible assumption) | assumption)
                                  obtain ⟨ad687, e687, hx687_0⟩ := Kd.at_int (Kd.R_reads' HO_10.out).2.2 x13_3 p687 q687
                                  cases e687
                                  replace p687 := eq_true p687
                                  replace q687 := eq_true q687
                                  go_wp2
                                  go_roundg kj41
                                  case measure => have := HK1.out; have := HJ29.out; have := HK3.out; have := HJ41.out; omega
                                  case rel => exact ⟨(wrap64 (x13_3 + 1)), (by first | rfl | (simp; done) | (simp [*]; done)), H', ⟨by have := HK1.out; have := HJ29.out; have := HK3.out; have := HJ41.out; omega⟩, ⟨by (with_reducible repeat (first | apply Kd.S_alloc | apply Kd.S_drewN | apply Kd.S_drew)); exact HO_7.out⟩, ⟨by (with_reducible repeat (first | apply Kd.R_alloc | apply Kd.R_drewN | apply Kd.R_drew)); exact HO_10.out⟩, ⟨by (with_reducible repeat (first | apply Kd.V_alloc | apply Kd.V_drewN | apply Kd.V_drew)); exact HO_11.out⟩, ⟨by repeat (first | (with_reducible first | exact HB.out | apply below_alloc | apply pw_below_drewN | apply below_drew1) | exact HB.out)⟩⟩
                                · rw [if_neg c52] at H
                                  exact absurd (Option.some.inj H) (by rw [hr.out]; decide)
                              · rw [if_neg c51] at H
                                exact absurd H (by simp)
                            · rw [if_neg c50] at H
                              exact absurd H (by simp)
                    · rw [if_neg c41] at H
                      have c41b0 : decide (x13_3 < (wrap64 ((Int.tmod (Go.bits .and .i64 a0 65535) 60) + 1))) = false := decide_eq_false c41
                      clear c41
                      by_cases c55 : (Int.tmod (Go.bits .and .i64 a2 65535) (wrap64 ((Int.tmod (Go.bits .and .i64 a0 65535) 60) + 1))) > (Int.tmod (Go.bits .and .i64 a1 65535) (wrap64 ((Int.tmod (Go.bits .and .i64 a0 65535) 60) + 1)))
                      · rw [if_pos c55] at H
                        have c55b0 : decide ((Int.tmod (Go.bits .and .i64 a1 65535) (wrap64 ((Int.tmod (Go.bits .and .i64 a0 65535) 60) + 1))) < (Int.tmod (Go.bits .and .i64 a2 65535) (wrap64 ((Int.tmod (Go.bits .and .i64 a0 65535) 60) + 1)))) = true := decide_eq_true c55
                        clear c55
                        by_cases c56 : (t680.length : Int) = 0
                        · rw [if_pos c56] at H
                          have c56b0 : ((t680.length : Int) == 0) = true := beq_iff_eq.mpr c56
                          have c56b1 : ((t680.length : Int) != 0) = false := bne_eq_false_iff_eq.mpr c56
                          clear c56
                          replace H := Option.bind_eq_some_iff.mp H
                          obtain ⟨t688, A570, H⟩ := H
                          replace H : (if t688 = true then (some false) else ((ratlinelaw10_awake.f k3).bind fun t689 => (some t689))) = some r := H
                          have A57 := Aside0.mk A570
                          clear A570
                          by_cases c58 : t688 = true
                          · subst c58
                            have H1 : (some false) = some r := by rw [if_pos rfl] at H; exact H
                            clear H
                            have H := H1
                            clear H1
                            exact absurd (Option.some.inj H) (by rw [hr.out]; decide)
                          · replace c58 := Bool.eq_false_iff.mpr c58
                            subst c58
                            have H1 : ((ratlinelaw10_awake.f k3).bind fun t689 => (some t689)) = some r := by rw [if_neg (show ¬ (false = true) by decide)] at H; exact H
                            clear H
                            have H := H1
                            clear H1
                            replace H := Option.bind_eq_some_iff.mp H
                            obtain ⟨t689, A610, H⟩ := H
                            replace H : (some t689) = some r := H
                            have A61 := Aside0.mk A610
                            clear A610
                            obtain rfl := Option.some.inj H
                            obtain ⟨Ao62, co62, eo62⟩ := Kd.V_slice HO_11.out
                            subst eo62
                            go_wp2_with (first | (go_at_call 24; (refine (graph_Cyclic.calls k3 _ _ x7_1 _ _ ([] : List Bool) false _ ?side1 ?side2 ?side3 ?side4 A57.out).mono ?_); (case side1 => repeat (first | exact (Kd.S_reads' HO_7.out).2.2 | (with_reducible refine Kd.C_alloc ?_ _) | (with_reducible refine Kd.C_drewN ?_ _) | (with_reducible refine Kd.C_drew ?_))); (case side2 => exact (Kd.S_reads' HO_7.out).2.1); (case side3 => exact Kd.C_nil _ _); (case side4 => exact Nat.le_refl _); rintro e w63 ⟨rfl, hb⟩; have n0_ := Aside0.mk (Kd.S_below (by (with_reducible repeat (first | apply Kd.S_alloc | apply Kd.S_drewN | apply Kd.S_drew)); exact HO_7.out) hb); have n1_ := Aside0.mk (Kd.R_below (by (with_reducible repeat (first | apply Kd.R_alloc | apply Kd.R_drewN | apply Kd.R_drew)); exact HO_10.out) hb); have n2_ := Aside0.mk (Kd.V_below (by (with_reducible repeat (first | apply Kd.V_alloc | apply Kd.V_drewN | apply Kd.V_drew)); exact HO_11.out) hb); have n3_ := Aside0.mk (below_step (by repeat (first | (with_reducible first | exact HB.out | apply below_alloc | apply pw_below_drewN | apply below_drew1) | exact HB.out)) hb); clear HO_7; clear HO_10; clear HO_11; clear HB; have HO_7 := n0_; have HO_10 := n1_; have HO_11 := n2_; have HB := n3_; clear n0_ n1_ n2_ n3_; (try clear hb); (try clear hb2); (try clear hk); (try clear hi)) | (go_at_call 10; (with_reducible refine (ratlinelaw10_awake.calls k3  t689 _ A61.out).mono ?_); rintro e w64 ⟨rfl, hb⟩; have n0_ := Aside0.mk (Kd.S_below (by (with_reducible repeat (first | apply Kd.S_alloc | apply Kd.S_drewN | apply Kd.S_drew)); exact HO_7.out) hb); have n1_ := Aside0.mk (Kd.R_below (by (with_reducible repeat (first | apply Kd.R_alloc | apply Kd.R_drewN | apply Kd.R_drew)); exact HO_10.out) hb); have n2_ := Aside0.mk (Kd.V_below (by (with_reducible repeat (first | apply Kd.V_alloc | apply Kd.V_drewN | apply Kd.V_drew)); exact HO_11.out) hb); have n3_ := Aside0.mk (below_step (by repeat (first | (with_reducible first | exact HB.out | apply below_alloc | apply pw_below_drewN | apply below_drew1) | exact HB.out)) hb); clear HO_7; clear HO_10; clear HO_11; clear HB; have HO_7 := n0_; have HO_10 := n1_; have HO_11 := n2_; have HB := n3_; clear n0_ n1_ n2_ n3_; (try clear hb); (try clear hb2); (try clear hk); (try clear hi)))
                            go_ret
                            exact ⟨by first | rfl | (simp [errW_none, errW_some] <;> rfl) | (simp [*, errW_none, errW_some] <;> rfl), by repeat (first | (with_reducible first | exact HB.out | apply below_alloc | apply pw_below_drewN | apply below_drew1) | exact HB.out)⟩
                        · rw [if_neg c56] at H
                          exact absurd (Option.some.inj H) (by rw [hr.out]; decide)
                      · rw [if_neg c55] at H
                        have c55b0 : decide ((Int.tmod (Go.bits .and .i64 a1 65535) (wrap64 ((Int.tmod (Go.bits .and .i64 a0 65535) 60) + 1))) < (Int.tmod (Go.bits .and .i64 a2 65535) (wrap64 ((Int.tmod (Go.bits .and .i64 a0 65535) 60) + 1)))) = false := decide_eq_false c55
                        clear c55
                        have HC66 := Aside0.mk H
                        clear H
                        go_upto_region 28 with (fail)
                        go_cut [140] (fun v140 wc => ∃ (kq : Nat) (x140_65 : Bool), v140 = .bool x140_65 ∧ Aside0 (ratlinelaw10_GraphLines.j4 kq (wrap64 ((Int.tmod (Go.bits .and .i64 a0 65535) 60) + 1)) (Int.tmod (Go.bits .and .i64 a1 65535) (wrap64 ((Int.tmod (Go.bits .and .i64 a0 65535) 60) + 1))) (Int.tmod (Go.bits .and .i64 a2 65535) (wrap64 ((Int.tmod (Go.bits .and .i64 a0 65535) 60) + 1))) x7_1 t680 x140_65 = some r) ∧ Aside0 (kq ≤ k3) ∧ Aside0 (Kd.S (Kd.slice 3 (Kd.int .i64)) 25 wc w.heap.size (fun _ => True) (.slice Ao31 x7_1.length co31) x7_1) ∧ Aside0 (Kd.V k37 37 wc w.heap.size (fun k_ => some k_ ≠ ((.slice Ao31 x7_1.length co31) : Value).ownBlock) v681 t680) ∧ Aside0 (Below w.heap.size w wc))
                        case first =>
                          have H := HC66.out
                          clear HC66
                          by_cases c67 : (t680.length : Int) = 1
                          · rw [if_pos c67] at H
                            have c67b0 : ((t680.length : Int) == 1) = true := beq_iff_eq.mpr c67
                            have c67b1 : ((t680.length : Int) != 1) = false := bne_eq_false_iff_eq.mpr c67
                            clear c67
                            (first | rw [c67b0] | (simp only [i64_w, i32_w]; rw [c67b0]) | skip)
                            by_cases c68 : 0 < (t680.length : Int)
                            · rw [if_pos c68] at H
                              have c68b0 : decide (0 < (t680.length : Int)) = true := decide_eq_true c68
                              have c68b1 : decide (0 < t680.length) = true := decide_eq_true (by omega)
                              clear c68
                              by_cases c69 : ((rd_T37 t680 0).f0) = (Int.tmod (Go.bits .and .i64 a2 65535) (wrap64 ((Int.tmod (Go.bits .and .i64 a0 65535) 60) + 1)))
                              · rw [if_pos c69] at H
                                have c69b0 : (((rd_T37 t680 0).f0) == (Int.tmod (Go.bits .and .i64 a2 65535) (wrap64 ((Int.tmod (Go.bits .and .i64 a0 65535) 60) + 1)))) = true := beq_iff_eq.mpr c69
                                have c69b1 : (((rd_T37 t680 0).f0) != (Int.tmod (Go.bits .and .i64 a2 65535) (wrap64 ((Int.tmod (Go.bits .and .i64 a0 65535) 60) + 1)))) = false := bne_eq_false_iff_eq.mpr c69
                                clear c69
                                by_cases c70 : (((rd_T37 t680 0).f1).length : Int) = (wrap64 ((wrap64 ((Int.tmod (Go.bits .and .i64 a1 65535) (wrap64 ((Int.tmod (Go.bits .and .i64 a0 65535) 60) + 1))) - (Int.tmod (Go.bits .and .i64 a2 65535) (wrap64 ((Int.tmod (Go.bits .and .i64 a0 65535) 60) + 1))))) + 1))
                                · rw [if_pos c70] at H
                                  have c70b0 : ((((rd_T37 t680 0).f1).length : Int) == (wrap64 ((wrap64 ((Int.tmod (Go.bits .and .i64 a1 65535) (wrap64 ((Int.tmod (Go.bits .and .i64 a0 65535) 60) + 1))) - (Int.tmod (Go.bits .and .i64 a2 65535) (wrap64 ((Int.tmod (Go.bits .and .i64 a0 65535) 60) + 1))))) + 1))) = true := beq_iff_eq.mpr c70
                                  have c70b1 : ((((rd_T37 t680 0).f1).length : Int) != (wrap64 ((wrap64 ((Int.tmod (Go.bits .and .i64 a1 65535) (wrap64 ((Int.tmod (Go.bits .and .i64 a0 65535) 60) + 1))) - (Int.tmod (Go.bits .and .i64 a2 65535) (wrap64 ((Int.tmod (Go.bits .and .i64 a0 65535) 60) + 1))))) + 1))) = false := bne_eq_false_iff_eq.mpr c70
                                  clear c70
                                  by_cases c71 : ((rd_T37 t680 0).f2) = (-1)
                                  · rw [if_pos c71] at H
                                    have c71b0 : (((rd_T37 t680 0).f2) == (-1)) = true := beq_iff_eq.mpr c71
                                    have c71b1 : (((rd_T37 t680 0).f2) != (-1)) = false := bne_eq_false_iff_eq.mpr c71
                                    clear c71
                                    replace H := Option.bind_eq_some_iff.mp H
                                    obtain ⟨t693, A720, H⟩ := H
                                    replace H : (ratlinelaw10_GraphLines.j4 k3 (wrap64 ((Int.tmod (Go.bits .and .i64 a0 65535) 60) + 1)) (Int.tmod (Go.bits .and .i64 a1 65535) (wrap64 ((Int.tmod (Go.bits .and .i64 a0 65535) 60) + 1))) (Int.tmod (Go.bits .and .i64 a2 65535) (wrap64 ((Int.tmod (Go.bits .and .i64 a0 65535) 60) + 1))) x7_1 t680 (!t693)) = some r := H
                                    have A72 := Aside0.mk A720
                                    clear A720
                                    have H' := Aside0.mk H
                                    clear H
                                    obtain ⟨Ao73, co73, eo73⟩ := Kd.V_slice HO_11.out
                                    subst eo73
                                    have p690 : 0 ≤ (0 : Int) := (by omega)
                                    have q690 : 0 < (t680.length : Int) := of_decide_eq_true (by first | (with_reducible assumption) | assumption)
                                    obtain ⟨ad690, A690_1, c690_1, e690, hx690_0, hx690_1, hx690_2, hl690_1, hi690_1⟩ := at_T37 (Kd.V_reads' HO_11.out).2.2 0 p690 q690
                                    cases e690
                                    obtain ⟨ce690, hce690, hMe690, hcc690⟩ := Kd.V_get HO_11.out z37 0 p690 (by first | exact q690 | exact of_decide_eq_true (by first | (with_reducible assumption) | assumption) | (have e_ := (Kd.V_reads' HO_11.out).1; omega))
                                    obtain ⟨ua690_1, uc690_1, rfl, ul690_1, ge690_1⟩ := k37_openF hMe690
                                    have hv690_1 := hcc690 1 _ rfl
                                    rw [add_field _ _ 1 (by omega)] at hv690_1
                                    replace hv690_1 := Option.some.inj (hv690_1.symm.trans hx690_1)
                                    injection hv690_1 with hva_ hvn_ hvc_
                                    rw [hva_] at ge690_1
                                    rw [hvc_] at ul690_1
                                    have HL690_1 := Aside0.mk (show Kd.V (Kd.int .i64) 3 _ w.heap.size _ _ ((rd_T37 t680 0).f1) from Kd.V_mk ul690_1 ge690_1)
                                    clear hva_ hvn_ hvc_ ge690_1 ul690_1
                                    clear hcc690 hce690
                                    have qi690 : (0 < t680.length) = True := eq_true (by omega)
                                    (try rw [show ((0 : Int)).toNat = 0 from rfl] at hx690_0)
                                    (try rw [show 0 * 3 = 0 from rfl] at hx690_0)
                                    (try rw [Addr.add_zero'] at hx690_0)
                                    (try rw [show ((0 : Int)).toNat = 0 from rfl] at hx690_1)
                                    (try rw [show 0 * 3 = 0 from rfl] at hx690_1)
                                    (try rw [Addr.add_zero'] at hx690_1)
                                    (try rw [show ((0 : Int)).toNat = 0 from rfl] at hx690_2)
                                    (try rw [show 0 * 3 = 0 from rfl] at hx690_2)
                                    (try rw [Addr.add_zero'] at hx690_2)
                                    have HR690_1 := Aside0.mk hi690_1
                                    have HC690_1 := Aside0.mk hl690_1
                                    clear hi690_1 hl690_1
                                    replace p690 := eq_true p690
                                    replace q690 := eq_true q690
                                    have p691 : 0 ≤ (0 : Int) := (by omega)
                                    have q691 : 0 < (t680.length : Int) := of_decide_eq_true (by first | (with_reducible assumption) | assumption)
                                    obtain ⟨ad691, A691_1, c691_1, e691, hx691_0, hx691_1, hx691_2, hl691_1, hi691_1⟩ := at_T37 (Kd.V_reads' HO_11.out).2.2 0 p691 q691
                                    obtain rfl : ad690 = ad691 := (by injection e691)
                                    obtain ⟨ce691, hce691, hMe691, hcc691⟩ := Kd.V_get HO_11.out z37 0 p691 (by first | exact q691 | exact of_decide_eq_true (by first | (with_reducible assumption) | assumption) | (have e_ := (Kd.V_reads' HO_11.out).1; omega))
                                    obtain ⟨ua691_1, uc691_1, rfl, ul691_1, ge691_1⟩ := k37_openF hMe691
                                    have hv691_1 := hcc691 1 _ rfl
                                    rw [add_field _ _ 1 (by omega)] at hv691_1
                                    replace hv691_1 := Option.some.inj (hv691_1.symm.trans hx691_1)
                                    injection hv691_1 with hva_ hvn_ hvc_
                                    rw [hva_] at ge691_1
                                    rw [hvc_] at ul691_1
                                    have HL691_1 := Aside0.mk (show Kd.V (Kd.int .i64) 3 _ w.heap.size _ _ ((rd_T37 t680 0).f1) from Kd.V_mk ul691_1 ge691_1)
                                    clear hva_ hvn_ hvc_ ge691_1 ul691_1
                                    clear hcc691 hce691
                                    have qi691 : (0 < t680.length) = True := eq_true (by omega)
                                    (try rw [show ((0 : Int)).toNat = 0 from rfl] at hx691_0)
                                    (try rw [show 0 * 3 = 0 from rfl] at hx691_0)
                                    (try rw [Addr.add_zero'] at hx691_0)
                                    (try rw [show ((0 : Int)).toNat = 0 from rfl] at hx691_1)
                                    (try rw [show 0 * 3 = 0 from rfl] at hx691_1)
                                    (try rw [Addr.add_zero'] at hx691_1)
                                    (try rw [show ((0 : Int)).toNat = 0 from rfl] at hx691_2)
                                    (try rw [show 0 * 3 = 0 from rfl] at hx691_2)
                                    (try rw [Addr.add_zero'] at hx691_2)
                                    have HR691_1 := Aside0.mk hi691_1
                                    have HC691_1 := Aside0.mk hl691_1
                                    clear hi691_1 hl691_1
                                    replace p691 := eq_true p691
                                    replace q691 := eq_true q691
                                    have ea_ := Option.some.inj (hx690_1.symm.trans hx691_1)
                                    injection ea_ with ea_ en_ ec_
                                    subst ea_
                                    subst ec_
                                    clear en_
                                    have p692 : 0 ≤ (0 : Int) := (by omega)
                                    have q692 : 0 < (t680.length : Int) := of_decide_eq_true (by first | (with_reducible assumption) | assumption)
                                    obtain ⟨ad692, A692_1, c692_1, e692, hx692_0, hx692_1, hx692_2, hl692_1, hi692_1⟩ := at_T37 (Kd.V_reads' HO_11.out).2.2 0 p692 q692
                                    obtain rfl : ad690 = ad692 := (by injection e692)
                                    obtain ⟨ce692, hce692, hMe692, hcc692⟩ := Kd.V_get HO_11.out z37 0 p692 (by first | exact q692 | exact of_decide_eq_true (by first | (with_reducible assumption) | assumption) | (have e_ := (Kd.V_reads' HO_11.out).1; omega))
                                    obtain ⟨ua692_1, uc692_1, rfl, ul692_1, ge692_1⟩ := k37_openF hMe692
                                    have hv692_1 := hcc692 1 _ rfl
                                    rw [add_field _ _ 1 (by omega)] at hv692_1
                                    replace hv692_1 := Option.some.inj (hv692_1.symm.trans hx692_1)
                                    injection hv692_1 with hva_ hvn_ hvc_
                                    rw [hva_] at ge692_1
                                    rw [hvc_] at ul692_1
                                    have HL692_1 := Aside0.mk (show Kd.V (Kd.int .i64) 3 _ w.heap.size _ _ ((rd_T37 t680 0).f1) from Kd.V_mk ul692_1 ge692_1)
                                    clear hva_ hvn_ hvc_ ge692_1 ul692_1
                                    clear hcc692 hce692
                                    have qi692 : (0 < t680.length) = True := eq_true (by omega)
                                    (try rw [show ((0 : Int)).toNat = 0 from rfl] at hx692_0)
                                    (try rw [show 0 * 3 = 0 from rfl] at hx692_0)
                                    (try rw [Addr.add_zero'] at hx692_0)
                                    (try rw [show ((0 : Int)).toNat = 0 from rfl] at hx692_1)
                                    (try rw [show 0 * 3 = 0 from rfl] at hx692_1)
                                    (try rw [Addr.add_zero'] at hx692_1)
                                    (try rw [show ((0 : Int)).toNat = 0 from rfl] at hx692_2)
                                    (try rw [show 0 * 3 = 0 from rfl] at hx692_2)
                                    (try rw [Addr.add_zero'] at hx692_2)
                                    have HR692_1 := Aside0.mk hi692_1
                                    have HC692_1 := Aside0.mk hl692_1
                                    clear hi692_1 hl692_1
                                    replace p692 := eq_true p692
                                    replace q692 := eq_true q692
                                    have ea_ := Option.some.inj (hx690_1.symm.trans hx692_1)
                                    injection ea_ with ea_ en_ ec_
                                    subst ea_
                                    subst ec_
                                    clear en_
                                    go_wp2_with (first | (go_at_call 24; (refine (graph_Cyclic.calls k3 _ _ x7_1 _ _ ([] : List Bool) t693 _ ?side1 ?side2 ?side3 ?side4 A72.out).mono ?_); (case side1 => repeat (first | exact (Kd.S_reads' HO_7.out).2.2 | (with_reducible refine Kd.C_alloc ?_ _) | (with_reducible refine Kd.C_drewN ?_ _) | (with_reducible refine Kd.C_drew ?_))); (case side2 => exact (Kd.S_reads' HO_7.out).2.1); (case side3 => exact Kd.C_nil _ _); (case side4 => exact Nat.le_refl _); rintro e w74 ⟨rfl, hb⟩; have n0_ := Aside0.mk (Kd.S_below (by (with_reducible repeat (first | apply Kd.S_alloc | apply Kd.S_drewN | apply Kd.S_drew)); exact HO_7.out) hb); have n1_ := Aside0.mk (Kd.R_below (by (with_reducible repeat (first | apply Kd.R_alloc | apply Kd.R_drewN | apply Kd.R_drew)); exact HO_10.out) hb); have n2_ := Aside0.mk (Kd.V_below (by (with_reducible repeat (first | apply Kd.V_alloc | apply Kd.V_drewN | apply Kd.V_drew)); exact HO_11.out) hb); have n3_ := Aside0.mk (Kd.V_below (by (with_reducible repeat (first | apply Kd.V_alloc | apply Kd.V_drewN | apply Kd.V_drew)); exact HL690_1.out) hb); have n4_ := Aside0.mk (Kd.V_below (by (with_reducible repeat (first | apply Kd.V_alloc | apply Kd.V_drewN | apply Kd.V_drew)); exact HL691_1.out) hb); have n5_ := Aside0.mk (Kd.V_below (by (with_reducible repeat (first | apply Kd.V_alloc | apply Kd.V_drewN | apply Kd.V_drew)); exact HL692_1.out) hb); have n6_ := Aside0.mk (Kd.C_below (by repeat (first | (with_reducible exact HR690_1.out) | (with_reducible refine Kd.C_alloc ?_ _) | (with_reducible refine Kd.C_drewN ?_ _) | (with_reducible refine Kd.C_drew ?_) | exact HR690_1.out)) hb); have n7_ := Aside0.mk (Kd.C_below (by repeat (first | (with_reducible exact HR691_1.out) | (with_reducible refine Kd.C_alloc ?_ _) | (with_reducible refine Kd.C_drewN ?_ _) | (with_reducible refine Kd.C_drew ?_) | exact HR691_1.out)) hb); have n8_ := Aside0.mk (Kd.C_below (by repeat (first | (with_reducible exact HR692_1.out) | (with_reducible refine Kd.C_alloc ?_ _) | (with_reducible refine Kd.C_drewN ?_ _) | (with_reducible refine Kd.C_drew ?_) | exact HR692_1.out)) hb); have n9_ := Aside0.mk (below_step (by repeat (first | (with_reducible first | exact HB.out | apply below_alloc | apply pw_below_drewN | apply below_drew1) | exact HB.out)) hb); clear HO_7; clear HO_10; clear HO_11; clear HL690_1; clear HL691_1; clear HL692_1; clear HR690_1; clear HR691_1; clear HR692_1; clear HB; have HO_7 := n0_; have HO_10 := n1_; have HO_11 := n2_; have HL690_1 := n3_; have HL691_1 := n4_; have HL692_1 := n5_; have HR690_1 := n6_; have HR691_1 := n7_; have HR692_1 := n8_; have HB := n9_; clear n0_ n1_ n2_ n3_ n4_ n5_ n6_ n7_ n8_ n9_; (try clear hb); (try clear hb2); (try clear hk); (try clear hi)))
                                    go_meet
                                    case rel => exact ⟨_, (!t693), (by first | rfl | (simp; done) | (simp [*]; done)), H', ⟨by have := HK1.out; have := HJ29.out; have := HK3.out; first | omega | exact Nat.le_refl _⟩, ⟨by (with_reducible repeat (first | apply Kd.S_alloc | apply Kd.S_drewN | apply Kd.S_drew)); exact Kd.S_mono HO_7.out (fun _ hk => trivial)⟩, ⟨by (with_reducible repeat (first | apply Kd.V_alloc | apply Kd.V_drewN | apply Kd.V_drew)); exact Kd.V_mono HO_11.out (fun _ hk => hk.1)⟩, ⟨by repeat (first | (with_reducible first | exact HB.out | apply below_alloc | apply pw_below_drewN | apply below_drew1) | exact HB.out)⟩⟩
                                  · rw [if_neg c71] at H
                                    have c71b0 : (((rd_T37 t680 0).f2) == (-1)) = false := beq_eq_false_iff_ne.mpr c71
                                    have c71b1 : (((rd_T37 t680 0).f2) != (-1)) = true := bne_iff_ne.mpr c71
                                    have H' := Aside0.mk H
                                    clear H
                                    obtain ⟨Ao75, co75, eo75⟩ := Kd.V_slice HO_11.out
                                    subst eo75
                                    have p690 : 0 ≤ (0 : Int) := (by omega)
                                    have q690 : 0 < (t680.length : Int) := of_decide_eq_true (by first | (with_reducible assumption) | assumption)
                                    obtain ⟨ad690, A690_1, c690_1, e690, hx690_0, hx690_1, hx690_2, hl690_1, hi690_1⟩ := at_T37 (Kd.V_reads' HO_11.out).2.2 0 p690 q690
                                    cases e690
                                    obtain ⟨ce690, hce690, hMe690, hcc690⟩ := Kd.V_get HO_11.out z37 0 p690 (by first | exact q690 | exact of_decide_eq_true (by first | (with_reducible assumption) | assumption) | (have e_ := (Kd.V_reads' HO_11.out).1; omega))
                                    obtain ⟨ua690_1, uc690_1, rfl, ul690_1, ge690_1⟩ := k37_openF hMe690
                                    have hv690_1 := hcc690 1 _ rfl
                                    rw [add_field _ _ 1 (by omega)] at hv690_1
                                    replace hv690_1 := Option.some.inj (hv690_1.symm.trans hx690_1)
                                    injection hv690_1 with hva_ hvn_ hvc_
                                    rw [hva_] at ge690_1
                                    rw [hvc_] at ul690_1
                                    have HL690_1 := Aside0.mk (show Kd.V (Kd.int .i64) 3 _ w.heap.size _ _ ((rd_T37 t680 0).f1) from Kd.V_mk ul690_1 ge690_1)
                                    clear hva_ hvn_ hvc_ ge690_1 ul690_1
                                    clear hcc690 hce690
                                    have qi690 : (0 < t680.length) = True := eq_true (by omega)
                                    (try rw [show ((0 : Int)).toNat = 0 from rfl] at hx690_0)
                                    (try rw [show 0 * 3 = 0 from rfl] at hx690_0)
                                    (try rw [Addr.add_zero'] at hx690_0)
                                    (try rw [show ((0 : Int)).toNat = 0 from rfl] at hx690_1)
                                    (try rw [show 0 * 3 = 0 from rfl] at hx690_1)
                                    (try rw [Addr.add_zero'] at hx690_1)
                                    (try rw [show ((0 : Int)).toNat = 0 from rfl] at hx690_2)
                                    (try rw [show 0 * 3 = 0 from rfl] at hx690_2)
                                    (try rw [Addr.add_zero'] at hx690_2)
                                    have HR690_1 := Aside0.mk hi690_1
                                    have HC690_1 := Aside0.mk hl690_1
                                    clear hi690_1 hl690_1
                                    replace p690 := eq_true p690
                                    replace q690 := eq_true q690
                                    have p691 : 0 ≤ (0 : Int) := (by omega)
                                    have q691 : 0 < (t680.length : Int) := of_decide_eq_true (by first | (with_reducible assumption) | assumption)
                                    obtain ⟨ad691, A691_1, c691_1, e691, hx691_0, hx691_1, hx691_2, hl691_1, hi691_1⟩ := at_T37 (Kd.V_reads' HO_11.out).2.2 0 p691 q691
                                    obtain rfl : ad690 = ad691 := (by injection e691)
                                    obtain ⟨ce691, hce691, hMe691, hcc691⟩ := Kd.V_get HO_11.out z37 0 p691 (by first | exact q691 | exact of_decide_eq_true (by first | (with_reducible assumption) | assumption) | (have e_ := (Kd.V_reads' HO_11.out).1; omega))
                                    obtain ⟨ua691_1, uc691_1, rfl, ul691_1, ge691_1⟩ := k37_openF hMe691
                                    have hv691_1 := hcc691 1 _ rfl
                                    rw [add_field _ _ 1 (by omega)] at hv691_1
                                    replace hv691_1 := Option.some.inj (hv691_1.symm.trans hx691_1)
                                    injection hv691_1 with hva_ hvn_ hvc_
                                    rw [hva_] at ge691_1
                                    rw [hvc_] at ul691_1
                                    have HL691_1 := Aside0.mk (show Kd.V (Kd.int .i64) 3 _ w.heap.size _ _ ((rd_T37 t680 0).f1) from Kd.V_mk ul691_1 ge691_1)
                                    clear hva_ hvn_ hvc_ ge691_1 ul691_1
                                    clear hcc691 hce691
                                    have qi691 : (0 < t680.length) = True := eq_true (by omega)
                                    (try rw [show ((0 : Int)).toNat = 0 from rfl] at hx691_0)
                                    (try rw [show 0 * 3 = 0 from rfl] at hx691_0)
                                    (try rw [Addr.add_zero'] at hx691_0)
                                    (try rw [show ((0 : Int)).toNat = 0 from rfl] at hx691_1)
                                    (try rw [show 0 * 3 = 0 from rfl] at hx691_1)
                                    (try rw [Addr.add_zero'] at hx691_1)
                                    (try rw [show ((0 : Int)).toNat = 0 from rfl] at hx691_2)
                                    (try rw [show 0 * 3 = 0 from rfl] at hx691_2)
                                    (try rw [Addr.add_zero'] at hx691_2)
                                    have HR691_1 := Aside0.mk hi691_1
                                    have HC691_1 := Aside0.mk hl691_1
                                    clear hi691_1 hl691_1
                                    replace p691 := eq_true p691
                                    replace q691 := eq_true q691
                                    have ea_ := Option.some.inj (hx690_1.symm.trans hx691_1)
                                    injection ea_ with ea_ en_ ec_
                                    subst ea_
                                    subst ec_
                                    clear en_
                                    have p692 : 0 ≤ (0 : Int) := (by omega)
                                    have q692 : 0 < (t680.length : Int) := of_decide_eq_true (by first | (with_reducible assumption) | assumption)
                                    obtain ⟨ad692, A692_1, c692_1, e692, hx692_0, hx692_1, hx692_2, hl692_1, hi692_1⟩ := at_T37 (Kd.V_reads' HO_11.out).2.2 0 p692 q692
                                    obtain rfl : ad690 = ad692 := (by injection e692)
                                    obtain ⟨ce692, hce692, hMe692, hcc692⟩ := Kd.V_get HO_11.out z37 0 p692 (by first | exact q692 | exact of_decide_eq_true (by first | (with_reducible assumption) | assumption) | (have e_ := (Kd.V_reads' HO_11.out).1; omega))
                                    obtain ⟨ua692_1, uc692_1, rfl, ul692_1, ge692_1⟩ := k37_openF hMe692
                                    have hv692_1 := hcc692 1 _ rfl
                                    rw [add_field _ _ 1 (by omega)] at hv692_1
                                    replace hv692_1 := Option.some.inj (hv692_1.symm.trans hx692_1)
                                    injection hv692_1 with hva_ hvn_ hvc_
                                    rw [hva_] at ge692_1
                                    rw [hvc_] at ul692_1
                                    have HL692_1 := Aside0.mk (show Kd.V (Kd.int .i64) 3 _ w.heap.size _ _ ((rd_T37 t680 0).f1) from Kd.V_mk ul692_1 ge692_1)
                                    clear hva_ hvn_ hvc_ ge692_1 ul692_1
                                    clear hcc692 hce692
                                    have qi692 : (0 < t680.length) = True := eq_true (by omega)
                                    (try rw [show ((0 : Int)).toNat = 0 from rfl] at hx692_0)
                                    (try rw [show 0 * 3 = 0 from rfl] at hx692_0)
                                    (try rw [Addr.add_zero'] at hx692_0)
                                    (try rw [show ((0 : Int)).toNat = 0 from rfl] at hx692_1)
                                    (try rw [show 0 * 3 = 0 from rfl] at hx692_1)
                                    (try rw [Addr.add_zero'] at hx692_1)
                                    (try rw [show ((0 : Int)).toNat = 0 from rfl] at hx692_2)
                                    (try rw [show 0 * 3 = 0 from rfl] at hx692_2)
                                    (try rw [Addr.add_zero'] at hx692_2)
                                    have HR692_1 := Aside0.mk hi692_1
                                    have HC692_1 := Aside0.mk hl692_1
                                    clear hi692_1 hl692_1
                                    replace p692 := eq_true p692
                                    replace q692 := eq_true q692
                                    have ea_ := Option.some.inj (hx690_1.symm.trans hx692_1)
                                    injection ea_ with ea_ en_ ec_
                                    subst ea_
                                    subst ec_
                                    clear en_
                                    go_wp2
                                    go_meet
                                    case rel => exact ⟨_, (true), (by first | rfl | (simp; done) | (simp [*]; done)), H', ⟨by have := HK1.out; have := HJ29.out; have := HK3.out; first | omega | exact Nat.le_refl _⟩, ⟨by (with_reducible repeat (first | apply Kd.S_alloc | apply Kd.S_drewN | apply Kd.S_drew)); exact Kd.S_mono HO_7.out (fun _ hk => trivial)⟩, ⟨by (with_reducible repeat (first | apply Kd.V_alloc | apply Kd.V_drewN | apply Kd.V_drew)); exact Kd.V_mono HO_11.out (fun _ hk => hk.1)⟩, ⟨by repeat (first | (with_reducible first | exact HB.out | apply below_alloc | apply pw_below_drewN | apply below_drew1) | exact HB.out)⟩⟩
                                · rw [if_neg c70] at H
                                  have c70b0 : ((((rd_T37 t680 0).f1).length : Int) == (wrap64 ((wrap64 ((Int.tmod (Go.bits .and .i64 a1 65535) (wrap64 ((Int.tmod (Go.bits .and .i64 a0 65535) 60) + 1))) - (Int.tmod (Go.bits .and .i64 a2 65535) (wrap64 ((Int.tmod (Go.bits .and .i64 a0 65535) 60) + 1))))) + 1))) = false := beq_eq_false_iff_ne.mpr c70
                                  have c70b1 : ((((rd_T37 t680 0).f1).length : Int) != (wrap64 ((wrap64 ((Int.tmod (Go.bits .and .i64 a1 65535) (wrap64 ((Int.tmod (Go.bits .and .i64 a0 65535) 60) + 1))) - (Int.tmod (Go.bits .and .i64 a2 65535) (wrap64 ((Int.tmod (Go.bits .and .i64 a0 65535) 60) + 1))))) + 1))) = true := bne_iff_ne.mpr c70
                                  have H' := Aside0.mk H
                                  clear H
                                  obtain ⟨Ao76, co76, eo76⟩ := Kd.V_slice HO_11.out
                                  subst eo76
                                  have p690 : 0 ≤ (0 : Int) := (by omega)
                                  have q690 : 0 < (t680.length : Int) := of_decide_eq_true (by first | (with_reducible assumption) | assumption)
                                  obtain ⟨ad690, A690_1, c690_1, e690, hx690_0, hx690_1, hx690_2, hl690_1, hi690_1⟩ := at_T37 (Kd.V_reads' HO_11.out).2.2 0 p690 q690
                                  cases e690
                                  obtain ⟨ce690, hce690, hMe690, hcc690⟩ := Kd.V_get HO_11.out z37 0 p690 (by first | exact q690 | exact of_decide_eq_true (by first | (with_reducible assumption) | assumption) | (have e_ := (Kd.V_reads' HO_11.out).1; omega))
                                  obtain ⟨ua690_1, uc690_1, rfl, ul690_1, ge690_1⟩ := k37_openF hMe690
                                  have hv690_1 := hcc690 1 _ rfl
                                  rw [add_field _ _ 1 (by omega)] at hv690_1
                                  replace hv690_1 := Option.some.inj (hv690_1.symm.trans hx690_1)
                                  injection hv690_1 with hva_ hvn_ hvc_
                                  rw [hva_] at ge690_1
                                  rw [hvc_] at ul690_1
                                  have HL690_1 := Aside0.mk (show Kd.V (Kd.int .i64) 3 _ w.heap.size _ _ ((rd_T37 t680 0).f1) from Kd.V_mk ul690_1 ge690_1)
                                  clear hva_ hvn_ hvc_ ge690_1 ul690_1
                                  clear hcc690 hce690
                                  have qi690 : (0 < t680.length) = True := eq_true (by omega)
                                  (try rw [show ((0 : Int)).toNat = 0 from rfl] at hx690_0)
                                  (try rw [show 0 * 3 = 0 from rfl] at hx690_0)
                                  (try rw [Addr.add_zero'] at hx690_0)
                                  (try rw [show ((0 : Int)).toNat = 0 from rfl] at hx690_1)
                                  (try rw [show 0 * 3 = 0 from rfl] at hx690_1)
                                  (try rw [Addr.add_zero'] at hx690_1)
                                  (try rw [show ((0 : Int)).toNat = 0 from rfl] at hx690_2)
                                  (try rw [show 0 * 3 = 0 from rfl] at hx690_2)
                                  (try rw [Addr.add_zero'] at hx690_2)
                                  have HR690_1 := Aside0.mk hi690_1
                                  have HC690_1 := Aside0.mk hl690_1
                                  clear hi690_1 hl690_1
                                  replace p690 := eq_true p690
                                  replace q690 := eq_true q690
                                  have p691 : 0 ≤ (0 : Int) := (by omega)
                                  have q691 : 0 < (t680.length : Int) := of_decide_eq_true (by first | (with_reducible assumption) | assumption)
                                  obtain ⟨ad691, A691_1, c691_1, e691, hx691_0, hx691_1, hx691_2, hl691_1, hi691_1⟩ := at_T37 (Kd.V_reads' HO_11.out).2.2 0 p691 q691
                                  obtain rfl : ad690 = ad691 := (by injection e691)
                                  obtain ⟨ce691, hce691, hMe691, hcc691⟩ := Kd.V_get HO_11.out z37 0 p691 (by first | exact q691 | exact of_decide_eq_true (by first | (with_reducible assumption) | assumption) | (have e_ := (Kd.V_reads' HO_11.out).1; omega))
                                  obtain ⟨ua691_1, uc691_1, rfl, ul691_1, ge691_1⟩ := k37_openF hMe691
                                  have hv691_1 := hcc691 1 _ rfl
                                  rw [add_field _ _ 1 (by omega)] at hv691_1
                                  replace hv691_1 := Option.some.inj (hv691_1.symm.trans hx691_1)
                                  injection hv691_1 with hva_ hvn_ hvc_
                                  rw [hva_] at ge691_1
                                  rw [hvc_] at ul691_1
                                  have HL691_1 := Aside0.mk (show Kd.V (Kd.int .i64) 3 _ w.heap.size _ _ ((rd_T37 t680 0).f1) from Kd.V_mk ul691_1 ge691_1)
                                  clear hva_ hvn_ hvc_ ge691_1 ul691_1
                                  clear hcc691 hce691
                                  have qi691 : (0 < t680.length) = True := eq_true (by omega)
                                  (try rw [show ((0 : Int)).toNat = 0 from rfl] at hx691_0)
                                  (try rw [show 0 * 3 = 0 from rfl] at hx691_0)
                                  (try rw [Addr.add_zero'] at hx691_0)
                                  (try rw [show ((0 : Int)).toNat = 0 from rfl] at hx691_1)
                                  (try rw [show 0 * 3 = 0 from rfl] at hx691_1)
                                  (try rw [Addr.add_zero'] at hx691_1)
                                  (try rw [show ((0 : Int)).toNat = 0 from rfl] at hx691_2)
                                  (try rw [show 0 * 3 = 0 from rfl] at hx691_2)
                                  (try rw [Addr.add_zero'] at hx691_2)
                                  have HR691_1 := Aside0.mk hi691_1
                                  have HC691_1 := Aside0.mk hl691_1
                                  clear hi691_1 hl691_1
                                  replace p691 := eq_true p691
                                  replace q691 := eq_true q691
                                  have ea_ := Option.some.inj (hx690_1.symm.trans hx691_1)
                                  injection ea_ with ea_ en_ ec_
                                  subst ea_
                                  subst ec_
                                  clear en_
                                  go_wp2
                                  go_meet
                                  case rel => exact ⟨_, (true), (by first | rfl | (simp; done) | (simp [*]; done)), H', ⟨by have := HK1.out; have := HJ29.out; have := HK3.out; first | omega | exact Nat.le_refl _⟩, ⟨by (with_reducible repeat (first | apply Kd.S_alloc | apply Kd.S_drewN | apply Kd.S_drew)); exact Kd.S_mono HO_7.out (fun _ hk => trivial)⟩, ⟨by (with_reducible repeat (first | apply Kd.V_alloc | apply Kd.V_drewN | apply Kd.V_drew)); exact Kd.V_mono HO_11.out (fun _ hk => hk.1)⟩, ⟨by repeat (first | (with_reducible first | exact HB.out | apply below_alloc | apply pw_below_drewN | apply below_drew1) | exact HB.out)⟩⟩
                              · rw [if_neg c69] at H
                                have c69b0 : (((rd_T37 t680 0).f0) == (Int.tmod (Go.bits .and .i64 a2 65535) (wrap64 ((Int.tmod (Go.bits .and .i64 a0 65535) 60) + 1)))) = false := beq_eq_false_iff_ne.mpr c69
                                have c69b1 : (((rd_T37 t680 0).f0) != (Int.tmod (Go.bits .and .i64 a2 65535) (wrap64 ((Int.tmod (Go.bits .and .i64 a0 65535) 60) + 1)))) = true := bne_iff_ne.mpr c69
                                have H' := Aside0.mk H
                                clear H
                                obtain ⟨Ao77, co77, eo77⟩ := Kd.V_slice HO_11.out
                                subst eo77
                                have p690 : 0 ≤ (0 : Int) := (by omega)
                                have q690 : 0 < (t680.length : Int) := of_decide_eq_true (by first | (with_reducible assumption) | assumption)
                                obtain ⟨ad690, A690_1, c690_1, e690, hx690_0, hx690_1, hx690_2, hl690_1, hi690_1⟩ := at_T37 (Kd.V_reads' HO_11.out).2.2 0 p690 q690
                                cases e690
                                obtain ⟨ce690, hce690, hMe690, hcc690⟩ := Kd.V_get HO_11.out z37 0 p690 (by first | exact q690 | exact of_decide_eq_true (by first | (with_reducible assumption) | assumption) | (have e_ := (Kd.V_reads' HO_11.out).1; omega))
                                obtain ⟨ua690_1, uc690_1, rfl, ul690_1, ge690_1⟩ := k37_openF hMe690
                                have hv690_1 := hcc690 1 _ rfl
                                rw [add_field _ _ 1 (by omega)] at hv690_1
                                replace hv690_1 := Option.some.inj (hv690_1.symm.trans hx690_1)
                                injection hv690_1 with hva_ hvn_ hvc_
                                rw [hva_] at ge690_1
                                rw [hvc_] at ul690_1
                                have HL690_1 := Aside0.mk (show Kd.V (Kd.int .i64) 3 _ w.heap.size _ _ ((rd_T37 t680 0).f1) from Kd.V_mk ul690_1 ge690_1)
                                clear hva_ hvn_ hvc_ ge690_1 ul690_1
                                clear hcc690 hce690
                                have qi690 : (0 < t680.length) = True := eq_true (by omega)
                                (try rw [show ((0 : Int)).toNat = 0 from rfl] at hx690_0)
                                (try rw [show 0 * 3 = 0 from rfl] at hx690_0)
                                (try rw [Addr.add_zero'] at hx690_0)
                                (try rw [show ((0 : Int)).toNat = 0 from rfl] at hx690_1)
                                (try rw [show 0 * 3 = 0 from rfl] at hx690_1)
                                (try rw [Addr.add_zero'] at hx690_1)
                                (try rw [show ((0 : Int)).toNat = 0 from rfl] at hx690_2)
                                (try rw [show 0 * 3 = 0 from rfl] at hx690_2)
                                (try rw [Addr.add_zero'] at hx690_2)
                                have HR690_1 := Aside0.mk hi690_1
                                have HC690_1 := Aside0.mk hl690_1
                                clear hi690_1 hl690_1
                                replace p690 := eq_true p690
                                replace q690 := eq_true q690
                                go_wp2
                                go_meet
                                case rel => exact ⟨_, (true), (by first | rfl | (simp; done) | (simp [*]; done)), H', ⟨by have := HK1.out; have := HJ29.out; have := HK3.out; first | omega | exact Nat.le_refl _⟩, ⟨by (with_reducible repeat (first | apply Kd.S_alloc | apply Kd.S_drewN | apply Kd.S_drew)); exact Kd.S_mono HO_7.out (fun _ hk => trivial)⟩, ⟨by (with_reducible repeat (first | apply Kd.V_alloc | apply Kd.V_drewN | apply Kd.V_drew)); exact Kd.V_mono HO_11.out (fun _ hk => hk.1)⟩, ⟨by repeat (first | (with_reducible first | exact HB.out | apply below_alloc | apply pw_below_drewN | apply below_drew1) | exact HB.out)⟩⟩
                            · rw [if_neg c68] at H
                              exact absurd H (by simp)
                          · rw [if_neg c67] at H
                            have c67b0 : ((t680.length : Int) == 1) = false := beq_eq_false_iff_ne.mpr c67
                            have c67b1 : ((t680.length : Int) != 1) = true := bne_iff_ne.mpr c67
                            (first | rw [c67b0] | (simp only [i64_w, i32_w]; rw [c67b0]) | skip)
                            have H' := Aside0.mk H
                            clear H
                            obtain ⟨Ao78, co78, eo78⟩ := Kd.V_slice HO_11.out
                            subst eo78
                            go_wp2
                            go_meet
                            case rel => exact ⟨_, (true), (by first | rfl | (simp; done) | (simp [*]; done)), H', ⟨by have := HK1.out; have := HJ29.out; have := HK3.out; first | omega | exact Nat.le_refl _⟩, ⟨by (with_reducible repeat (first | apply Kd.S_alloc | apply Kd.S_drewN | apply Kd.S_drew)); exact Kd.S_mono HO_7.out (fun _ hk => trivial)⟩, ⟨by (with_reducible repeat (first | apply Kd.V_alloc | apply Kd.V_drewN | apply Kd.V_drew)); exact Kd.V_mono HO_11.out (fun _ hk => hk.1)⟩, ⟨by repeat (first | (with_reducible first | exact HB.out | apply below_alloc | apply pw_below_drewN | apply below_drew1) | exact HB.out)⟩⟩
                        case rest =>
                          clear HC66
                          try clear c1
                          try clear c2
                          try clear p2
                          try clear c3
                          try clear c4
                          try clear c4b0
                          try clear c4b1
                          try clear c5
                          try clear c6
                          try clear c6b0
                          try clear p6
                          try clear q6
                          try clear hx6
                          try clear qi6
                          try clear c7
                          try clear c7b0
                          try clear c8
                          try clear c9
                          try clear c9b0
                          try clear c9b1
                          try clear c10
                          try clear c11
                          try clear c16
                          try clear c17
                          try clear c20
                          try clear c20b0
                          try clear c20b1
                          try clear c21
                          try clear c22
                          try clear c26
                          try clear c34
                          try clear c34b0
                          try clear c34b1
                          try clear c40
                          try clear c41
                          try clear c41b0
                          try clear c43
                          try clear c43b0
                          try clear c44
                          try clear c45
                          try clear c45b0
                          try clear c46
                          try clear c46b0
                          try clear c47
                          try clear c47b0
                          try clear c47b1
                          try clear c50
                          try clear c50b0
                          try clear c51
                          try clear c51b0
                          try clear c52
                          try clear c52b0
                          try clear c52b1
                          try clear c55
                          try clear c55b0
                          try clear c56
                          try clear c56b0
                          try clear c56b1
                          try clear c56b2
                          try clear c58
                          try clear p64
                          try clear c67
                          try clear c67b0
                          try clear c67b1
                          try clear c68
                          try clear c68b0
                          try clear c68b1
                          try clear p68
                          try clear q68
                          try clear hx68
                          try clear c69
                          try clear c69b0
                          try clear c69b1
                          try clear p69
                          try clear q69
                          try clear hx69
                          try clear qi69
                          try clear c70
                          try clear c70b0
                          try clear c70b1
                          try clear c71
                          try clear c71b0
                          try clear c71b1
                          try clear hx686_0
                          try clear hx687_0
                          try clear hx690_0
                          try clear hx690_1
                          try clear hx690_2
                          try clear hx691_0
                          try clear hx691_1
                          try clear hx691_2
                          try clear hx692_0
                          try clear hx692_1
                          try clear hx692_2
                          try clear p2
                          try clear p6
                          try clear p686
                          try clear p687
                          try clear p690
                          try clear p691
                          try clear p692
                          try clear q686
                          try clear q687
                          try clear q690
                          try clear q691
                          try clear q692
                          obtain ⟨kq, x140_65, rfl, HA, HJ65, HO_7, HO_11, HB⟩ := hcut
                          cases kq with
                          | zero => exact absurd HA.out (by simp [ratlinelaw10_GraphLines.j4])
                          | succ kj65 =>
                            have H := HA.out
                            clear HA
                            simp only [ratlinelaw10_GraphLines.j4] at H
                            by_cases c79 : x140_65 = true
                            · subst c79
                              have H1 : (some false) = some r := by rw [if_pos rfl] at H; exact H
                              clear H
                              have H := H1
                              clear H1
                              exact absurd (Option.some.inj H) (by rw [hr.out]; decide)
                            · replace c79 := Bool.eq_false_iff.mpr c79
                              subst c79
                              have H1 : (if 0 ≤ (wrap64 ((Int.tmod (Go.bits .and .i64 a0 65535) 60) + 1)) then (if ((wrap64 ((Int.tmod (Go.bits .and .i64 a0 65535) 60) + 1)) : Int).toNat ≤ 281474976710656 then ((some (List.replicate ((wrap64 ((Int.tmod (Go.bits .and .i64 a0 65535) 60) + 1)) : Int).toNat false : List Bool)).bind fun y694 => (if 0 ≤ (Int.tmod (Go.bits .and .i64 a1 65535) (wrap64 ((Int.tmod (Go.bits .and .i64 a0 65535) 60) + 1))) then (if (Int.tmod (Go.bits .and .i64 a1 65535) (wrap64 ((Int.tmod (Go.bits .and .i64 a0 65535) 60) + 1))) < (y694.length : Int) then (if 0 < (t680.length : Int) then (if 0 < (((rd_T37 t680 0).f1).length : Int) then (if (rd ((rd_T37 t680 0).f1) 0) = (Int.tmod (Go.bits .and .i64 a2 65535) (wrap64 ((Int.tmod (Go.bits .and .i64 a0 65535) 60) + 1))) then (if 0 ≤ (wrap64 ((((rd_T37 t680 0).f1).length : Int) - 1)) then (if (wrap64 ((((rd_T37 t680 0).f1).length : Int) - 1)) < (((rd_T37 t680 0).f1).length : Int) then (if (rd ((rd_T37 t680 0).f1) (wrap64 ((((rd_T37 t680 0).f1).length : Int) - 1))) = (Int.tmod (Go.bits .and .i64 a1 65535) (wrap64 ((Int.tmod (Go.bits .and .i64 a0 65535) 60) + 1))) then ((graph_Cyclic.f kj65 x7_1 (y694.set ((Int.tmod (Go.bits .and .i64 a1 65535) (wrap64 ((Int.tmod (Go.bits .and .i64 a0 65535) 60) + 1))) : Int).toNat true)).bind fun t703 => (if t703 = true then (some false) else ((ratlinelaw10_awake.f kj65).bind fun t704 => (some t704)))) else (some false)) else (none)) else (none)) else (some false)) else (none)) else (none)) else (none)) else (none))) else (none)) else (none)) = some r := by rw [if_neg (show ¬ (false = true) by decide)] at H; exact H
                              clear H
                              have H := H1
                              clear H1
                              obtain ⟨ji80, hji80⟩ : ∃ j_ : Int, (wrap64 ((Int.tmod (Go.bits .and .i64 a0 65535) 60) + 1)) = j_ := ⟨_, rfl⟩
                              replace H : (if 0 ≤ (ji80) then (if ((ji80) : Int).toNat ≤ 281474976710656 then ((some (List.replicate ((ji80) : Int).toNat false : List Bool)).bind fun y694 => (if 0 ≤ (Int.tmod (Go.bits .and .i64 a1 65535) (ji80)) then (if (Int.tmod (Go.bits .and .i64 a1 65535) (ji80)) < (y694.length : Int) then (if 0 < (t680.length : Int) then (if 0 < (((rd_T37 t680 0).f1).length : Int) then (if (rd ((rd_T37 t680 0).f1) 0) = (Int.tmod (Go.bits .and .i64 a2 65535) (ji80)) then (if 0 ≤ (wrap64 ((((rd_T37 t680 0).f1).length : Int) - 1)) then (if (wrap64 ((((rd_T37 t680 0).f1).length : Int) - 1)) < (((rd_T37 t680 0).f1).length : Int) then (if (rd ((rd_T37 t680 0).f1) (wrap64 ((((rd_T37 t680 0).f1).length : Int) - 1))) = (Int.tmod (Go.bits .and .i64 a1 65535) (ji80)) then ((graph_Cyclic.f kj65 x7_1 (y694.set ((Int.tmod (Go.bits .and .i64 a1 65535) (ji80)) : Int).toNat true)).bind fun t703 => (if t703 = true then (some false) else ((ratlinelaw10_awake.f kj65).bind fun t704 => (some t704)))) else (some false)) else (none)) else (none)) else (some false)) else (none)) else (none)) else (none)) else (none))) else (none)) else (none)) = some r := by first | (rw [hji80] at H; exact H) | (simp only [hji80] at H ⊢; exact H)
                              (try rw [hji80] at c4b0)
                              (try rw [hji80] at c4b1)
                              (try rw [hji80] at c6b0)
                              (try rw [hji80] at c41b0)
                              (try rw [hji80] at c55b0)
                              have hji80w : (IntKind.i64.wrap ((Int.tmod (Go.bits .and .i64 a0 65535) 60) + 1)) = ji80 := (i64_w _).trans hji80
                              by_cases c81 : 0 ≤ (ji80)
                              · rw [if_pos c81] at H
                                have c81b0 := eq_true c81
                                have c81b1 : decide (0 ≤ (ji80)) = true := decide_eq_true c81
                                clear c81
                                by_cases c82 : ((ji80) : Int).toNat ≤ 281474976710656
                                · rw [if_pos c82] at H
                                  have c82b0 := eq_true c82
                                  have c82b1 : decide (((ji80) : Int).toNat ≤ 281474976710656) = true := decide_eq_true c82
                                  clear c82
                                  obtain ⟨y694, hy694⟩ : ∃ y_ : List Bool, y_ = (List.replicate ((ji80) : Int).toNat false) := ⟨_, rfl⟩
                                  replace H : (if 0 ≤ (Int.tmod (Go.bits .and .i64 a1 65535) (ji80)) then (if (Int.tmod (Go.bits .and .i64 a1 65535) (ji80)) < (y694.length : Int) then (if 0 < (t680.length : Int) then (if 0 < (((rd_T37 t680 0).f1).length : Int) then (if (rd ((rd_T37 t680 0).f1) 0) = (Int.tmod (Go.bits .and .i64 a2 65535) (ji80)) then (if 0 ≤ (wrap64 ((((rd_T37 t680 0).f1).length : Int) - 1)) then (if (wrap64 ((((rd_T37 t680 0).f1).length : Int) - 1)) < (((rd_T37 t680 0).f1).length : Int) then (if (rd ((rd_T37 t680 0).f1) (wrap64 ((((rd_T37 t680 0).f1).length : Int) - 1))) = (Int.tmod (Go.bits .and .i64 a1 65535) (ji80)) then ((graph_Cyclic.f kj65 x7_1 (y694.set ((Int.tmod (Go.bits .and .i64 a1 65535) (ji80)) : Int).toNat true)).bind fun t703 => (if t703 = true then (some false) else ((ratlinelaw10_awake.f kj65).bind fun t704 => (some t704)))) else (some false)) else (none)) else (none)) else (some false)) else (none)) else (none)) else (none)) else (none)) = some r := by first | (rw [hy694]; with_reducible exact H) | (have H2_ := (Option.bind_some _ _).symm.trans H; rw [hy694]; with_reducible exact H2_) | (have H2_ := (Option.bind_some _ _).symm.trans H; with_reducible exact H2_) | with_reducible exact H | (rw [hy694]; exact H) | exact H
                                  have Ny694 := Aside0.mk hy694
                                  clear hy694
                                  obtain ⟨ji83, hji83⟩ : ∃ j_ : Int, (Int.tmod (Go.bits .and .i64 a1 65535) (ji80)) = j_ := ⟨_, rfl⟩
                                  replace H : (if 0 ≤ (ji83) then (if (ji83) < (y694.length : Int) then (if 0 < (t680.length : Int) then (if 0 < (((rd_T37 t680 0).f1).length : Int) then (if (rd ((rd_T37 t680 0).f1) 0) = (Int.tmod (Go.bits .and .i64 a2 65535) (ji80)) then (if 0 ≤ (wrap64 ((((rd_T37 t680 0).f1).length : Int) - 1)) then (if (wrap64 ((((rd_T37 t680 0).f1).length : Int) - 1)) < (((rd_T37 t680 0).f1).length : Int) then (if (rd ((rd_T37 t680 0).f1) (wrap64 ((((rd_T37 t680 0).f1).length : Int) - 1))) = (ji83) then ((graph_Cyclic.f kj65 x7_1 (y694.set ((ji83) : Int).toNat true)).bind fun t703 => (if t703 = true then (some false) else ((ratlinelaw10_awake.f kj65).bind fun t704 => (some t704)))) else (some false)) else (none)) else (none)) else (some false)) else (none)) else (none)) else (none)) else (none)) = some r := by first | (rw [hji83] at H; exact H) | (simp only [hji83] at H ⊢; exact H)
                                  by_cases c84 : 0 ≤ (ji83)
                                  · rw [if_pos c84] at H
                                    have c84b0 : decide (0 ≤ (ji83)) = true := decide_eq_true c84
                                    clear c84
                                    by_cases c85 : (ji83) < (y694.length : Int)
                                    · rw [if_pos c85] at H
                                      have c85b0 : decide ((ji83) < (y694.length : Int)) = true := decide_eq_true c85
                                      clear c85
                                      obtain ⟨y697, hy697⟩ : ∃ y_ : List Bool, y_ = (y694.set ((ji83) : Int).toNat true) := ⟨_, rfl⟩
                                      replace H : (if 0 < (t680.length : Int) then (if 0 < (((rd_T37 t680 0).f1).length : Int) then (if (rd ((rd_T37 t680 0).f1) 0) = (Int.tmod (Go.bits .and .i64 a2 65535) (ji80)) then (if 0 ≤ (wrap64 ((((rd_T37 t680 0).f1).length : Int) - 1)) then (if (wrap64 ((((rd_T37 t680 0).f1).length : Int) - 1)) < (((rd_T37 t680 0).f1).length : Int) then (if (rd ((rd_T37 t680 0).f1) (wrap64 ((((rd_T37 t680 0).f1).length : Int) - 1))) = (ji83) then ((graph_Cyclic.f kj65 x7_1 y697).bind fun t703 => (if t703 = true then (some false) else ((ratlinelaw10_awake.f kj65).bind fun t704 => (some t704)))) else (some false)) else (none)) else (none)) else (some false)) else (none)) else (none)) = some r := by first | (rw [hy697]; with_reducible exact H) | (have H2_ := (Option.bind_some _ _).symm.trans H; rw [hy697]; with_reducible exact H2_) | (have H2_ := (Option.bind_some _ _).symm.trans H; with_reducible exact H2_) | with_reducible exact H | (rw [hy697]; exact H) | exact H
                                      have Ny697 := Aside0.mk hy697
                                      clear hy697
                                      by_cases c87 : 0 < (t680.length : Int)
                                      · rw [if_pos c87] at H
                                        have c87b0 : decide (0 < (t680.length : Int)) = true := decide_eq_true c87
                                        have c87b1 : decide (0 < t680.length) = true := decide_eq_true (by omega)
                                        clear c87
                                        by_cases c88 : 0 < (((rd_T37 t680 0).f1).length : Int)
                                        · rw [if_pos c88] at H
                                          have c88b0 : decide (0 < (((rd_T37 t680 0).f1).length : Int)) = true := decide_eq_true c88
                                          have c88b1 : decide (0 < ((rd_T37 t680 0).f1).length) = true := decide_eq_true (by omega)
                                          clear c88
                                          by_cases c89 : (rd ((rd_T37 t680 0).f1) 0) = (Int.tmod (Go.bits .and .i64 a2 65535) (ji80))
                                          · rw [if_pos c89] at H
                                            have c89b0 : ((rd ((rd_T37 t680 0).f1) 0) == (Int.tmod (Go.bits .and .i64 a2 65535) (ji80))) = true := beq_iff_eq.mpr c89
                                            have c89b1 : ((rd ((rd_T37 t680 0).f1) 0) != (Int.tmod (Go.bits .and .i64 a2 65535) (ji80))) = false := bne_eq_false_iff_eq.mpr c89
                                            clear c89
                                            obtain ⟨ji90, hji90⟩ : ∃ j_ : Int, (wrap64 ((((rd_T37 t680 0).f1).length : Int) - 1)) = j_ := ⟨_, rfl⟩
                                            replace H : (if 0 ≤ (ji90) then (if (ji90) < (((rd_T37 t680 0).f1).length : Int) then (if (rd ((rd_T37 t680 0).f1) (ji90)) = (ji83) then ((graph_Cyclic.f kj65 x7_1 y697).bind fun t703 => (if t703 = true then (some false) else ((ratlinelaw10_awake.f kj65).bind fun t704 => (some t704)))) else (some false)) else (none)) else (none)) = some r := by first | (rw [hji90] at H; exact H) | (simp only [hji90] at H ⊢; exact H)
                                            have hji90w : (IntKind.i64.wrap ((((rd_T37 t680 0).f1).length : Int) - 1)) = ji90 := (i64_w _).trans hji90
                                            by_cases c91 : 0 ≤ (ji90)
                                            · rw [if_pos c91] at H
                                              have c91b0 : decide (0 ≤ (ji90)) = true := decide_eq_true c91
                                              clear c91
                                              by_cases c92 : (ji90) < (((rd_T37 t680 0).f1).length : Int)
                                              · rw [if_pos c92] at H
                                                have c92b0 : decide ((ji90) < (((rd_T37 t680 0).f1).length : Int)) = true := decide_eq_true c92
                                                clear c92
                                                by_cases c93 : (rd ((rd_T37 t680 0).f1) (ji90)) = (ji83)
                                                · rw [if_pos c93] at H
                                                  have c93b0 : ((rd ((rd_T37 t680 0).f1) (ji90)) == (ji83)) = true := beq_iff_eq.mpr c93
                                                  have c93b1 : ((rd ((rd_T37 t680 0).f1) (ji90)) != (ji83)) = false := bne_eq_false_iff_eq.mpr c93
                                                  clear c93
                                                  replace H := Option.bind_eq_some_iff.mp H
                                                  obtain ⟨t703, A940, H⟩ := H
                                                  replace H : (if t703 = true then (some false) else ((ratlinelaw10_awake.f kj65).bind fun t704 => (some t704))) = some r := H
                                                  have A94 := Aside0.mk A940
                                                  clear A940
                                                  by_cases c95 : t703 = true
                                                  · subst c95
                                                    have H1 : (some false) = some r := by rw [if_pos rfl] at H; exact H
                                                    clear H
                                                    have H := H1
                                                    clear H1
                                                    exact absurd (Option.some.inj H) (by rw [hr.out]; decide)
                                                  · replace c95 := Bool.eq_false_iff.mpr c95
                                                    subst c95
                                                    have H1 : ((ratlinelaw10_awake.f kj65).bind fun t704 => (some t704)) = some r := by rw [if_neg (show ¬ (false = true) by decide)] at H; exact H
                                                    clear H
                                                    have H := H1
                                                    clear H1
                                                    replace H := Option.bind_eq_some_iff.mp H
                                                    obtain ⟨t704, A1030, H⟩ := H
                                                    replace H : (some t704) = some r := H
                                                    have A103 := Aside0.mk A1030
                                                    clear A1030
                                                    obtain rfl := Option.some.inj H
                                                    subst hji90
                                                    subst hji83
                                                    subst hji80
                                                    go_wp2_with (first | ((with_reducible refine gate_dst (N := 142) rfl ?_); (try (refine gate_guard (by rfl) ?_; dsimp only)); refine Kd.R_make Kd.bool _ 4 rfl (N := 142) rfl 30 _ _ rfl (wrap64 ((Int.tmod (Go.bits .and .i64 a0 65535) 60) + 1)) rfl rfl Try.underlying30 (.bool false) 1 info4 rfl (by decide) (by omega) false (ok := fun _ => True) (okp := fun _ => True) rfl (fun _ hk => hk) trivial (of_decide_eq_true (by first | (with_reducible assumption) | assumption)) (Nat.le_trans (Nat.mul_le_mul_right _ (of_decide_eq_true (by first | (with_reducible assumption) | assumption) : (wrap64 ((Int.tmod (Go.bits .and .i64 a0 65535) 60) + 1)).toNat ≤ 281474976710656)) (by omega)) (Below.refl _ _) (Nat.le_refl _) ?_; intro v695 w104 ho105 hb hg_ hnew_; clear hg_ hnew_; (first | rw [← Ny694.out] at ho105 | (simp only [Int.reduceToNat] at ho105; rw [← Ny694.out] at ho105)); have n0_ := Aside0.mk (Kd.S_below (by (with_reducible repeat (first | apply Kd.S_alloc | apply Kd.S_drewN | apply Kd.S_drew)); exact HO_7.out) hb); have n1_ := Aside0.mk (Kd.V_elder' (by (with_reducible repeat (first | apply Kd.V_alloc | apply Kd.V_drewN | apply Kd.V_drew)); exact HO_11.out) (Kd.R_base ho105) hb); have n2_ := Aside0.mk (Kd.R_lower ho105 (below_size (by repeat (first | (with_reducible first | exact HB.out | apply below_alloc | apply pw_below_drewN | apply below_drew1) | exact HB.out)))); have n3_ := Aside0.mk (below_step (by repeat (first | (with_reducible first | exact HB.out | apply below_alloc | apply pw_below_drewN | apply below_drew1) | exact HB.out)) hb); clear HO_7; clear HO_11; clear HB; have HO_7 := n0_; have HO_11 := n1_; have HO696 := n2_; have HB := n3_; clear n0_ n1_ n2_ n3_; clear hb ho105; have p86 : 0 ≤ ((Int.tmod (Go.bits .and .i64 a1 65535) (wrap64 ((Int.tmod (Go.bits .and .i64 a0 65535) 60) + 1))) : Int) := of_decide_eq_true (by first | (with_reducible assumption) | assumption); have q86 : ((Int.tmod (Go.bits .and .i64 a1 65535) (wrap64 ((Int.tmod (Go.bits .and .i64 a0 65535) 60) + 1))) : Int) < ((y694.length : Int) : Int) := of_decide_eq_true (by first | (with_reducible assumption) | assumption); obtain ⟨go86, co86, eo86, gb86, gl86, cl86, HG86⟩ := Kd.R_form HO696.out (by omega); (first | cases eo86 | (injection eo86 with ea_ en_ ec_; (first | subst ea_ | (injection ea_ with ea_; subst ea_)); subst ec_; clear en_)); have GB86 := Aside0.mk gb86; have GG86 := Aside0.mk HG86; clear gb86 gl86 HG86; obtain ⟨hx86_0, hf86_0⟩ := Kd.R_celln false HO696.out ((Int.tmod (Go.bits .and .i64 a1 65535) (wrap64 ((Int.tmod (Go.bits .and .i64 a0 65535) 60) + 1))) : Int) p86 q86; replace p86 := eq_true p86; replace q86 := eq_true q86; obtain ⟨hy106_, hz106_⟩ := Kd.R_celln false HO696.out ((Int.tmod (Go.bits .and .i64 a1 65535) (wrap64 ((Int.tmod (Go.bits .and .i64 a0 65535) 60) + 1))) : Int) (of_decide_eq_true (by first | (with_reducible assumption) | assumption)) (of_decide_eq_true (by first | (with_reducible assumption) | assumption)); have HP106 := Kd.R_putg HO696.out ((Int.tmod (Go.bits .and .i64 a1 65535) (wrap64 ((Int.tmod (Go.bits .and .i64 a0 65535) 60) + 1))) : Int) true) | ((with_reducible refine gate_store (t := 4) (p := 145) rfl ?_); refine store_event (t := 4) (p := 145) (v := ?vo_w107) (w1 := (w104.setCell ⟨go86, ((Int.tmod (Go.bits .and .i64 a1 65535) (wrap64 ((Int.tmod (Go.bits .and .i64 a0 65535) 60) + 1))) : Int).toNat, none⟩ (.bool true))) ?hg ?ho ?hn ?hr ?_; (case ho => rfl); (case hg => rfl); (case hn => rfl); (case hr => first | (go_simp; done) | (go_simp; rfl)); intro w107 hw; have hg : w104.grownBy w107 (some go86) := (by rw [hw]; exact HP106.2); have hp_ : Kd.R Kd.bool 4 w107 w.heap.size (fun _ => True) (.slice (some ⟨go86, 0, none⟩) y694.length co86) y697 := (by rw [hw, Ny697.out]; exact HP106.1); clear HP106; have n0_ := Aside0.mk (Kd.S_over' (v := (.slice (some ⟨go86, 0, none⟩) y694.length co86)) (by (with_reducible repeat (first | apply Kd.S_alloc | apply Kd.S_drewN | apply Kd.S_drew)); exact HO_7.out) (Kd.R_typed HO696.out) (by decide) hg); have n1_ := Aside0.mk (Kd.V_afterv (v := (.slice (some ⟨go86, 0, none⟩) y694.length co86)) (v1 := (.slice (some ⟨go86, 0, none⟩) y694.length co86)) (ok := (fun k_ => some k_ ≠ (.slice Ao31 x7_1.length co31 : Value).ownBlock)) (by (with_reducible repeat (first | apply Kd.V_alloc | apply Kd.V_drewN | apply Kd.V_drew)); exact HO_11.out) hg (.inl rfl)); have n2_ := Aside0.mk (hp_); have n3_ := Aside0.mk ((by rw [hw]; exact below_set (HB.out) GB86.out : Below w.heap.size w w107)); clear HO_7; clear HO_11; clear HO696; clear HB; have HO_7 := n0_; have HO_11 := n1_; have HO696 := n2_; have HB := n3_; clear n0_ n1_ n2_ n3_; clear hg hw hp_))
                                                    have n0_ := Aside0.mk (Kd.S_drew HO_7.out)
                                                    have n1_ := Aside0.mk (Kd.V_drew HO_11.out)
                                                    have n2_ := Aside0.mk (Kd.R_drew HO696.out)
                                                    have n3_ := Aside0.mk (below_drew1 HB.out)
                                                    clear HO_7
                                                    clear HO_11
                                                    clear HO696
                                                    clear HB
                                                    have HO_7 := n0_
                                                    have HO_11 := n1_
                                                    have HO696 := n2_
                                                    have HB := n3_
                                                    clear n0_ n1_ n2_ n3_
                                                    obtain ⟨Ao109, co109, eo109⟩ := Kd.V_slice HO_11.out
                                                    (first | subst eo109 | (injection eo109 with f1_ f2_ f3_; have f4_ := f1_.symm; have f5_ := f3_.symm; clear f1_ f2_ f3_; subst f4_; subst f5_))
                                                    have p698 : 0 ≤ (0 : Int) := (by omega)
                                                    have q698 : 0 < (t680.length : Int) := of_decide_eq_true (by first | (with_reducible assumption) | assumption)
                                                    obtain ⟨ad698, A698_1, c698_1, e698, hx698_0, hx698_1, hx698_2, hl698_1, hi698_1⟩ := at_T37 (Kd.V_reads' HO_11.out).2.2 0 p698 q698
                                                    cases e698
                                                    obtain ⟨ce698, hce698, hMe698, hcc698⟩ := Kd.V_get HO_11.out z37 0 p698 (by first | exact q698 | exact of_decide_eq_true (by first | (with_reducible assumption) | assumption) | (have e_ := (Kd.V_reads' HO_11.out).1; omega))
                                                    obtain ⟨ua698_1, uc698_1, rfl, ul698_1, ge698_1⟩ := k37_openF hMe698
                                                    have hv698_1 := hcc698 1 _ rfl
                                                    rw [add_field _ _ 1 (by omega)] at hv698_1
                                                    replace hv698_1 := Option.some.inj (hv698_1.symm.trans hx698_1)
                                                    injection hv698_1 with hva_ hvn_ hvc_
                                                    rw [hva_] at ge698_1
                                                    rw [hvc_] at ul698_1
                                                    have HL698_1 := Aside0.mk (show Kd.V (Kd.int .i64) 3 _ w.heap.size _ _ ((rd_T37 t680 0).f1) from Kd.V_mk ul698_1 ge698_1)
                                                    clear hva_ hvn_ hvc_ ge698_1 ul698_1
                                                    clear hcc698 hce698
                                                    have qi698 : (0 < t680.length) = True := eq_true (by omega)
                                                    (try rw [show ((0 : Int)).toNat = 0 from rfl] at hx698_0)
                                                    (try rw [show 0 * 3 = 0 from rfl] at hx698_0)
                                                    (try rw [Addr.add_zero'] at hx698_0)
                                                    (try rw [show ((0 : Int)).toNat = 0 from rfl] at hx698_1)
                                                    (try rw [show 0 * 3 = 0 from rfl] at hx698_1)
                                                    (try rw [Addr.add_zero'] at hx698_1)
                                                    (try rw [show ((0 : Int)).toNat = 0 from rfl] at hx698_2)
                                                    (try rw [show 0 * 3 = 0 from rfl] at hx698_2)
                                                    (try rw [Addr.add_zero'] at hx698_2)
                                                    have HR698_1 := Aside0.mk hi698_1
                                                    have HC698_1 := Aside0.mk hl698_1
                                                    clear hi698_1 hl698_1
                                                    replace p698 := eq_true p698
                                                    replace q698 := eq_true q698
                                                    have p699 : 0 ≤ (0 : Int) := (by omega)
                                                    have q699 : 0 < (((rd_T37 t680 0).f1).length : Int) := of_decide_eq_true (by first | (with_reducible assumption) | assumption)
                                                    obtain ⟨ad699, e699, hx699_0⟩ := Kd.at_int (by repeat (first | (with_reducible exact HR698_1.out) | (with_reducible refine Kd.C_alloc ?_ _) | (with_reducible refine Kd.C_drewN ?_ _) | (with_reducible refine Kd.C_drew ?_) | exact HR698_1.out)) 0 p699 q699
                                                    cases e699
                                                    have qi699 : (0 < ((rd_T37 t680 0).f1).length) = True := eq_true (by omega)
                                                    (try rw [show ((0 : Int)).toNat = 0 from rfl] at hx699_0)
                                                    (try rw [Addr.add_zero'] at hx699_0)
                                                    replace p699 := eq_true p699
                                                    replace q699 := eq_true q699
                                                    have p700 : 0 ≤ (0 : Int) := (by omega)
                                                    have q700 : 0 < (t680.length : Int) := of_decide_eq_true (by first | (with_reducible assumption) | assumption)
                                                    obtain ⟨ad700, A700_1, c700_1, e700, hx700_0, hx700_1, hx700_2, hl700_1, hi700_1⟩ := at_T37 (Kd.V_reads' HO_11.out).2.2 0 p700 q700
                                                    obtain rfl : ad698 = ad700 := (by injection e700)
                                                    obtain ⟨ce700, hce700, hMe700, hcc700⟩ := Kd.V_get HO_11.out z37 0 p700 (by first | exact q700 | exact of_decide_eq_true (by first | (with_reducible assumption) | assumption) | (have e_ := (Kd.V_reads' HO_11.out).1; omega))
                                                    obtain ⟨ua700_1, uc700_1, rfl, ul700_1, ge700_1⟩ := k37_openF hMe700
                                                    have hv700_1 := hcc700 1 _ rfl
                                                    rw [add_field _ _ 1 (by omega)] at hv700_1
                                                    replace hv700_1 := Option.some.inj (hv700_1.symm.trans hx700_1)
                                                    injection hv700_1 with hva_ hvn_ hvc_
                                                    rw [hva_] at ge700_1
                                                    rw [hvc_] at ul700_1
                                                    have HL700_1 := Aside0.mk (show Kd.V (Kd.int .i64) 3 _ w.heap.size _ _ ((rd_T37 t680 0).f1) from Kd.V_mk ul700_1 ge700_1)
                                                    clear hva_ hvn_ hvc_ ge700_1 ul700_1
                                                    clear hcc700 hce700
                                                    have qi700 : (0 < t680.length) = True := eq_true (by omega)
                                                    (try rw [show ((0 : Int)).toNat = 0 from rfl] at hx700_0)
                                                    (try rw [show 0 * 3 = 0 from rfl] at hx700_0)
                                                    (try rw [Addr.add_zero'] at hx700_0)
                                                    (try rw [show ((0 : Int)).toNat = 0 from rfl] at hx700_1)
                                                    (try rw [show 0 * 3 = 0 from rfl] at hx700_1)
                                                    (try rw [Addr.add_zero'] at hx700_1)
                                                    (try rw [show ((0 : Int)).toNat = 0 from rfl] at hx700_2)
                                                    (try rw [show 0 * 3 = 0 from rfl] at hx700_2)
                                                    (try rw [Addr.add_zero'] at hx700_2)
                                                    have HR700_1 := Aside0.mk hi700_1
                                                    have HC700_1 := Aside0.mk hl700_1
                                                    clear hi700_1 hl700_1
                                                    replace p700 := eq_true p700
                                                    replace q700 := eq_true q700
                                                    have ea_ := Option.some.inj (hx698_1.symm.trans hx700_1)
                                                    injection ea_ with ea_ en_ ec_
                                                    subst ea_
                                                    subst ec_
                                                    clear en_
                                                    have p701 : 0 ≤ (0 : Int) := (by omega)
                                                    have q701 : 0 < (t680.length : Int) := of_decide_eq_true (by first | (with_reducible assumption) | assumption)
                                                    obtain ⟨ad701, A701_1, c701_1, e701, hx701_0, hx701_1, hx701_2, hl701_1, hi701_1⟩ := at_T37 (Kd.V_reads' HO_11.out).2.2 0 p701 q701
                                                    obtain rfl : ad698 = ad701 := (by injection e701)
                                                    obtain ⟨ce701, hce701, hMe701, hcc701⟩ := Kd.V_get HO_11.out z37 0 p701 (by first | exact q701 | exact of_decide_eq_true (by first | (with_reducible assumption) | assumption) | (have e_ := (Kd.V_reads' HO_11.out).1; omega))
                                                    obtain ⟨ua701_1, uc701_1, rfl, ul701_1, ge701_1⟩ := k37_openF hMe701
                                                    have hv701_1 := hcc701 1 _ rfl
                                                    rw [add_field _ _ 1 (by omega)] at hv701_1
                                                    replace hv701_1 := Option.some.inj (hv701_1.symm.trans hx701_1)
                                                    injection hv701_1 with hva_ hvn_ hvc_
                                                    rw [hva_] at ge701_1
                                                    rw [hvc_] at ul701_1
                                                    have HL701_1 := Aside0.mk (show Kd.V (Kd.int .i64) 3 _ w.heap.size _ _ ((rd_T37 t680 0).f1) from Kd.V_mk ul701_1 ge701_1)
                                                    clear hva_ hvn_ hvc_ ge701_1 ul701_1
                                                    clear hcc701 hce701
                                                    have qi701 : (0 < t680.length) = True := eq_true (by omega)
                                                    (try rw [show ((0 : Int)).toNat = 0 from rfl] at hx701_0)
                                                    (try rw [show 0 * 3 = 0 from rfl] at hx701_0)
                                                    (try rw [Addr.add_zero'] at hx701_0)
                                                    (try rw [show ((0 : Int)).toNat = 0 from rfl] at hx701_1)
                                                    (try rw [show 0 * 3 = 0 from rfl] at hx701_1)
                                                    (try rw [Addr.add_zero'] at hx701_1)
                                                    (try rw [show ((0 : Int)).toNat = 0 from rfl] at hx701_2)
                                                    (try rw [show 0 * 3 = 0 from rfl] at hx701_2)
                                                    (try rw [Addr.add_zero'] at hx701_2)
                                                    have HR701_1 := Aside0.mk hi701_1
                                                    have HC701_1 := Aside0.mk hl701_1
                                                    clear hi701_1 hl701_1
                                                    replace p701 := eq_true p701
                                                    replace q701 := eq_true q701
                                                    have ea_ := Option.some.inj (hx698_1.symm.trans hx701_1)
                                                    injection ea_ with ea_ en_ ec_
                                                    subst ea_
                                                    subst ec_
                                                    clear en_
                                                    have p702 : 0 ≤ ((wrap64 ((((rd_T37 t680 0).f1).length : Int) - 1)) : Int) := of_decide_eq_true (by first | (with_reducible assumption) | assumption)
                                                    have q702 : (wrap64 ((((rd_T37 t680 0).f1).length : Int) - 1)) < (((rd_T37 t680 0).f1).length : Int) := of_decide_eq_true (by first | (with_reducible assumption) | assumption)
                                                    obtain ⟨ad702, e702, hx702_0⟩ := Kd.at_int (by repeat (first | (with_reducible exact HR700_1.out) | (with_reducible refine Kd.C_alloc ?_ _) | (with_reducible refine Kd.C_drewN ?_ _) | (with_reducible refine Kd.C_drew ?_) | exact HR700_1.out)) (wrap64 ((((rd_T37 t680 0).f1).length : Int) - 1)) p702 q702
                                                    cases e702
                                                    replace p702 := eq_true p702
                                                    replace q702 := eq_true q702
                                                    refine start_ (n := 34) (S := fun w' => w'.cell? ad698 = some (.int .i64 ((rd_T37 t680 0).f0)) ∧ w'.cell? ⟨ad698.block, ad698.off + 1, none⟩ = some (.slice (some ad699) ((rd_T37 t680 0).f1).length c698_1) ∧ w'.cell? ⟨ad698.block, ad698.off + 2, none⟩ = some (.int .i64 ((rd_T37 t680 0).f2)) ∧ w'.cell? ad699 = some (.int .i64 (rd ((rd_T37 t680 0).f1) 0)) ∧ w'.cell? ad698 = some (.int .i64 ((rd_T37 t680 0).f0)) ∧ w'.cell? ⟨ad698.block, ad698.off + 1, none⟩ = some (.slice (some ad699) ((rd_T37 t680 0).f1).length c698_1) ∧ w'.cell? ⟨ad698.block, ad698.off + 2, none⟩ = some (.int .i64 ((rd_T37 t680 0).f2)) ∧ w'.cell? ad698 = some (.int .i64 ((rd_T37 t680 0).f0)) ∧ w'.cell? ⟨ad698.block, ad698.off + 1, none⟩ = some (.slice (some ad699) ((rd_T37 t680 0).f1).length c698_1) ∧ w'.cell? ⟨ad698.block, ad698.off + 2, none⟩ = some (.int .i64 ((rd_T37 t680 0).f2)) ∧ w'.cell? (ad699.add ((wrap64 ((((rd_T37 t680 0).f1).length : Int) - 1))).toNat) = some (.int .i64 (rd ((rd_T37 t680 0).f1) (wrap64 ((((rd_T37 t680 0).f1).length : Int) - 1))))) (ds := []) #[false, false, false, false, false, false, false, false, false, false, false, false, false, false, false, false, false, false, false, false, false, false, false, false, false, false, false, false, false, false, false, false, false, false] (by kernel_rfl) rfl rfl ⟨hx698_0, hx698_1, hx698_2, hx699_0, hx700_0, hx700_1, hx700_2, hx701_0, hx701_1, hx701_2, hx702_0⟩ (fun hHeld => ?_); refine with_tabW ratlinelaw10_GraphLines.tab32 ratlinelaw10_GraphLines.bits32 (fun HT_ HW_ => ?_)
                                                    generalize w107.drew = w108 at HO_7 HO_11 HO696 HB HL698_1 HL700_1 HL701_1 HR698_1 HR700_1 HR701_1 hx698_0 hx698_1 hx698_2 hx699_0 hx700_0 hx700_1 hx700_2 hx701_0 hx701_1 hx701_2 hx702_0 hHeld ⊢
                                                    refine pure_ (i := 0) (N := some 146) (v := ?_) (a' := ?_) #[true, false, false, false, false, false, false, false, false, false, false, false, false, false, false, false, false, false, false, false, false, false, false, false, false, false, false, false, false, false, false, false, false, false] rfl rfl (any_of HT_.out (by kernel_rfl)) (fun _ _ _ h => h) (Or.inl ⟨by rfl, ?_⟩) ?_ ?_
                                                    rotate_left
                                                    · intro w'
                                                      go_simp
                                                      with_reducible rfl
                                                    rotate_left
                                                    · simp only [Act.put, List.setIfInBounds_toArray, List.set_cons_zero, List.set_cons_succ, i64_w, i32_w]
                                                      rfl
                                                    refine pure_ (i := 1) (N := some 147) (v := ?_) (a' := ?_) #[true, true, false, false, false, false, false, false, false, false, false, false, false, false, false, false, false, false, false, false, false, false, false, false, false, false, false, false, false, false, false, false, false, false] rfl rfl (any_of HT_.out (by kernel_rfl)) (fun _ _ _ h => h) (Or.inl ⟨by rfl, ?_⟩) ?_ ?_
                                                    rotate_left
                                                    · intro w'
                                                      go_simp
                                                      with_reducible rfl
                                                    rotate_left
                                                    · simp only [Act.put, List.setIfInBounds_toArray, List.set_cons_zero, List.set_cons_succ, i64_w, i32_w]
                                                      rfl
                                                    refine pure_ (i := 2) (N := some 148) (v := ?_) (a' := ?_) #[true, true, true, false, false, false, false, false, false, false, false, false, false, false, false, false, false, false, false, false, false, false, false, false, false, false, false, false, false, false, false, false, false, false] rfl rfl (any_of HT_.out (by kernel_rfl)) (fun _ _ _ h => h) (Or.inl ⟨by rfl, ?_⟩) ?_ ?_
                                                    rotate_left
                                                    · intro w'
                                                      go_simp
                                                      with_reducible rfl
                                                    rotate_left
                                                    · simp only [Act.put, List.setIfInBounds_toArray, List.set_cons_zero, List.set_cons_succ, i64_w, i32_w]
                                                      rfl
                                                    refine pure_ (i := 6) (N := some 152) (v := ?_) (a' := ?_) #[true, true, true, false, false, false, true, false, false, false, false, false, false, false, false, false, false, false, false, false, false, false, false, false, false, false, false, false, false, false, false, false, false, false] rfl rfl (any_of HT_.out (by kernel_rfl)) (fun _ _ _ h => h) (Or.inl ⟨by rfl, ?_⟩) ?_ ?_
                                                    rotate_left
                                                    · intro w'
                                                      go_simp
                                                      with_reducible rfl
                                                    rotate_left
                                                    · simp only [Act.put, List.setIfInBounds_toArray, List.set_cons_zero, List.set_cons_succ, i64_w, i32_w]
                                                      rfl
                                                    refine take_ (i := 3) (N := some 149) (v := ?_) (a' := ?_) #[true, true, true, true, false, false, true, false, false, false, false, false, false, false, false, false, false, false, false, false, false, false, false, false, false, false, false, false, false, false, false, false, false, false] rfl rfl (take_ofW HT_.out HW_.out (by kernel_rfl)) (fun _ _ _ h => h) (Or.inl ⟨by rfl, ?_⟩) hHeld ?_ ?_
                                                    rotate_left
                                                    · rintro w' ⟨s0, s1, s2, s3, s4, s5, s6, s7, s8, s9, s10⟩
                                                      go_simp
                                                      with_reducible rfl
                                                    rotate_left
                                                    · simp only [Act.put, List.setIfInBounds_toArray, List.set_cons_zero, List.set_cons_succ, i64_w, i32_w]
                                                      rfl
                                                    refine pure_ (i := 4) (N := some 150) (v := ?_) (a' := ?_) #[true, true, true, true, true, false, true, false, false, false, false, false, false, false, false, false, false, false, false, false, false, false, false, false, false, false, false, false, false, false, false, false, false, false] rfl rfl (any_of HT_.out (by kernel_rfl)) (fun _ _ _ h => h) (Or.inl ⟨by rfl, ?_⟩) ?_ ?_
                                                    rotate_left
                                                    · intro w'
                                                      go_simp
                                                      with_reducible rfl
                                                    rotate_left
                                                    · simp only [Act.put, List.setIfInBounds_toArray, List.set_cons_zero, List.set_cons_succ, i64_w, i32_w]
                                                      rfl
                                                    refine take_ (i := 5) (N := some 151) (v := ?_) (a' := ?_) #[true, true, true, true, true, true, true, false, false, false, false, false, false, false, false, false, false, false, false, false, false, false, false, false, false, false, false, false, false, false, false, false, false, false] rfl rfl (take_ofW HT_.out HW_.out (by kernel_rfl)) (fun _ _ _ h => h) (Or.inl ⟨by rfl, ?_⟩) hHeld ?_ ?_
                                                    rotate_left
                                                    · rintro w' ⟨s0, s1, s2, s3, s4, s5, s6, s7, s8, s9, s10⟩
                                                      go_simp
                                                      with_reducible rfl
                                                    rotate_left
                                                    · simp only [Act.put, List.setIfInBounds_toArray, List.set_cons_zero, List.set_cons_succ, i64_w, i32_w]
                                                      rfl
                                                    refine pure_ (i := 7) (N := some 153) (v := ?_) (a' := ?_) #[true, true, true, true, true, true, true, true, false, false, false, false, false, false, false, false, false, false, false, false, false, false, false, false, false, false, false, false, false, false, false, false, false, false] rfl rfl (any_of HT_.out (by kernel_rfl)) (fun _ _ _ h => h) (Or.inl ⟨by rfl, ?_⟩) ?_ ?_
                                                    rotate_left
                                                    · intro w'
                                                      go_simp
                                                      with_reducible rfl
                                                    rotate_left
                                                    · simp only [Act.put, List.setIfInBounds_toArray, List.set_cons_zero, List.set_cons_succ, i64_w, i32_w]
                                                      rfl
                                                    refine pure_ (i := 8) (N := some 154) (v := ?_) (a' := ?_) #[true, true, true, true, true, true, true, true, true, false, false, false, false, false, false, false, false, false, false, false, false, false, false, false, false, false, false, false, false, false, false, false, false, false] rfl rfl (any_of HT_.out (by kernel_rfl)) (fun _ _ _ h => h) (Or.inl ⟨by rfl, ?_⟩) ?_ ?_
                                                    rotate_left
                                                    · intro w'
                                                      go_simp
                                                      with_reducible rfl
                                                    rotate_left
                                                    · simp only [Act.put, List.setIfInBounds_toArray, List.set_cons_zero, List.set_cons_succ, i64_w, i32_w]
                                                      rfl
                                                    refine pure_ (i := 9) (N := some 155) (v := ?_) (a' := ?_) #[true, true, true, true, true, true, true, true, true, true, false, false, false, false, false, false, false, false, false, false, false, false, false, false, false, false, false, false, false, false, false, false, false, false] rfl rfl (any_of HT_.out (by kernel_rfl)) (fun _ _ _ h => h) (Or.inl ⟨by rfl, ?_⟩) ?_ ?_
                                                    rotate_left
                                                    · intro w'
                                                      go_simp
                                                      with_reducible rfl
                                                    rotate_left
                                                    · simp only [Act.put, List.setIfInBounds_toArray, List.set_cons_zero, List.set_cons_succ, i64_w, i32_w]
                                                      rfl
                                                    refine pure_ (i := 10) (N := some 156) (v := ?_) (a' := ?_) #[true, true, true, true, true, true, true, true, true, true, true, false, false, false, false, false, false, false, false, false, false, false, false, false, false, false, false, false, false, false, false, false, false, false] rfl rfl (any_of HT_.out (by kernel_rfl)) (fun _ _ _ h => h) (Or.inl ⟨by rfl, ?_⟩) ?_ ?_
                                                    rotate_left
                                                    · intro w'
                                                      go_simp
                                                      with_reducible rfl
                                                    rotate_left
                                                    · simp only [Act.put, List.setIfInBounds_toArray, List.set_cons_zero, List.set_cons_succ, i64_w, i32_w]
                                                      rfl
                                                    refine pure_ (i := 11) (N := some 157) (v := ?_) (a' := ?_) #[true, true, true, true, true, true, true, true, true, true, true, true, false, false, false, false, false, false, false, false, false, false, false, false, false, false, false, false, false, false, false, false, false, false] rfl rfl (any_of HT_.out (by kernel_rfl)) (fun _ _ _ h => h) (Or.inl ⟨by rfl, ?_⟩) ?_ ?_
                                                    rotate_left
                                                    · intro w'
                                                      go_simp
                                                      with_reducible rfl
                                                    rotate_left
                                                    · simp only [Act.put, List.setIfInBounds_toArray, List.set_cons_zero, List.set_cons_succ, i64_w, i32_w]
                                                      rfl
                                                    refine pure_ (i := 13) (N := some 159) (v := ?_) (a' := ?_) #[true, true, true, true, true, true, true, true, true, true, true, true, false, true, false, false, false, false, false, false, false, false, false, false, false, false, false, false, false, false, false, false, false, false] rfl rfl (any_of HT_.out (by kernel_rfl)) (fun _ _ _ h => h) (Or.inl ⟨by rfl, ?_⟩) ?_ ?_
                                                    rotate_left
                                                    · intro w'
                                                      go_simp
                                                      with_reducible rfl
                                                    rotate_left
                                                    · simp only [Act.put, List.setIfInBounds_toArray, List.set_cons_zero, List.set_cons_succ, i64_w, i32_w]
                                                      rfl
                                                    refine pure_ (i := 14) (N := some 160) (v := ?_) (a' := ?_) #[true, true, true, true, true, true, true, true, true, true, true, true, false, true, true, false, false, false, false, false, false, false, false, false, false, false, false, false, false, false, false, false, false, false] rfl rfl (any_of HT_.out (by kernel_rfl)) (fun _ _ _ h => h) (Or.inl ⟨by rfl, ?_⟩) ?_ ?_
                                                    rotate_left
                                                    · intro w'
                                                      go_simp
                                                      with_reducible rfl
                                                    rotate_left
                                                    · simp only [Act.put, List.setIfInBounds_toArray, List.set_cons_zero, List.set_cons_succ, i64_w, i32_w]
                                                      rfl
                                                    refine pure_ (i := 15) (N := some 161) (v := ?_) (a' := ?_) #[true, true, true, true, true, true, true, true, true, true, true, true, false, true, true, true, false, false, false, false, false, false, false, false, false, false, false, false, false, false, false, false, false, false] rfl rfl (any_of HT_.out (by kernel_rfl)) (fun _ _ _ h => h) (Or.inl ⟨by rfl, ?_⟩) ?_ ?_
                                                    rotate_left
                                                    · intro w'
                                                      go_simp
                                                      with_reducible rfl
                                                    rotate_left
                                                    · simp only [Act.put, List.setIfInBounds_toArray, List.set_cons_zero, List.set_cons_succ, i64_w, i32_w]
                                                      rfl
                                                    refine pure_ (i := 21) (N := some 167) (v := ?_) (a' := ?_) #[true, true, true, true, true, true, true, true, true, true, true, true, false, true, true, true, false, false, false, false, false, true, false, false, false, false, false, false, false, false, false, false, false, false] rfl rfl (any_of HT_.out (by kernel_rfl)) (fun _ _ _ h => h) (Or.inl ⟨by rfl, ?_⟩) ?_ ?_
                                                    rotate_left
                                                    · intro w'
                                                      go_simp
                                                      with_reducible rfl
                                                    rotate_left
                                                    · simp only [Act.put, List.setIfInBounds_toArray, List.set_cons_zero, List.set_cons_succ, i64_w, i32_w]
                                                      rfl
                                                    refine take_ (i := 12) (N := some 158) (v := ?_) (a' := ?_) #[true, true, true, true, true, true, true, true, true, true, true, true, true, true, true, true, false, false, false, false, false, true, false, false, false, false, false, false, false, false, false, false, false, false] rfl rfl (take_ofW HT_.out HW_.out (by kernel_rfl)) (fun _ _ _ h => h) (Or.inl ⟨by rfl, ?_⟩) hHeld ?_ ?_
                                                    rotate_left
                                                    · rintro w' ⟨s0, s1, s2, s3, s4, s5, s6, s7, s8, s9, s10⟩
                                                      go_simp
                                                      with_reducible rfl
                                                    rotate_left
                                                    · simp only [Act.put, List.setIfInBounds_toArray, List.set_cons_zero, List.set_cons_succ, i64_w, i32_w]
                                                      rfl
                                                    refine take_ (i := 16) (N := some 162) (v := ?_) (a' := ?_) #[true, true, true, true, true, true, true, true, true, true, true, true, true, true, true, true, true, false, false, false, false, true, false, false, false, false, false, false, false, false, false, false, false, false] rfl rfl (take_ofW HT_.out HW_.out (by kernel_rfl)) (fun _ _ _ h => h) (Or.inl ⟨by rfl, ?_⟩) hHeld ?_ ?_
                                                    rotate_left
                                                    · rintro w' ⟨s0, s1, s2, s3, s4, s5, s6, s7, s8, s9, s10⟩
                                                      go_simp
                                                      with_reducible rfl
                                                    rotate_left
                                                    · simp only [Act.put, List.setIfInBounds_toArray, List.set_cons_zero, List.set_cons_succ, i64_w, i32_w]
                                                      rfl
                                                    refine pure_ (i := 17) (N := some 163) (v := ?_) (a' := ?_) #[true, true, true, true, true, true, true, true, true, true, true, true, true, true, true, true, true, true, false, false, false, true, false, false, false, false, false, false, false, false, false, false, false, false] rfl rfl (any_of HT_.out (by kernel_rfl)) (fun _ _ _ h => h) (Or.inl ⟨by rfl, ?_⟩) ?_ ?_
                                                    rotate_left
                                                    · intro w'
                                                      go_simp
                                                      with_reducible rfl
                                                    rotate_left
                                                    · simp only [Act.put, List.setIfInBounds_toArray, List.set_cons_zero, List.set_cons_succ, i64_w, i32_w]
                                                      rfl
                                                    refine pure_ (i := 18) (N := some 164) (v := ?_) (a' := ?_) #[true, true, true, true, true, true, true, true, true, true, true, true, true, true, true, true, true, true, true, false, false, true, false, false, false, false, false, false, false, false, false, false, false, false] rfl rfl (any_of HT_.out (by kernel_rfl)) (fun _ _ _ h => h) (Or.inl ⟨by rfl, ?_⟩) ?_ ?_
                                                    rotate_left
                                                    · intro w'
                                                      go_simp
                                                      with_reducible rfl
                                                    rotate_left
                                                    · simp only [Act.put, List.setIfInBounds_toArray, List.set_cons_zero, List.set_cons_succ, i64_w, i32_w]
                                                      rfl
                                                    refine pure_ (i := 19) (N := some 165) (v := ?_) (a' := ?_) #[true, true, true, true, true, true, true, true, true, true, true, true, true, true, true, true, true, true, true, true, false, true, false, false, false, false, false, false, false, false, false, false, false, false] rfl rfl (any_of HT_.out (by kernel_rfl)) (fun _ _ _ h => h) (Or.inl ⟨by rfl, ?_⟩) ?_ ?_
                                                    rotate_left
                                                    · intro w'
                                                      go_simp
                                                      with_reducible rfl
                                                    rotate_left
                                                    · simp only [Act.put, List.setIfInBounds_toArray, List.set_cons_zero, List.set_cons_succ, i64_w, i32_w]
                                                      rfl
                                                    refine take_ (i := 20) (N := some 166) (v := ?_) (a' := ?_) #[true, true, true, true, true, true, true, true, true, true, true, true, true, true, true, true, true, true, true, true, true, true, false, false, false, false, false, false, false, false, false, false, false, false] rfl rfl (take_ofW HT_.out HW_.out (by kernel_rfl)) (fun _ _ _ h => h) (Or.inl ⟨by rfl, ?_⟩) hHeld ?_ ?_
                                                    rotate_left
                                                    · rintro w' ⟨s0, s1, s2, s3, s4, s5, s6, s7, s8, s9, s10⟩
                                                      go_simp
                                                      with_reducible rfl
                                                    rotate_left
                                                    · simp only [Act.put, List.setIfInBounds_toArray, List.set_cons_zero, List.set_cons_succ, i64_w, i32_w]
                                                      rfl
                                                    refine pure_ (i := 22) (N := some 168) (v := ?_) (a' := ?_) #[true, true, true, true, true, true, true, true, true, true, true, true, true, true, true, true, true, true, true, true, true, true, true, false, false, false, false, false, false, false, false, false, false, false] rfl rfl (any_of HT_.out (by kernel_rfl)) (fun _ _ _ h => h) (Or.inl ⟨by rfl, ?_⟩) ?_ ?_
                                                    rotate_left
                                                    · intro w'
                                                      go_simp
                                                      with_reducible rfl
                                                    rotate_left
                                                    · simp only [Act.put, List.setIfInBounds_toArray, List.set_cons_zero, List.set_cons_succ, i64_w, i32_w]
                                                      rfl
                                                    refine pure_ (i := 23) (N := some 169) (v := ?_) (a' := ?_) #[true, true, true, true, true, true, true, true, true, true, true, true, true, true, true, true, true, true, true, true, true, true, true, true, false, false, false, false, false, false, false, false, false, false] rfl rfl (any_of HT_.out (by kernel_rfl)) (fun _ _ _ h => h) (Or.inl ⟨by rfl, ?_⟩) ?_ ?_
                                                    rotate_left
                                                    · intro w'
                                                      go_simp
                                                      with_reducible rfl
                                                    rotate_left
                                                    · simp only [Act.put, List.setIfInBounds_toArray, List.set_cons_zero, List.set_cons_succ, i64_w, i32_w]
                                                      rfl
                                                    refine pure_ (i := 24) (N := some 170) (v := ?_) (a' := ?_) #[true, true, true, true, true, true, true, true, true, true, true, true, true, true, true, true, true, true, true, true, true, true, true, true, true, false, false, false, false, false, false, false, false, false] rfl rfl (any_of HT_.out (by kernel_rfl)) (fun _ _ _ h => h) (Or.inl ⟨by rfl, ?_⟩) ?_ ?_
                                                    rotate_left
                                                    · intro w'
                                                      go_simp
                                                      with_reducible rfl
                                                    rotate_left
                                                    · simp only [Act.put, List.setIfInBounds_toArray, List.set_cons_zero, List.set_cons_succ, i64_w, i32_w]
                                                      rfl
                                                    refine pure_ (i := 25) (N := some 171) (v := ?_) (a' := ?_) #[true, true, true, true, true, true, true, true, true, true, true, true, true, true, true, true, true, true, true, true, true, true, true, true, true, true, false, false, false, false, false, false, false, false] rfl rfl (any_of HT_.out (by kernel_rfl)) (fun _ _ _ h => h) (Or.inl ⟨by rfl, ?_⟩) ?_ ?_
                                                    rotate_left
                                                    · intro w'
                                                      go_simp
                                                      with_reducible rfl
                                                    rotate_left
                                                    · simp only [Act.put, List.setIfInBounds_toArray, List.set_cons_zero, List.set_cons_succ, i64_w, i32_w]
                                                      rfl
                                                    refine pure_ (i := 26) (N := some 172) (v := ?_) (a' := ?_) #[true, true, true, true, true, true, true, true, true, true, true, true, true, true, true, true, true, true, true, true, true, true, true, true, true, true, true, false, false, false, false, false, false, false] rfl rfl (any_of HT_.out (by kernel_rfl)) (fun _ _ _ h => h) (Or.inl ⟨by rfl, ?_⟩) ?_ ?_
                                                    rotate_left
                                                    · intro w'
                                                      go_simp
                                                      with_reducible rfl
                                                    rotate_left
                                                    · simp only [Act.put, List.setIfInBounds_toArray, List.set_cons_zero, List.set_cons_succ, i64_w, i32_w]
                                                      rfl
                                                    refine one_ (i := 27) (N := some 173) #[true, true, true, true, true, true, true, true, true, true, true, true, true, true, true, true, true, true, true, true, true, true, true, true, true, true, true, true, false, false, false, false, false, false] rfl rfl (one_of HT_.out (by kernel_rfl)) (by decide) (fun K hK => ?_)
                                                    refine goes_ Try.func24 (by kernel_rfl) rfl #[.slice Ao31 x7_1.length co31, .slice (some ⟨go86, 0, none⟩) y697.length co86] (by rfl) rfl rfl (by (try simp only [List.map_toArray, List.map_cons, List.map_nil]); first | done | (rw [show y697.length = y694.length from (Kd.R_reads' HO696.out).1.symm] <;> rfl) | rfl | (simp only [List.length_drop, List.length_take]; rfl)) ?_
                                                    with_reducible refine (graph_Cyclic.calls kj65 _ _ x7_1 _ _ y697 false _ ?side1 ?side2 ?side3 ?side4 A94.out).mono ?_
                                                    (case side1 => repeat (first | exact (Kd.S_reads' HO_7.out).2.2 | (with_reducible refine Kd.C_alloc ?_ _) | (with_reducible refine Kd.C_drewN ?_ _) | (with_reducible refine Kd.C_drew ?_)))
                                                    (case side2 => exact (Kd.S_reads' HO_7.out).2.1)
                                                    (case side3 => repeat (first | exact (Kd.R_reads' HO696.out).2.2 | (with_reducible refine Kd.C_alloc ?_ _) | (with_reducible refine Kd.C_drewN ?_ _) | (with_reducible refine Kd.C_drew ?_)))
                                                    (case side4 => rw [show y697.length = y694.length from (Kd.R_reads' HO696.out).1.symm]; exact (Kd.R_reads' HO696.out).2.1)
                                                    rintro e w110 ⟨rfl, hb⟩
                                                    have HS0_ := (hb.cell (World.block_lt_of_cell? _ _ (hHeld.1))).trans (hHeld.1)
                                                    have HS1_ := (hb.cell (World.block_lt_of_cell? _ _ (hHeld.2.1))).trans (hHeld.2.1)
                                                    have HS2_ := (hb.cell (World.block_lt_of_cell? _ _ (hHeld.2.2.1))).trans (hHeld.2.2.1)
                                                    have HS3_ := (hb.cell (World.block_lt_of_cell? _ _ (hHeld.2.2.2.1))).trans (hHeld.2.2.2.1)
                                                    have HS4_ := (hb.cell (World.block_lt_of_cell? _ _ (hHeld.2.2.2.2.1))).trans (hHeld.2.2.2.2.1)
                                                    have HS5_ := (hb.cell (World.block_lt_of_cell? _ _ (hHeld.2.2.2.2.2.1))).trans (hHeld.2.2.2.2.2.1)
                                                    have HS6_ := (hb.cell (World.block_lt_of_cell? _ _ (hHeld.2.2.2.2.2.2.1))).trans (hHeld.2.2.2.2.2.2.1)
                                                    have HS7_ := (hb.cell (World.block_lt_of_cell? _ _ (hHeld.2.2.2.2.2.2.2.1))).trans (hHeld.2.2.2.2.2.2.2.1)
                                                    have HS8_ := (hb.cell (World.block_lt_of_cell? _ _ (hHeld.2.2.2.2.2.2.2.2.1))).trans (hHeld.2.2.2.2.2.2.2.2.1)
                                                    have HS9_ := (hb.cell (World.block_lt_of_cell? _ _ (hHeld.2.2.2.2.2.2.2.2.2.1))).trans (hHeld.2.2.2.2.2.2.2.2.2.1)
                                                    have HS10_ := (hb.cell (World.block_lt_of_cell? _ _ (hHeld.2.2.2.2.2.2.2.2.2.2))).trans (hHeld.2.2.2.2.2.2.2.2.2.2)
                                                    refine ⟨_, rfl, ?_⟩
                                                    have n0_ := Aside0.mk (Kd.S_below (by (with_reducible repeat (first | apply Kd.S_alloc | apply Kd.S_drewN | apply Kd.S_drew)); exact HO_7.out) hb)
                                                    have n1_ := Aside0.mk (Kd.V_below (by (with_reducible repeat (first | apply Kd.V_alloc | apply Kd.V_drewN | apply Kd.V_drew)); exact HO_11.out) hb)
                                                    have n2_ := Aside0.mk (Kd.R_below (by (with_reducible repeat (first | apply Kd.R_alloc | apply Kd.R_drewN | apply Kd.R_drew)); exact HO696.out) hb)
                                                    have n3_ := Aside0.mk (Kd.V_below (by (with_reducible repeat (first | apply Kd.V_alloc | apply Kd.V_drewN | apply Kd.V_drew)); exact HL698_1.out) hb)
                                                    have n4_ := Aside0.mk (Kd.V_below (by (with_reducible repeat (first | apply Kd.V_alloc | apply Kd.V_drewN | apply Kd.V_drew)); exact HL700_1.out) hb)
                                                    have n5_ := Aside0.mk (Kd.V_below (by (with_reducible repeat (first | apply Kd.V_alloc | apply Kd.V_drewN | apply Kd.V_drew)); exact HL701_1.out) hb)
                                                    have n6_ := Aside0.mk (Kd.C_below (by repeat (first | (with_reducible exact HR698_1.out) | (with_reducible refine Kd.C_alloc ?_ _) | (with_reducible refine Kd.C_drewN ?_ _) | (with_reducible refine Kd.C_drew ?_) | exact HR698_1.out)) hb)
                                                    have n7_ := Aside0.mk (Kd.C_below (by repeat (first | (with_reducible exact HR700_1.out) | (with_reducible refine Kd.C_alloc ?_ _) | (with_reducible refine Kd.C_drewN ?_ _) | (with_reducible refine Kd.C_drew ?_) | exact HR700_1.out)) hb)
                                                    have n8_ := Aside0.mk (Kd.C_below (by repeat (first | (with_reducible exact HR701_1.out) | (with_reducible refine Kd.C_alloc ?_ _) | (with_reducible refine Kd.C_drewN ?_ _) | (with_reducible refine Kd.C_drew ?_) | exact HR701_1.out)) hb)
                                                    have n9_ := Aside0.mk (below_step (by repeat (first | (with_reducible first | exact HB.out | apply below_alloc | apply pw_below_drewN | apply below_drew1) | exact HB.out)) hb)
                                                    clear HO_7
                                                    clear HO_11
                                                    clear HO696
                                                    clear HL698_1
                                                    clear HL700_1
                                                    clear HL701_1
                                                    clear HR698_1
                                                    clear HR700_1
                                                    clear HR701_1
                                                    clear HB
                                                    have HO_7 := n0_
                                                    have HO_11 := n1_
                                                    have HO696 := n2_
                                                    have HL698_1 := n3_
                                                    have HL700_1 := n4_
                                                    have HL701_1 := n5_
                                                    have HR698_1 := n6_
                                                    have HR700_1 := n7_
                                                    have HR701_1 := n8_
                                                    have HB := n9_
                                                    clear n0_ n1_ n2_ n3_ n4_ n5_ n6_ n7_ n8_ n9_
                                                    (try clear hb)
                                                    (try clear hb2)
                                                    (try clear hk)
                                                    (try clear hi)
                                                    refine hK.out _ _ ⟨HS0_, HS1_, HS2_, HS3_, HS4_, HS5_, HS6_, HS7_, HS8_, HS9_, HS10_⟩ (fun hHeld => ?_)
                                                    clear hK K
                                                    refine norm_ (a' := ?_) ?_ ?_
                                                    rotate_left
                                                    · show Act.put _ (some 173) _ = _
                                                      simp only [Act.put, List.setIfInBounds_toArray, List.set_cons_zero, List.set_cons_succ, i64_w, i32_w]
                                                      rfl
                                                    refine pure_ (i := 28) (N := some 174) (v := ?_) (a' := ?_) #[true, true, true, true, true, true, true, true, true, true, true, true, true, true, true, true, true, true, true, true, true, true, true, true, true, true, true, true, true, false, false, false, false, false] rfl rfl (any_of HT_.out (by kernel_rfl)) (fun _ _ _ h => h) (Or.inl ⟨by rfl, ?_⟩) ?_ ?_
                                                    rotate_left
                                                    · intro w'
                                                      go_simp
                                                      with_reducible rfl
                                                    rotate_left
                                                    · simp only [Act.put, List.setIfInBounds_toArray, List.set_cons_zero, List.set_cons_succ, i64_w, i32_w]
                                                      rfl
                                                    refine pure_ (i := 29) (N := some 175) (v := ?_) (a' := ?_) #[true, true, true, true, true, true, true, true, true, true, true, true, true, true, true, true, true, true, true, true, true, true, true, true, true, true, true, true, true, true, false, false, false, false] rfl rfl (any_of HT_.out (by kernel_rfl)) (fun _ _ _ h => h) (Or.inl ⟨by rfl, ?_⟩) ?_ ?_
                                                    rotate_left
                                                    · intro w'
                                                      go_simp
                                                      with_reducible rfl
                                                    rotate_left
                                                    · simp only [Act.put, List.setIfInBounds_toArray, List.set_cons_zero, List.set_cons_succ, i64_w, i32_w]
                                                      rfl
                                                    refine pure_ (i := 30) (N := some 176) (v := ?_) (a' := ?_) #[true, true, true, true, true, true, true, true, true, true, true, true, true, true, true, true, true, true, true, true, true, true, true, true, true, true, true, true, true, true, true, false, false, false] rfl rfl (any_of HT_.out (by kernel_rfl)) (fun _ _ _ h => h) (Or.inl ⟨by rfl, ?_⟩) ?_ ?_
                                                    rotate_left
                                                    · intro w'
                                                      go_simp
                                                      with_reducible rfl
                                                    rotate_left
                                                    · simp only [Act.put, List.setIfInBounds_toArray, List.set_cons_zero, List.set_cons_succ, i64_w, i32_w]
                                                      rfl
                                                    refine one_ (i := 31) (N := some 177) #[true, true, true, true, true, true, true, true, true, true, true, true, true, true, true, true, true, true, true, true, true, true, true, true, true, true, true, true, true, true, true, true, false, false] rfl rfl (one_of HT_.out (by kernel_rfl)) (by decide) (fun K hK => ?_)
                                                    refine goes_ Try.func10 (by kernel_rfl) rfl #[] (by rfl) rfl rfl (by (try simp only [List.map_toArray, List.map_cons, List.map_nil]); first | done | rfl | (simp only [List.length_drop, List.length_take]; rfl)) ?_
                                                    with_reducible refine (ratlinelaw10_awake.calls kj65  t704 _ A103.out).mono ?_
                                                    rintro e w111 ⟨rfl, hb⟩
                                                    have HS0_ := (hb.cell (World.block_lt_of_cell? _ _ (hHeld.1))).trans (hHeld.1)
                                                    have HS1_ := (hb.cell (World.block_lt_of_cell? _ _ (hHeld.2.1))).trans (hHeld.2.1)
                                                    have HS2_ := (hb.cell (World.block_lt_of_cell? _ _ (hHeld.2.2.1))).trans (hHeld.2.2.1)
                                                    have HS3_ := (hb.cell (World.block_lt_of_cell? _ _ (hHeld.2.2.2.1))).trans (hHeld.2.2.2.1)
                                                    have HS4_ := (hb.cell (World.block_lt_of_cell? _ _ (hHeld.2.2.2.2.1))).trans (hHeld.2.2.2.2.1)
                                                    have HS5_ := (hb.cell (World.block_lt_of_cell? _ _ (hHeld.2.2.2.2.2.1))).trans (hHeld.2.2.2.2.2.1)
                                                    have HS6_ := (hb.cell (World.block_lt_of_cell? _ _ (hHeld.2.2.2.2.2.2.1))).trans (hHeld.2.2.2.2.2.2.1)
                                                    have HS7_ := (hb.cell (World.block_lt_of_cell? _ _ (hHeld.2.2.2.2.2.2.2.1))).trans (hHeld.2.2.2.2.2.2.2.1)
                                                    have HS8_ := (hb.cell (World.block_lt_of_cell? _ _ (hHeld.2.2.2.2.2.2.2.2.1))).trans (hHeld.2.2.2.2.2.2.2.2.1)
                                                    have HS9_ := (hb.cell (World.block_lt_of_cell? _ _ (hHeld.2.2.2.2.2.2.2.2.2.1))).trans (hHeld.2.2.2.2.2.2.2.2.2.1)
                                                    have HS10_ := (hb.cell (World.block_lt_of_cell? _ _ (hHeld.2.2.2.2.2.2.2.2.2.2))).trans (hHeld.2.2.2.2.2.2.2.2.2.2)
                                                    refine ⟨_, rfl, ?_⟩
                                                    have n0_ := Aside0.mk (Kd.S_below (by (with_reducible repeat (first | apply Kd.S_alloc | apply Kd.S_drewN | apply Kd.S_drew)); exact HO_7.out) hb)
                                                    have n1_ := Aside0.mk (Kd.V_below (by (with_reducible repeat (first | apply Kd.V_alloc | apply Kd.V_drewN | apply Kd.V_drew)); exact HO_11.out) hb)
                                                    have n2_ := Aside0.mk (Kd.R_below (by (with_reducible repeat (first | apply Kd.R_alloc | apply Kd.R_drewN | apply Kd.R_drew)); exact HO696.out) hb)
                                                    have n3_ := Aside0.mk (Kd.V_below (by (with_reducible repeat (first | apply Kd.V_alloc | apply Kd.V_drewN | apply Kd.V_drew)); exact HL698_1.out) hb)
                                                    have n4_ := Aside0.mk (Kd.V_below (by (with_reducible repeat (first | apply Kd.V_alloc | apply Kd.V_drewN | apply Kd.V_drew)); exact HL700_1.out) hb)
                                                    have n5_ := Aside0.mk (Kd.V_below (by (with_reducible repeat (first | apply Kd.V_alloc | apply Kd.V_drewN | apply Kd.V_drew)); exact HL701_1.out) hb)
                                                    have n6_ := Aside0.mk (Kd.C_below (by repeat (first | (with_reducible exact HR698_1.out) | (with_reducible refine Kd.C_alloc ?_ _) | (with_reducible refine Kd.C_drewN ?_ _) | (with_reducible refine Kd.C_drew ?_) | exact HR698_1.out)) hb)
                                                    have n7_ := Aside0.mk (Kd.C_below (by repeat (first | (with_reducible exact HR700_1.out) | (with_reducible refine Kd.C_alloc ?_ _) | (with_reducible refine Kd.C_drewN ?_ _) | (with_reducible refine Kd.C_drew ?_) | exact HR700_1.out)) hb)
                                                    have n8_ := Aside0.mk (Kd.C_below (by repeat (first | (with_reducible exact HR701_1.out) | (with_reducible refine Kd.C_alloc ?_ _) | (with_reducible refine Kd.C_drewN ?_ _) | (with_reducible refine Kd.C_drew ?_) | exact HR701_1.out)) hb)
                                                    have n9_ := Aside0.mk (below_step (by repeat (first | (with_reducible first | exact HB.out | apply below_alloc | apply pw_below_drewN | apply below_drew1) | exact HB.out)) hb)
                                                    clear HO_7
                                                    clear HO_11
                                                    clear HO696
                                                    clear HL698_1
                                                    clear HL700_1
                                                    clear HL701_1
                                                    clear HR698_1
                                                    clear HR700_1
                                                    clear HR701_1
                                                    clear HB
                                                    have HO_7 := n0_
                                                    have HO_11 := n1_
                                                    have HO696 := n2_
                                                    have HL698_1 := n3_
                                                    have HL700_1 := n4_
                                                    have HL701_1 := n5_
                                                    have HR698_1 := n6_
                                                    have HR700_1 := n7_
                                                    have HR701_1 := n8_
                                                    have HB := n9_
                                                    clear n0_ n1_ n2_ n3_ n4_ n5_ n6_ n7_ n8_ n9_
                                                    (try clear hb)
                                                    (try clear hb2)
                                                    (try clear hk)
                                                    (try clear hi)
                                                    refine hK.out _ _ ⟨HS0_, HS1_, HS2_, HS3_, HS4_, HS5_, HS6_, HS7_, HS8_, HS9_, HS10_⟩ (fun hHeld => ?_)
                                                    clear hK K
                                                    refine norm_ (a' := ?_) ?_ ?_
                                                    rotate_left
                                                    · show Act.put _ (some 177) _ = _
                                                      simp only [Act.put, List.setIfInBounds_toArray, List.set_cons_zero, List.set_cons_succ, i64_w, i32_w]
                                                      rfl
                                                    refine pure_ (i := 32) (N := some 178) (v := ?_) (a' := ?_) #[true, true, true, true, true, true, true, true, true, true, true, true, true, true, true, true, true, true, true, true, true, true, true, true, true, true, true, true, true, true, true, true, true, false] rfl rfl (any_of HT_.out (by kernel_rfl)) (fun _ _ _ h => h) (Or.inl ⟨by rfl, ?_⟩) ?_ ?_
                                                    rotate_left
                                                    · intro w'
                                                      go_simp
                                                      with_reducible rfl
                                                    rotate_left
                                                    · simp only [Act.put, List.setIfInBounds_toArray, List.set_cons_zero, List.set_cons_succ, i64_w, i32_w]
                                                      rfl
                                                    refine pure_ (i := 33) (N := some 6) (v := ?_) (a' := ?_) #[true, true, true, true, true, true, true, true, true, true, true, true, true, true, true, true, true, true, true, true, true, true, true, true, true, true, true, true, true, true, true, true, true, true] rfl rfl (any_of HT_.out (by kernel_rfl)) (fun _ _ _ h => h) (Or.inl ⟨by rfl, ?_⟩) ?_ ?_
                                                    rotate_left
                                                    · intro w'
                                                      go_simp
                                                      with_reducible rfl
                                                    rotate_left
                                                    · simp only [Act.put, List.setIfInBounds_toArray, List.set_cons_zero, List.set_cons_succ, i64_w, i32_w]
                                                      rfl
                                                    refine done_ (done_of HT_.out (by kernel_rfl)) ?_
                                                    try go_wp2
                                                    go_ret
                                                    exact ⟨by first | rfl | (simp [errW_none, errW_some] <;> rfl) | (simp only [← hji80, ← hji83, ← hji90]; first | rfl | (simp [errW_none, errW_some] <;> rfl)) | (simp [*, errW_none, errW_some] <;> rfl), by repeat (first | (with_reducible first | exact HB.out | apply below_alloc | apply pw_below_drewN | apply below_drew1) | exact HB.out)⟩
                                                · rw [if_neg c93] at H
                                                  exact absurd (Option.some.inj H) (by rw [hr.out]; decide)
                                              · rw [if_neg c92] at H
                                                exact absurd H (by simp)
                                            · rw [if_neg c91] at H
                                              exact absurd H (by simp)
                                          · rw [if_neg c89] at H
                                            exact absurd (Option.some.inj H) (by rw [hr.out]; decide)
                                        · rw [if_neg c88] at H
                                          exact absurd H (by simp)
                                      · rw [if_neg c87] at H
                                        exact absurd H (by simp)
                                    · rw [if_neg c85] at H
                                      exact absurd H (by simp)
                                  · rw [if_neg c84] at H
                                    exact absurd H (by simp)
                                · rw [if_neg c82] at H
                                  exact absurd H (by simp)
                              · rw [if_neg c81] at H
                                exact absurd H (by simp)

/-- THE ONE PURE STATEMENT of ratlinelaw10_GraphLines: yours. -/
def ratlinelaw10_GraphLines.Pure : Prop := ∀ (a0 : Int) (a1 : Int) (a2 : Int), (Lit.int .i64 a0).wf = true → (Lit.int .i64 a1).wf = true → (Lit.int .i64 a2).wf = true → ∃ k, ratlinelaw10_GraphLines.f k a0 a1 a2 = some true
theorem ratlinelaw10_GraphLines.walk (P : ratlinelaw10_GraphLines.Pure) (a0 : Int) (a1 : Int) (a2 : Int) (w : World) (w0 : (Lit.int .i64 a0).wf = true) (w1 : (Lit.int .i64 a1).wf = true) (w2 : (Lit.int .i64 a2).wf = true) :
    Calls Try.prog 8 #[.int .i64 a0, .int .i64 a1, .int .i64 a2] w fun e w' => e = .returned (.bool true) ∧ Below w.heap.size w w' := by
  obtain ⟨k, h⟩ := P a0 a1 a2 w0 w1 w2
  refine (ratlinelaw10_GraphLines.calls k a0 a1 a2 true ⟨rfl⟩ w h).mono ?_
  rintro e w' ⟨rfl, hd⟩
  exact ⟨rfl, hd⟩

end Go.Proofs.Ytjflddnmkajleaa.PG
