-- By the session's own program out of the kit's print, with texts of the session's own for the functions that the print does not take.
import Derived.Test.YtjflddnmkajleaaPGx0
import Derived.Test.YtjflddnmkajleaaPGx8
import Derived.Test.YtjflddnmkajleaaPGx9
import Derived.Test.YtjflddnmkajleaaPGx20
import Derived.Test.YtjflddnmkajleaaPGx21
import Derived.Test.YtjflddnmkajleaaPGx22
import Derived.Test.YtjflddnmkajleaaPGx31
import Derived.Test.YtjflddnmkajleaaPGx39
namespace Go.Proofs.Ytjflddnmkajleaa.PG
open Go.RowKit Go.Proofs.YtjflddnmkajleaaW.PrintWords Go.Proofs.YtjflddnmkajleaaW.PrintLast Go.Proofs.YtjflddnmkajleaaW.PrintMore
attribute [local go_sem] max2_int min2_int max_two min_two max_three min_three max_four min_four   -- for this text's walks alone
set_option linter.unusedVariables false
set_option linter.unusedSimpArgs false

/-! ### ratlinelaw10_GraphTrees: function 7 -/
mutual
def ratlinelaw10_GraphTrees.l0 : Nat → List Int → Int → List (List Int) → List Int → Int → Option (Bool)
  | 0, _, _, _, _, _ => none
  | k + 1, x0, x3, x4, x5, x6 => if x6 < x3 then (if 0 ≤ (wrap64 (x6 - 1)) then (if (wrap64 (x6 - 1)) < (x0.length : Int) then (if x6 = 0 then (none) else (if 0 ≤ x6 then (if x6 < (x5.length : Int) then (if 0 ≤ (Int.tmod (Go.bits .and .i64 (rd x0 (wrap64 (x6 - 1))) 65535) x6) then (if (Int.tmod (Go.bits .and .i64 (rd x0 (wrap64 (x6 - 1))) 65535) x6) < (x4.length : Int) then (if (rd_L1 x4 (Int.tmod (Go.bits .and .i64 (rd x0 (wrap64 (x6 - 1))) 65535) x6)).length < 17592186044416 then (ratlinelaw10_GraphTrees.l0 k x0 x3 (x4.set ((Int.tmod (Go.bits .and .i64 (rd x0 (wrap64 (x6 - 1))) 65535) x6) : Int).toNat ((rd_L1 x4 (Int.tmod (Go.bits .and .i64 (rd x0 (wrap64 (x6 - 1))) 65535) x6)) ++ [x6])) (x5.set (x6 : Int).toNat (Int.tmod (Go.bits .and .i64 (rd x0 (wrap64 (x6 - 1))) 65535) x6)) (wrap64 (x6 + 1))) else (none)) else (none)) else (none)) else (none)) else (none))) else (none)) else (none)) else ((graph_Doms.f k x4).bind fun t639 => ((graph_Order.f k x4).bind fun t642 => ((ratlineref11_SameInts.f k t639 x5).bind fun t645 => (if t645 = true then (if (t642.length : Int) = x3 then ((graph_Loops.f k x4).bind fun t646 => (if (t646.length : Int) = 0 then ((graph_Cyclic.f k x4 ([] : List Bool)).bind fun t649 => (ratlinelaw10_GraphTrees.j1 k x3 x5 t639 t642 t649)) else (ratlinelaw10_GraphTrees.j1 k x3 x5 t639 t642 true))) else (ratlinelaw10_GraphTrees.j1 k x3 x5 t639 t642 true)) else (ratlinelaw10_GraphTrees.j1 k x3 x5 t639 t642 true)))))
def ratlinelaw10_GraphTrees.j1 : Nat → Int → List Int → List Int → List Int → Bool → Option (Bool)
  | 0, _, _, _, _, _ => none
  | k + 1, x3, x5, x7, x8, x77 => if x77 = true then (some false) else (if 0 ≤ x3 then (if (x3 : Int).toNat ≤ 35184372088832 then (ratlinelaw10_GraphTrees.l1 k x3 x5 x7 x8 (List.replicate (x3 : Int).toNat 0) 0) else (none)) else (none))
def ratlinelaw10_GraphTrees.l1 : Nat → Int → List Int → List Int → List Int → List Int → Int → Option (Bool)
  | 0, _, _, _, _, _, _ => none
  | k + 1, x3, x5, x7, x8, x9, x10 => if x10 < x3 then (if 0 ≤ x10 then (if x10 < (x8.length : Int) then (if (rd x8 x10) < 0 then (some false) else (if (rd x8 x10) ≥ x3 then (some false) else (if 0 ≤ (rd x8 x10) then (if (rd x8 x10) < (x9.length : Int) then (ratlinelaw10_GraphTrees.l1 k x3 x5 x7 x8 (x9.set ((rd x8 x10) : Int).toNat x10) (wrap64 (x10 + 1))) else (none)) else (none)))) else (none)) else (none)) else (ratlinelaw10_GraphTrees.l2 k x3 x5 x7 x9 1)
def ratlinelaw10_GraphTrees.l2 : Nat → Int → List Int → List Int → List Int → Int → Option (Bool)
  | 0, _, _, _, _, _ => none
  | k + 1, x3, x5, x7, x9, x11 => if x11 < x3 then (if 0 ≤ x11 then (if x11 < (x5.length : Int) then (if 0 ≤ (rd x5 x11) then (if (rd x5 x11) < (x9.length : Int) then (if x11 < (x9.length : Int) then (if (rd x9 (rd x5 x11)) ≥ (rd x9 x11) then (some false) else ((graph_Dominates.f k x7 (rd x5 x11) x11).bind fun t662 => (if t662 = true then ((graph_Dominates.f k x7 0 x11).bind fun t663 => (if t663 = true then ((graph_Dominates.f k x7 x11 0).bind fun t664 => (if t664 = true then (some false) else (ratlinelaw10_GraphTrees.l2 k x3 x5 x7 x9 (wrap64 (x11 + 1))))) else (some false))) else (some false)))) else (none)) else (none)) else (none)) else (none)) else (none)) else ((ratlinelaw10_awake.f k).bind fun t657 => (some t657))
end
def ratlinelaw10_GraphTrees.f (k : Nat) (l0 : List Int) : Option (Bool) := if 0 ≤ ((mn (l0.length : Int) 60) + 1) then (if ((mn (l0.length : Int) 60) + 1 : Int).toNat ≤ 11728124029610 then (if ((mn (l0.length : Int) 60) + 1 : Int).toNat ≤ 35184372088832 then ((some (List.replicate ((mn (l0.length : Int) 60) + 1 : Int).toNat 0 : List Int)).bind fun y628 => (if 0 < (y628.length : Int) then (ratlinelaw10_GraphTrees.l0 k l0 ((mn (l0.length : Int) 60) + 1) (List.replicate ((mn (l0.length : Int) 60) + 1 : Int).toNat []) (y628.set (0 : Int).toNat (-1)) 1) else (none))) else (none)) else (none)) else (none)
theorem ratlinelaw10_GraphTrees.mono_l : ∀ k, (∀ y0 y1 y2 y3 y4, LeO (ratlinelaw10_GraphTrees.l0 k y0 y1 y2 y3 y4) (ratlinelaw10_GraphTrees.l0 (k + 1) y0 y1 y2 y3 y4)) ∧ (∀ y0 y1 y2 y3 y4, LeO (ratlinelaw10_GraphTrees.j1 k y0 y1 y2 y3 y4) (ratlinelaw10_GraphTrees.j1 (k + 1) y0 y1 y2 y3 y4)) ∧ (∀ y0 y1 y2 y3 y4 y5, LeO (ratlinelaw10_GraphTrees.l1 k y0 y1 y2 y3 y4 y5) (ratlinelaw10_GraphTrees.l1 (k + 1) y0 y1 y2 y3 y4 y5)) ∧ (∀ y0 y1 y2 y3 y4, LeO (ratlinelaw10_GraphTrees.l2 k y0 y1 y2 y3 y4) (ratlinelaw10_GraphTrees.l2 (k + 1) y0 y1 y2 y3 y4))
  | 0 => ⟨fun _ _ _ _ _ r h => by simp [ratlinelaw10_GraphTrees.l0] at h, fun _ _ _ _ _ r h => by simp [ratlinelaw10_GraphTrees.j1] at h, fun _ _ _ _ _ _ r h => by simp [ratlinelaw10_GraphTrees.l1] at h, fun _ _ _ _ _ r h => by simp [ratlinelaw10_GraphTrees.l2] at h⟩
  | k + 1 => by
    obtain ⟨ih0, ih1, ih2, ih3⟩ := ratlinelaw10_GraphTrees.mono_l k
    refine ⟨?_, ?_, ?_, ?_⟩
    · intro y0 y1 y2 y3 y4
      unfold ratlinelaw10_GraphTrees.l0
      repeat' first
      | (with_reducible exact ih0 _ _ _ _ _)
      | (with_reducible exact ih1 _ _ _ _ _)
      | (with_reducible exact ih2 _ _ _ _ _ _)
      | (with_reducible exact ih3 _ _ _ _ _)
      | (with_reducible exact graph_Cyclic.mono _ _ _)
      | (with_reducible exact graph_Dominates.mono _ _ _ _)
      | (with_reducible exact graph_Doms.mono _ _)
      | (with_reducible exact graph_Loops.mono _ _)
      | (with_reducible exact graph_Order.mono _ _)
      | (with_reducible exact ratlinelaw10_awake.mono _)
      | (with_reducible exact ratlineref11_SameInts.mono _ _ _)
      | (with_reducible exact LeO.refl _)
      | (with_reducible exact LeO.none _)
      | (with_reducible refine LeO.ite ?_ ?_)
      | (with_reducible refine LeO.bind ?_ (fun _ => ?_))
      | exact ih0 _ _ _ _ _
      | exact ih1 _ _ _ _ _
      | exact ih2 _ _ _ _ _ _
      | exact ih3 _ _ _ _ _
      | exact graph_Cyclic.mono _ _ _
      | exact graph_Dominates.mono _ _ _ _
      | exact graph_Doms.mono _ _
      | exact graph_Loops.mono _ _
      | exact graph_Order.mono _ _
      | exact ratlinelaw10_awake.mono _
      | exact ratlineref11_SameInts.mono _ _ _
      | exact LeO.none _
      | refine LeO.ite ?_ ?_
      | refine LeO.bind ?_ (fun _ => ?_)
    · intro y0 y1 y2 y3 y4
      unfold ratlinelaw10_GraphTrees.j1
      repeat' first
      | (with_reducible exact ih0 _ _ _ _ _)
      | (with_reducible exact ih1 _ _ _ _ _)
      | (with_reducible exact ih2 _ _ _ _ _ _)
      | (with_reducible exact ih3 _ _ _ _ _)
      | (with_reducible exact graph_Cyclic.mono _ _ _)
      | (with_reducible exact graph_Dominates.mono _ _ _ _)
      | (with_reducible exact graph_Doms.mono _ _)
      | (with_reducible exact graph_Loops.mono _ _)
      | (with_reducible exact graph_Order.mono _ _)
      | (with_reducible exact ratlinelaw10_awake.mono _)
      | (with_reducible exact ratlineref11_SameInts.mono _ _ _)
      | (with_reducible exact LeO.refl _)
      | (with_reducible exact LeO.none _)
      | (with_reducible refine LeO.ite ?_ ?_)
      | (with_reducible refine LeO.bind ?_ (fun _ => ?_))
      | exact ih0 _ _ _ _ _
      | exact ih1 _ _ _ _ _
      | exact ih2 _ _ _ _ _ _
      | exact ih3 _ _ _ _ _
      | exact graph_Cyclic.mono _ _ _
      | exact graph_Dominates.mono _ _ _ _
      | exact graph_Doms.mono _ _
      | exact graph_Loops.mono _ _
      | exact graph_Order.mono _ _
      | exact ratlinelaw10_awake.mono _
      | exact ratlineref11_SameInts.mono _ _ _
      | exact LeO.none _
      | refine LeO.ite ?_ ?_
      | refine LeO.bind ?_ (fun _ => ?_)
    · intro y0 y1 y2 y3 y4 y5
      unfold ratlinelaw10_GraphTrees.l1
      repeat' first
      | (with_reducible exact ih0 _ _ _ _ _)
      | (with_reducible exact ih1 _ _ _ _ _)
      | (with_reducible exact ih2 _ _ _ _ _ _)
      | (with_reducible exact ih3 _ _ _ _ _)
      | (with_reducible exact graph_Cyclic.mono _ _ _)
      | (with_reducible exact graph_Dominates.mono _ _ _ _)
      | (with_reducible exact graph_Doms.mono _ _)
      | (with_reducible exact graph_Loops.mono _ _)
      | (with_reducible exact graph_Order.mono _ _)
      | (with_reducible exact ratlinelaw10_awake.mono _)
      | (with_reducible exact ratlineref11_SameInts.mono _ _ _)
      | (with_reducible exact LeO.refl _)
      | (with_reducible exact LeO.none _)
      | (with_reducible refine LeO.ite ?_ ?_)
      | (with_reducible refine LeO.bind ?_ (fun _ => ?_))
      | exact ih0 _ _ _ _ _
      | exact ih1 _ _ _ _ _
      | exact ih2 _ _ _ _ _ _
      | exact ih3 _ _ _ _ _
      | exact graph_Cyclic.mono _ _ _
      | exact graph_Dominates.mono _ _ _ _
      | exact graph_Doms.mono _ _
      | exact graph_Loops.mono _ _
      | exact graph_Order.mono _ _
      | exact ratlinelaw10_awake.mono _
      | exact ratlineref11_SameInts.mono _ _ _
      | exact LeO.none _
      | refine LeO.ite ?_ ?_
      | refine LeO.bind ?_ (fun _ => ?_)
    · intro y0 y1 y2 y3 y4
      unfold ratlinelaw10_GraphTrees.l2
      repeat' first
      | (with_reducible exact ih0 _ _ _ _ _)
      | (with_reducible exact ih1 _ _ _ _ _)
      | (with_reducible exact ih2 _ _ _ _ _ _)
      | (with_reducible exact ih3 _ _ _ _ _)
      | (with_reducible exact graph_Cyclic.mono _ _ _)
      | (with_reducible exact graph_Dominates.mono _ _ _ _)
      | (with_reducible exact graph_Doms.mono _ _)
      | (with_reducible exact graph_Loops.mono _ _)
      | (with_reducible exact graph_Order.mono _ _)
      | (with_reducible exact ratlinelaw10_awake.mono _)
      | (with_reducible exact ratlineref11_SameInts.mono _ _ _)
      | (with_reducible exact LeO.refl _)
      | (with_reducible exact LeO.none _)
      | (with_reducible refine LeO.ite ?_ ?_)
      | (with_reducible refine LeO.bind ?_ (fun _ => ?_))
      | exact ih0 _ _ _ _ _
      | exact ih1 _ _ _ _ _
      | exact ih2 _ _ _ _ _ _
      | exact ih3 _ _ _ _ _
      | exact graph_Cyclic.mono _ _ _
      | exact graph_Dominates.mono _ _ _ _
      | exact graph_Doms.mono _ _
      | exact graph_Loops.mono _ _
      | exact graph_Order.mono _ _
      | exact ratlinelaw10_awake.mono _
      | exact ratlineref11_SameInts.mono _ _ _
      | exact LeO.none _
      | refine LeO.ite ?_ ?_
      | refine LeO.bind ?_ (fun _ => ?_)
theorem ratlinelaw10_GraphTrees.mono : ∀ a0 k, LeO (ratlinelaw10_GraphTrees.f k a0) (ratlinelaw10_GraphTrees.f (k + 1) a0) := by
  intro a0 k
  obtain ⟨ih0, ih1, ih2, ih3⟩ := ratlinelaw10_GraphTrees.mono_l k
  unfold ratlinelaw10_GraphTrees.f
  repeat' first
      | (with_reducible exact ih0 _ _ _ _ _)
      | (with_reducible exact ih1 _ _ _ _ _)
      | (with_reducible exact ih2 _ _ _ _ _ _)
      | (with_reducible exact ih3 _ _ _ _ _)
      | (with_reducible exact graph_Cyclic.mono _ _ _)
      | (with_reducible exact graph_Dominates.mono _ _ _ _)
      | (with_reducible exact graph_Doms.mono _ _)
      | (with_reducible exact graph_Loops.mono _ _)
      | (with_reducible exact graph_Order.mono _ _)
      | (with_reducible exact ratlinelaw10_awake.mono _)
      | (with_reducible exact ratlineref11_SameInts.mono _ _ _)
      | (with_reducible exact LeO.refl _)
      | (with_reducible exact LeO.none _)
      | (with_reducible refine LeO.ite ?_ ?_)
      | (with_reducible refine LeO.bind ?_ (fun _ => ?_))
      | exact ih0 _ _ _ _ _
      | exact ih1 _ _ _ _ _
      | exact ih2 _ _ _ _ _ _
      | exact ih3 _ _ _ _ _
      | exact graph_Cyclic.mono _ _ _
      | exact graph_Dominates.mono _ _ _ _
      | exact graph_Doms.mono _ _
      | exact graph_Loops.mono _ _
      | exact graph_Order.mono _ _
      | exact ratlinelaw10_awake.mono _
      | exact ratlineref11_SameInts.mono _ _ _
      | exact LeO.none _
      | refine LeO.ite ?_ ?_
      | refine LeO.bind ?_ (fun _ => ?_)
def ratlinelaw10_GraphTrees.T9 : Bool × List (List Nat × List Nat) := (true, [([], []), ([], []), ([], []), ([1, 2], [1, 2]), ([3], [3]), ([], []), ([], []), ([], []), ([6, 7], [6, 7]), ([8], [8]), ([5, 9], [5, 9]), ([10], [10]), ([], []), ([12], [12]), ([11, 13], [11, 13]), ([0, 4, 0, 1, 2, 3, 4, 5, 6, 7, 8, 9, 10, 11, 12, 13, 14], [0, 4]), ([15, 14, 14, 0, 1, 2, 3, 4, 5, 6, 7, 8, 9, 10, 11, 12, 13, 14], [14, 15])])
def ratlinelaw10_GraphTrees.B9 : List Nat := [0, 0, 0, 6, 14, 0, 0, 0, 192, 448, 992, 2016, 0, 4096, 16352, 32767, 65535]
theorem ratlinelaw10_GraphTrees.tab9 : rtab .any (opsOf Try.f7 9) = ratlinelaw10_GraphTrees.T9 := by kernel_rfl
theorem ratlinelaw10_GraphTrees.bits9 : waitsOk ratlinelaw10_GraphTrees.T9.2 ratlinelaw10_GraphTrees.B9 = true := by kernel_rfl
set_option maxHeartbeats 8000000 in
set_option maxRecDepth 100000 in
theorem ratlinelaw10_GraphTrees.calls (k : Nat) (A0 : Option Addr) (c0 : Nat) (l0 : List Int) (r : Bool) (hr : Aside0 (r = true)) (w : World) (hr0 : Kd.C (Kd.int .i64) w A0 l0.length l0) (hc0 : l0.length ≤ c0) (h : ratlinelaw10_GraphTrees.f k l0 = some r) :
    Calls Try.prog 7 #[.slice A0 l0.length c0] w fun e w' => e = .returned (.bool r) ∧ Below w.heap.size w w' := by
  have HR0 := Aside0.mk hr0
  have HC0 := Aside0.mk hc0
  clear hr0 hc0
  have HB := Aside0.mk (Below.refl w.heap.size w)
  have H : (if 0 ≤ ((mn (l0.length : Int) 60) + 1) then (if ((mn (l0.length : Int) 60) + 1 : Int).toNat ≤ 11728124029610 then (if ((mn (l0.length : Int) 60) + 1 : Int).toNat ≤ 35184372088832 then ((some (List.replicate ((mn (l0.length : Int) 60) + 1 : Int).toNat 0 : List Int)).bind fun y628 => (if 0 < (y628.length : Int) then (ratlinelaw10_GraphTrees.l0 k l0 ((mn (l0.length : Int) 60) + 1) (List.replicate ((mn (l0.length : Int) 60) + 1 : Int).toNat []) (y628.set (0 : Int).toNat (-1)) 1) else (none))) else (none)) else (none)) else (none)) = some r := h
  clear h
  obtain ⟨ji2, hji2⟩ : ∃ j_ : Int, (mn (l0.length : Int) 60) = j_ := ⟨_, rfl⟩
  replace H : (if 0 ≤ ((ji2) + 1) then (if ((ji2) + 1 : Int).toNat ≤ 11728124029610 then (if ((ji2) + 1 : Int).toNat ≤ 35184372088832 then ((some (List.replicate ((ji2) + 1 : Int).toNat 0 : List Int)).bind fun y628 => (if 0 < (y628.length : Int) then (ratlinelaw10_GraphTrees.l0 k l0 ((ji2) + 1) (List.replicate ((ji2) + 1 : Int).toNat []) (y628.set (0 : Int).toNat (-1)) 1) else (none))) else (none)) else (none)) else (none)) = some r := by first | (rw [hji2] at H; exact H) | (simp only [hji2] at H ⊢; exact H)
  (try (have hji2h : ji2 ≤ 60 := by (rw [← hji2]; unfold mn; (repeat' split) <;> omega)))
  (try (have hji2g : ji2 ≤ 64 := by omega))
  (try (have hji2l : 0 ≤ ji2 := by (rw [← hji2]; unfold mn; (repeat' split) <;> omega)))
  (try (have hji2m : 0 ≤ ji2 := by omega))
  have hji2_ : (if 60 < (l0.length : Int) then 60 else (l0.length : Int)) = ji2 := hji2
  obtain ⟨ji3, hji3⟩ : ∃ j_ : Int, ((ji2) + 1) = j_ := ⟨_, rfl⟩
  replace H : (if 0 ≤ (ji3) then (if (ji3 : Int).toNat ≤ 11728124029610 then (if (ji3 : Int).toNat ≤ 35184372088832 then ((some (List.replicate (ji3 : Int).toNat 0 : List Int)).bind fun y628 => (if 0 < (y628.length : Int) then (ratlinelaw10_GraphTrees.l0 k l0 ji3 (List.replicate (ji3 : Int).toNat []) (y628.set (0 : Int).toNat (-1)) 1) else (none))) else (none)) else (none)) else (none)) = some r := by first | (rw [hji3] at H; exact H) | (simp only [hji3] at H ⊢; exact H)
  by_cases c4 : 0 ≤ (ji3)
  · rw [if_pos c4] at H
    have c4b0 := eq_true c4
    have c4b1 : decide (0 ≤ (ji3)) = true := decide_eq_true c4
    clear c4
    by_cases c5 : (ji3 : Int).toNat ≤ 11728124029610
    · rw [if_pos c5] at H
      have c5b0 := eq_true c5
      have c5b1 : decide ((ji3 : Int).toNat ≤ 11728124029610) = true := decide_eq_true c5
      clear c5
      obtain ⟨y625, hy625⟩ : ∃ y_ : List (List Int), y_ = (List.replicate (ji3 : Int).toNat []) := ⟨_, rfl⟩
      replace H : (if (ji3 : Int).toNat ≤ 35184372088832 then ((some (List.replicate (ji3 : Int).toNat 0 : List Int)).bind fun y628 => (if 0 < (y628.length : Int) then (ratlinelaw10_GraphTrees.l0 k l0 ji3 y625 (y628.set (0 : Int).toNat (-1)) 1) else (none))) else (none)) = some r := by first | (rw [hy625]; with_reducible exact H) | (have H2_ := (Option.bind_some _ _).symm.trans H; rw [hy625]; with_reducible exact H2_) | (have H2_ := (Option.bind_some _ _).symm.trans H; with_reducible exact H2_) | with_reducible exact H | (rw [hy625]; exact H) | exact H
      have Ny625 := Aside0.mk hy625
      clear hy625
      by_cases c6 : (ji3 : Int).toNat ≤ 35184372088832
      · rw [if_pos c6] at H
        have c6b0 := eq_true c6
        have c6b1 : decide ((ji3 : Int).toNat ≤ 35184372088832) = true := decide_eq_true c6
        clear c6
        obtain ⟨y628, hy628⟩ : ∃ y_ : List Int, y_ = (List.replicate (ji3 : Int).toNat 0) := ⟨_, rfl⟩
        replace H : (if 0 < (y628.length : Int) then (ratlinelaw10_GraphTrees.l0 k l0 ji3 y625 (y628.set (0 : Int).toNat (-1)) 1) else (none)) = some r := by first | (rw [hy628]; with_reducible exact H) | (have H2_ := (Option.bind_some _ _).symm.trans H; rw [hy628]; with_reducible exact H2_) | (have H2_ := (Option.bind_some _ _).symm.trans H; with_reducible exact H2_) | with_reducible exact H | (rw [hy628]; exact H) | exact H
        have Ny628 := Aside0.mk hy628
        clear hy628
        by_cases c7 : 0 < (y628.length : Int)
        · rw [if_pos c7] at H
          have c7b0 : decide (0 < (y628.length : Int)) = true := decide_eq_true c7
          have c7b1 : decide (0 < y628.length) = true := decide_eq_true (by omega)
          clear c7
          obtain ⟨y631, hy631⟩ : ∃ y_ : List Int, y_ = (y628.set (0 : Int).toNat (-1)) := ⟨_, rfl⟩
          replace H : (ratlinelaw10_GraphTrees.l0 k l0 ji3 y625 y631 1) = some r := by first | (rw [hy631]; with_reducible exact H) | (have H2_ := (Option.bind_some _ _).symm.trans H; rw [hy631]; with_reducible exact H2_) | (have H2_ := (Option.bind_some _ _).symm.trans H; with_reducible exact H2_) | with_reducible exact H | (rw [hy631]; exact H) | exact H
          have Ny631 := Aside0.mk hy631
          clear hy631
          have H' := Aside0.mk H
          clear H
          go_enter Try.func7, Try.ntmps7
          go_wp2_with (first | ((with_reducible refine gate_dst (N := 17) rfl ?_); (try (refine gate_guard (by rfl) ?_; dsimp only)); refine Kd.S_make (Kd.slice 3 (Kd.int .i64)) _ 25 rfl (N := 17) rfl 22 _ _ rfl ji3 rfl rfl Try.underlying22 (.slice none 0 0) 24 info25 rfl (by decide) (by omega) [] (ok := fun _ => True) (okp := fun _ => True) ⟨_, rfl, Kd.R_nil _ _ _ _ _⟩ (fun _ hk => hk) trivial (of_decide_eq_true (by first | (with_reducible assumption) | assumption)) (Nat.le_trans (Nat.mul_le_mul_right _ (of_decide_eq_true (by first | (with_reducible assumption) | assumption) : ji3.toNat ≤ 11728124029610)) (by omega)) (Below.refl _ _) (Nat.le_refl _) ?_; intro v626 w9 ho10 hb hg_ hnew_; clear hg_ hnew_; (first | rw [← Ny625.out] at ho10 | (simp only [Int.reduceToNat] at ho10; rw [← Ny625.out] at ho10)); have n0_ := Aside0.mk (Kd.S_lower ho10 (below_size (by repeat (first | (with_reducible first | exact HB.out | apply below_alloc | apply pw_below_drewN | apply below_drew1) | exact HB.out)))); have n1_ := Aside0.mk (below_step (by repeat (first | (with_reducible first | exact HB.out | apply below_alloc | apply pw_below_drewN | apply below_drew1) | exact HB.out)) hb); clear HB; have HO627 := n0_; have HB := n1_; clear n0_ n1_; clear hb ho10) | ((with_reducible refine gate_dst (N := 19) rfl ?_); (try (refine gate_guard (by rfl) ?_; dsimp only)); refine Kd.R_make (Kd.int .i64) _ 3 rfl (N := 19) rfl 25 _ _ rfl ji3 rfl rfl Try.underlying25 (.int .i64 0) 8 info3 rfl (by decide) (by omega) 0 (ok := fun _ => True) (okp := fun _ => True) rfl (fun _ hk => hk) trivial (of_decide_eq_true (by first | (with_reducible assumption) | assumption)) (Nat.le_trans (Nat.mul_le_mul_right _ (of_decide_eq_true (by first | (with_reducible assumption) | assumption) : ji3.toNat ≤ 35184372088832)) (by omega)) (Below.refl _ _) (Nat.le_refl _) ?_; intro v629 w11 ho12 hb hg_ hnew_; clear hg_ hnew_; (first | rw [← Ny628.out] at ho12 | (simp only [Int.reduceToNat] at ho12; rw [← Ny628.out] at ho12)); have n0_ := Aside0.mk (Kd.S_elder' (by (with_reducible repeat (first | apply Kd.S_alloc | apply Kd.S_drewN | apply Kd.S_drew)); exact HO627.out) (Kd.R_base ho12) hb); have n1_ := Aside0.mk (Kd.R_lower ho12 (below_size (by repeat (first | (with_reducible first | exact HB.out | apply below_alloc | apply pw_below_drewN | apply below_drew1) | exact HB.out)))); have n2_ := Aside0.mk (below_step (by repeat (first | (with_reducible first | exact HB.out | apply below_alloc | apply pw_below_drewN | apply below_drew1) | exact HB.out)) hb); clear HO627; clear HB; have HO627 := n0_; have HO630 := n1_; have HB := n2_; clear n0_ n1_ n2_; clear hb ho12; have p8 : 0 ≤ (0 : Int) := (by omega); have q8 : (0 : Int) < ((y628.length : Int) : Int) := of_decide_eq_true (by first | (with_reducible assumption) | assumption); have qi8 : (0 < y628.length) = True := eq_true (by omega); obtain ⟨go8, co8, eo8, gb8, gl8, cl8, HG8⟩ := Kd.R_form HO630.out (by omega); (first | cases eo8 | (injection eo8 with ea_ en_ ec_; (first | subst ea_ | (injection ea_ with ea_; subst ea_)); subst ec_; clear en_)); have GB8 := Aside0.mk gb8; have GG8 := Aside0.mk HG8; clear gb8 gl8 HG8; obtain ⟨hx8_0, hf8_0⟩ := Kd.R_celln 0 HO630.out (0 : Int) p8 q8; (try rw [show ((0 : Int)).toNat = 0 from rfl] at hx8_0); (try simp only [Nat.reduceMul, Nat.zero_mul, Nat.zero_add, Nat.reduceAdd] at hx8_0); (try rw [show ((0 : Int)).toNat = 0 from rfl] at hf8_0); (try simp only [Nat.reduceMul, Nat.zero_mul, Nat.zero_add, Nat.reduceAdd] at hf8_0); replace p8 := eq_true p8; replace q8 := eq_true q8; obtain ⟨hy13_, hz13_⟩ := Kd.R_celln 0 HO630.out (0 : Int) (by omega) (of_decide_eq_true (by first | (with_reducible assumption) | assumption)); (try simp only [Int.reduceToNat, Int.toNat_zero, Int.toNat_ofNat, Nat.reduceMul, Nat.zero_mul, Nat.zero_add] at hy13_ hz13_); (try rw [show ((0 : Int)).toNat = 0 from rfl] at hy13_); (try rw [show ((0 : Int)).toNat = 0 from rfl] at hz13_); have HP13 := Kd.R_putg HO630.out (0 : Int) (-1)) | ((with_reducible refine gate_store (t := 3) (p := 21) rfl ?_); refine store_event (t := 3) (p := 21) (v := ?vo_w14) (w1 := (w11.setCell ⟨go8, (0 : Int).toNat, none⟩ (.int .i64 (-1)))) ?hg ?ho ?hn ?hr ?_; (case ho => rfl); (case hg => rfl); (case hn => rfl); (case hr => first | (go_simp; done) | (go_simp; rfl)); intro w14 hw; have hg : w11.grownBy w14 (some go8) := (by rw [hw]; exact HP13.2); have hp_ : Kd.R (Kd.int .i64) 3 w14 w.heap.size (fun _ => True) (.slice (some ⟨go8, 0, none⟩) y628.length co8) y631 := (by rw [hw, Ny631.out]; exact HP13.1); clear HP13; have n0_ := Aside0.mk (Kd.S_after (v := (.slice (some ⟨go8, 0, none⟩) y628.length co8)) (v1 := (.slice (some ⟨go8, 0, none⟩) y628.length co8)) (ok := (fun _ => True)) (by (with_reducible repeat (first | apply Kd.S_alloc | apply Kd.S_drewN | apply Kd.S_drew)); exact HO627.out) hg (.inl rfl)); have n1_ := Aside0.mk (hp_); have n2_ := Aside0.mk ((by rw [hw]; exact below_set (HB.out) GB8.out : Below w.heap.size w w14)); clear HO627; clear HO630; clear HB; have HO627 := n0_; have HO630 := n1_; have HB := n2_; clear n0_ n1_ n2_; clear hg hw hp_))
          go_loopg [6] k (fun kq v6 w' => ∃ (x4_1 : List (List Int)) (x5_1 : List Int) (x6_1 : Int), v6 = .int .i64 x6_1 ∧ Aside0 (ratlinelaw10_GraphTrees.l0 kq l0 ji3 x4_1 x5_1 x6_1 = some r) ∧ Aside0 (kq ≤ k) ∧ Aside0 (Kd.S (Kd.slice 3 (Kd.int .i64)) 25 w' w.heap.size (fun k_ => some k_ ≠ ((.slice (some ⟨go8, 0, none⟩) y628.length co8) : Value).ownBlock) v626 x4_1) ∧ Aside0 (Kd.R (Kd.int .i64) 3 w' w.heap.size (fun _ => True) (.slice (some ⟨go8, 0, none⟩) y628.length co8) x5_1) ∧ Aside0 (Below w.heap.size w w'))
          case atStart => exact ⟨(y625), (y631), (1), (by first | rfl | (simp; done) | (simp [*]; done)), H', ⟨Nat.le_refl _⟩, ⟨by (with_reducible repeat (first | apply Kd.S_alloc | apply Kd.S_drewN | apply Kd.S_drew)); exact Kd.S_mono HO627.out (fun _ hk => hk.2)⟩, ⟨by (with_reducible repeat (first | apply Kd.R_alloc | apply Kd.R_drewN | apply Kd.R_drew)); exact HO630.out⟩, ⟨by repeat (first | (with_reducible first | exact HB.out | apply below_alloc | apply pw_below_drewN | apply below_drew1) | exact HB.out)⟩⟩
          case round =>
            clear H'
            try clear p2
            try clear c4
            try clear c4b0
            try clear c4b1
            try clear c5
            try clear c5b0
            try clear c5b1
            try clear c6
            try clear c6b0
            try clear c6b1
            try clear c7
            try clear c7b0
            try clear c7b1
            try clear p8
            try clear q8
            try clear hx8
            try clear qi8
            try clear hf8
            try clear hx8_0
            try clear p8
            try clear q8
            obtain ⟨x4_1, x5_1, x6_1, rfl, HA, HK1, HO_4, HO_5, HB⟩ := hrel
            have hl5_1 := (Kd.R_reads' HO_5.out).1
            rw [hl5_1] at HO_5
            (try simp only [hl5_1])
            (try simp only [hl5_1] at HO_4)
            cases gk with
            | zero => exact absurd HA.out (by simp [ratlinelaw10_GraphTrees.l0])
            | succ k1 =>
              have H := HA.out
              clear HA
              simp only [ratlinelaw10_GraphTrees.l0] at H
              by_cases c15 : x6_1 < ji3
              · rw [if_pos c15] at H
                have c15b0 : decide (x6_1 < ji3) = true := decide_eq_true c15
                clear c15
                obtain ⟨ji16, hji16⟩ : ∃ j_ : Int, (wrap64 (x6_1 - 1)) = j_ := ⟨_, rfl⟩
                replace H : (if 0 ≤ (ji16) then (if (ji16) < (l0.length : Int) then (if x6_1 = 0 then (none) else (if 0 ≤ x6_1 then (if x6_1 < (x5_1.length : Int) then (if 0 ≤ (Int.tmod (Go.bits .and .i64 (rd l0 (ji16)) 65535) x6_1) then (if (Int.tmod (Go.bits .and .i64 (rd l0 (ji16)) 65535) x6_1) < (x4_1.length : Int) then (if (rd_L1 x4_1 (Int.tmod (Go.bits .and .i64 (rd l0 (ji16)) 65535) x6_1)).length < 17592186044416 then (ratlinelaw10_GraphTrees.l0 k1 l0 ji3 (x4_1.set ((Int.tmod (Go.bits .and .i64 (rd l0 (ji16)) 65535) x6_1) : Int).toNat ((rd_L1 x4_1 (Int.tmod (Go.bits .and .i64 (rd l0 (ji16)) 65535) x6_1)) ++ [x6_1])) (x5_1.set (x6_1 : Int).toNat (Int.tmod (Go.bits .and .i64 (rd l0 (ji16)) 65535) x6_1)) (wrap64 (x6_1 + 1))) else (none)) else (none)) else (none)) else (none)) else (none))) else (none)) else (none)) = some r := by first | (rw [hji16] at H; exact H) | (simp only [hji16] at H ⊢; exact H)
                have hji16w : (IntKind.i64.wrap (x6_1 - 1)) = ji16 := (i64_w _).trans hji16
                by_cases c17 : 0 ≤ (ji16)
                · rw [if_pos c17] at H
                  have c17b0 : decide (0 ≤ (ji16)) = true := decide_eq_true c17
                  clear c17
                  by_cases c18 : (ji16) < (l0.length : Int)
                  · rw [if_pos c18] at H
                    have c18b0 : decide ((ji16) < (l0.length : Int)) = true := decide_eq_true c18
                    clear c18
                    by_cases c19 : x6_1 = 0
                    · rw [if_pos c19] at H
                      exact absurd H (by simp)
                    · rw [if_neg c19] at H
                      have c19b0 : (x6_1 == 0) = false := beq_eq_false_iff_ne.mpr c19
                      have c19b1 : (x6_1 != 0) = true := bne_iff_ne.mpr c19
                      by_cases c20 : 0 ≤ x6_1
                      · rw [if_pos c20] at H
                        have c20b0 : decide (0 ≤ x6_1) = true := decide_eq_true c20
                        clear c20
                        by_cases c21 : x6_1 < (x5_1.length : Int)
                        · rw [if_pos c21] at H
                          have c21b0 : decide (x6_1 < (x5_1.length : Int)) = true := decide_eq_true c21
                          clear c21
                          obtain ⟨y633, hy633⟩ : ∃ y_ : List Int, y_ = (x5_1.set (x6_1 : Int).toNat (Int.tmod (Go.bits .and .i64 (rd l0 (ji16)) 65535) x6_1)) := ⟨_, rfl⟩
                          replace H : (if 0 ≤ (Int.tmod (Go.bits .and .i64 (rd l0 (ji16)) 65535) x6_1) then (if (Int.tmod (Go.bits .and .i64 (rd l0 (ji16)) 65535) x6_1) < (x4_1.length : Int) then (if (rd_L1 x4_1 (Int.tmod (Go.bits .and .i64 (rd l0 (ji16)) 65535) x6_1)).length < 17592186044416 then (ratlinelaw10_GraphTrees.l0 k1 l0 ji3 (x4_1.set ((Int.tmod (Go.bits .and .i64 (rd l0 (ji16)) 65535) x6_1) : Int).toNat ((rd_L1 x4_1 (Int.tmod (Go.bits .and .i64 (rd l0 (ji16)) 65535) x6_1)) ++ [x6_1])) y633 (wrap64 (x6_1 + 1))) else (none)) else (none)) else (none)) = some r := by first | (rw [hy633]; with_reducible exact H) | (have H2_ := (Option.bind_some _ _).symm.trans H; rw [hy633]; with_reducible exact H2_) | (have H2_ := (Option.bind_some _ _).symm.trans H; with_reducible exact H2_) | with_reducible exact H | (rw [hy633]; exact H) | exact H
                          have Ny633 := Aside0.mk hy633
                          clear hy633
                          obtain ⟨ji23, hji23⟩ : ∃ j_ : Int, (Int.tmod (Go.bits .and .i64 (rd l0 (ji16)) 65535) x6_1) = j_ := ⟨_, rfl⟩
                          replace H : (if 0 ≤ (ji23) then (if (ji23) < (x4_1.length : Int) then (if (rd_L1 x4_1 (ji23)).length < 17592186044416 then (ratlinelaw10_GraphTrees.l0 k1 l0 ji3 (x4_1.set ((ji23) : Int).toNat ((rd_L1 x4_1 (ji23)) ++ [x6_1])) y633 (wrap64 (x6_1 + 1))) else (none)) else (none)) else (none)) = some r := by first | (rw [hji23] at H; exact H) | (simp only [hji23] at H ⊢; exact H)
                          (try rw [hji23] at Ny633)
                          by_cases c24 : 0 ≤ (ji23)
                          · rw [if_pos c24] at H
                            have c24b0 : decide (0 ≤ (ji23)) = true := decide_eq_true c24
                            clear c24
                            by_cases c25 : (ji23) < (x4_1.length : Int)
                            · rw [if_pos c25] at H
                              have c25b0 : decide ((ji23) < (x4_1.length : Int)) = true := decide_eq_true c25
                              clear c25
                              by_cases c26 : (rd_L1 x4_1 (ji23)).length < 17592186044416
                              · rw [if_pos c26] at H
                                have LMc26 := Aside0.mk c26
                                clear c26
                                obtain ⟨y635, hy635⟩ : ∃ y_ : List Int, y_ = ((rd_L1 x4_1 (ji23)) ++ [x6_1]) := ⟨_, rfl⟩
                                replace H : (ratlinelaw10_GraphTrees.l0 k1 l0 ji3 (x4_1.set ((ji23) : Int).toNat y635) y633 (wrap64 (x6_1 + 1))) = some r := by first | (rw [hy635]; with_reducible exact H) | (have H2_ := (Option.bind_some _ _).symm.trans H; rw [hy635]; with_reducible exact H2_) | (have H2_ := (Option.bind_some _ _).symm.trans H; with_reducible exact H2_) | with_reducible exact H | (rw [hy635]; exact H) | exact H
                                have Ny635 := Aside0.mk hy635
                                clear hy635
                                obtain ⟨y638, hy638⟩ : ∃ y_ : List (List Int), y_ = (x4_1.set ((ji23) : Int).toNat y635) := ⟨_, rfl⟩
                                replace H : (ratlinelaw10_GraphTrees.l0 k1 l0 ji3 y638 y633 (wrap64 (x6_1 + 1))) = some r := by first | (rw [hy638]; with_reducible exact H) | (have H2_ := (Option.bind_some _ _).symm.trans H; rw [hy638]; with_reducible exact H2_) | (have H2_ := (Option.bind_some _ _).symm.trans H; with_reducible exact H2_) | with_reducible exact H | (rw [hy638]; exact H) | exact H
                                have Ny638 := Aside0.mk hy638
                                clear hy638
                                have H' := Aside0.mk H
                                clear H
                                have p632 : 0 ≤ ((ji16) : Int) := of_decide_eq_true (by first | (with_reducible assumption) | assumption)
                                have q632 : (ji16) < (l0.length : Int) := of_decide_eq_true (by first | (with_reducible assumption) | assumption)
                                obtain ⟨ad632, e632, hx632_0⟩ := Kd.at_int HR0.out (ji16) p632 q632
                                cases e632
                                replace hx632_0 := (HB.out.cell (World.block_lt_of_cell? w _ hx632_0)).trans hx632_0
                                replace p632 := eq_true p632
                                replace q632 := eq_true q632
                                have p22 : 0 ≤ (x6_1 : Int) := of_decide_eq_true (by first | (with_reducible assumption) | assumption)
                                have q22 : (x6_1 : Int) < ((x5_1.length : Int) : Int) := of_decide_eq_true (by first | (with_reducible assumption) | assumption)
                                obtain ⟨hx22_0, hf22_0⟩ := Kd.R_celln 0 HO_5.out (x6_1 : Int) p22 q22
                                replace p22 := eq_true p22
                                replace q22 := eq_true q22
                                have HP28 := Kd.R_putg HO_5.out (x6_1 : Int) ji23
                                go_wp2_with (first | ((with_reducible refine gate_store (t := 3) (p := 37) rfl ?_); refine store_event (t := 3) (p := 37) (v := ?vo_w29) (w1 := (wr.setCell ⟨go8, (x6_1 : Int).toNat, none⟩ (.int .i64 ji23))) ?hg ?ho ?hn ?hr ?_; (case ho => rfl); (case hg => rfl); (case hn => rfl); (case hr => first | (go_simp; done) | (go_simp; rfl)); intro w29 hw; have hg : wr.grownBy w29 (some go8) := (by rw [hw]; exact HP28.2); have hp_ : Kd.R (Kd.int .i64) 3 w29 w.heap.size (fun _ => True) (.slice (some ⟨go8, 0, none⟩) x5_1.length co8) y633 := (by rw [hw, Ny633.out]; exact HP28.1); clear HP28; have n0_ := Aside0.mk (Kd.S_after (v := (.slice (some ⟨go8, 0, none⟩) x5_1.length co8)) (v1 := (.slice (some ⟨go8, 0, none⟩) x5_1.length co8)) (ok := (fun _ => True)) (by (with_reducible repeat (first | apply Kd.S_alloc | apply Kd.S_drewN | apply Kd.S_drew)); exact Kd.S_mono HO_4.out (fun _ hk => ⟨trivial, hk⟩)) hg (.inl rfl)); have n1_ := Aside0.mk (hp_); have n2_ := Aside0.mk ((by rw [hw]; exact below_set (HB.out) GB8.out : Below w.heap.size w w29)); clear HO_4; clear HO_5; clear HB; have HO_4 := n0_; have HO_5 := n1_; have HB := n2_; clear n0_ n1_ n2_; clear hg hw hp_))
                                have n0_ := Aside0.mk (Kd.S_drew HO_4.out)
                                have n1_ := Aside0.mk (Kd.R_drew HO_5.out)
                                have n2_ := Aside0.mk (below_drew1 HB.out)
                                clear HO_4
                                clear HO_5
                                clear HB
                                have HO_4 := n0_
                                have HO_5 := n1_
                                have HB := n2_
                                clear n0_ n1_ n2_
                                obtain ⟨Ao31, co31, eo31⟩ := Kd.S_slice HO_4.out
                                (first | subst eo31 | (injection eo31 with f1_ f2_ f3_; have f4_ := f1_.symm; have f5_ := f3_.symm; clear f1_ f2_ f3_; subst f4_; subst f5_))
                                have p634 : 0 ≤ ((ji23) : Int) := of_decide_eq_true (by first | (with_reducible assumption) | assumption)
                                have q634 : (ji23) < (x4_1.length : Int) := of_decide_eq_true (by first | (with_reducible assumption) | assumption)
                                obtain ⟨ad634, A634_0, c634_0, e634, hx634_0, hl634_0, hi634_0⟩ := at_L1 (Kd.S_reads' HO_4.out).2.2 (ji23) p634 q634
                                cases e634
                                obtain ⟨ce634, hce634, hMe634, hcc634⟩ := Kd.S_get HO_4.out [] (ji23) p634 (by first | exact q634 | exact of_decide_eq_true (by first | (with_reducible assumption) | assumption) | (have e_ := (Kd.S_reads' HO_4.out).1; omega))
                                obtain ⟨ve634_0, rfl, ge634_0⟩ := hMe634
                                have hv634_0 := hcc634 0 _ rfl
                                rw [Nat.add_zero, show ((Kd.slice 3 (Kd.int .i64))).sz = 1 from rfl, Nat.mul_one] at hv634_0
                                replace hv634_0 := Option.some.inj (hv634_0.symm.trans hx634_0)
                                rw [hv634_0] at ge634_0
                                have HL634_0 := Aside0.mk (show Kd.R (Kd.int .i64) 3 _ _ _ _ (rd_L1 x4_1 (ji23)) from ge634_0)
                                clear hv634_0 ge634_0
                                have HX634_0 := Aside0.mk hx634_0
                                clear hcc634 hce634
                                have HR634_0 := Aside0.mk hi634_0
                                have HC634_0 := Aside0.mk hl634_0
                                clear hi634_0 hl634_0
                                replace p634 := eq_true p634
                                replace q634 := eq_true q634
                                have n_ := Aside0.mk (Kd.S_mono (ok' := (fun k_ => some k_ ≠ (.slice (some ⟨go8, 0, none⟩) x5_1.length co8 : Value).ownBlock)) HO_4.out (fun k_ hk => hk.2))
                                clear HO_4
                                have HO_4 := n_
                                clear n_
                                obtain ⟨go32, co32, eo32, gb32, gl32, cl32, HG32⟩ := Kd.S_form HO_4.out (by have h_ : ((ji23) : Int) < ((x4_1.length : Int) : Int) := of_decide_eq_true (by first | (with_reducible assumption) | assumption); have h2_ : 0 ≤ ((ji23) : Int) := (of_decide_eq_true (by first | (with_reducible assumption) | assumption)); omega)
                                (first | cases eo32 | (injection eo32 with ea_ en_ ec_; (first | subst ea_ | (injection ea_ with ea_; subst ea_)); subst ec_; clear en_))
                                have GB32 := Aside0.mk gb32
                                have GG32 := Aside0.mk HG32
                                clear gb32 gl32 HG32
                                (first | simp only [add_plain] at hx634_0 | skip)
                                obtain ⟨oki32, ce32, hcl32, hM32, hcc32, _, _, hH32⟩ := Kd.S_elem HO_4.out [] ((ji23) : Int) (of_decide_eq_true (by first | (with_reducible assumption) | assumption)) (by have h_ : ((ji23) : Int) < ((x4_1.length : Int) : Int) := of_decide_eq_true (by first | (with_reducible assumption) | assumption); first | exact h_ | (have e_ := (Kd.S_reads' HO_4.out).1; omega) | simpa using h_)
                                obtain ⟨ve32_0, rfl, ge32_0⟩ := hM32
                                have hv32 := hcc32 0 _ rfl
                                have hX32 := HX634_0.out
                                (try simp only [add_plain] at hX32)
                                (try simp only [Nat.add_zero] at hv32)
                                (try rw [show ((Kd.slice 3 (Kd.int .i64))).sz = 1 from rfl, Nat.mul_one] at hv32)
                                replace hv32 := Option.some.inj (hv32.symm.trans hX32)
                                subst hv32
                                clear hX32 hcc32 hcl32
                                have UU32 := Aside0.mk (show Kd.R (Kd.int .i64) 3 _ w.heap.size oki32 (.slice A634_0 (rd_L1 x4_1 (ji23)).length c634_0) (rd_L1 x4_1 (ji23)) from ge32_0)
                                have HH32 := Aside0.mk hH32
                                have HN32 := Aside0.mk (Kd.S_reads' HO_4.out).1
                                clear hH32 ge32_0
                                obtain ⟨hU_, _⟩ := Kd.R_celln 0 HO_5.out (x6_1 : Int) (of_eq_true p22) (of_eq_true q22)
                                have hV_ : rdOf 0 y633 (x6_1 : Int) = ji23 := by
                                  have h0_ := of_eq_true p22
                                  have h1_ := of_eq_true q22
                                  rw [Ny633.out]
                                  unfold rdOf
                                  rw [List.getD_eq_getElem?_getD, List.getElem?_set]
                                  have h2_ : (x6_1).toNat < x5_1.length := by omega
                                  simp [h2_]
                                rw [hV_] at hU_
                                refine start_ (n := 17) (S := fun w' => w'.cell? ⟨go32, ((ji23)).toNat, none⟩ = some (.slice A634_0 (rd_L1 x4_1 (ji23)).length c634_0) ∧ w'.cell? ⟨go8, (x6_1).toNat, none⟩ = some (.int .i64 (ji23))) (ds := [16]) #[false, false, false, false, false, false, false, false, false, false, false, false, false, false, false, false, false] (by kernel_rfl) rfl rfl ⟨hx634_0, hU_⟩ (fun hHeld => ?_); refine with_tabW ratlinelaw10_GraphTrees.tab9 ratlinelaw10_GraphTrees.bits9 (fun HT_ HW_ => ?_)
                                generalize w29.drew = w30 at HO_4 HO_5 HB GG32 HH32 HL634_0 HR634_0 HX634_0 UU32 hx634_0 hU_ hHeld ⊢
                                refine pure_ (i := 0) (N := some 38) (v := ?_) (a' := ?_) #[true, false, false, false, false, false, false, false, false, false, false, false, false, false, false, false, false] rfl rfl (any_of HT_.out (by kernel_rfl)) (fun _ _ _ h => h) (Or.inl ⟨by rfl, ?_⟩) ?_ ?_
                                rotate_left
                                · intro w'
                                  go_simp
                                  with_reducible rfl
                                rotate_left
                                · simp only [Act.put, List.setIfInBounds_toArray, List.set_cons_zero, List.set_cons_succ, i64_w, i32_w]
                                  rfl
                                refine pure_ (i := 1) (N := some 39) (v := ?_) (a' := ?_) #[true, true, false, false, false, false, false, false, false, false, false, false, false, false, false, false, false] rfl rfl (any_of HT_.out (by kernel_rfl)) (fun _ _ _ h => h) (Or.inl ⟨by rfl, ?_⟩) ?_ ?_
                                rotate_left
                                · intro w'
                                  go_simp
                                  with_reducible rfl
                                rotate_left
                                · simp only [Act.put, List.setIfInBounds_toArray, List.set_cons_zero, List.set_cons_succ, i64_w, i32_w]
                                  rfl
                                refine pure_ (i := 2) (N := some 40) (v := ?_) (a' := ?_) #[true, true, true, false, false, false, false, false, false, false, false, false, false, false, false, false, false] rfl rfl (any_of HT_.out (by kernel_rfl)) (fun _ _ _ h => h) (Or.inl ⟨by rfl, ?_⟩) ?_ ?_
                                rotate_left
                                · intro w'
                                  go_simp
                                  with_reducible rfl
                                rotate_left
                                · simp only [Act.put, List.setIfInBounds_toArray, List.set_cons_zero, List.set_cons_succ, i64_w, i32_w]
                                  rfl
                                refine pure_ (i := 3) (N := some 41) (v := ?_) (a' := ?_) #[true, true, true, true, false, false, false, false, false, false, false, false, false, false, false, false, false] rfl rfl (any_of HT_.out (by kernel_rfl)) (fun _ _ _ h => h) (Or.inl ⟨by rfl, ?_⟩) ?_ ?_
                                rotate_left
                                · intro w'
                                  go_simp
                                  with_reducible rfl
                                rotate_left
                                · simp only [Act.put, List.setIfInBounds_toArray, List.set_cons_zero, List.set_cons_succ, i64_w, i32_w]
                                  rfl
                                refine pure_ (i := 5) (N := some 43) (v := ?_) (a' := ?_) #[true, true, true, true, false, true, false, false, false, false, false, false, false, false, false, false, false] rfl rfl (any_of HT_.out (by kernel_rfl)) (fun _ _ _ h => h) (Or.inl ⟨by rfl, ?_⟩) ?_ ?_
                                rotate_left
                                · intro w'
                                  go_simp
                                  with_reducible rfl
                                rotate_left
                                · simp only [Act.put, List.setIfInBounds_toArray, List.set_cons_zero, List.set_cons_succ, i64_w, i32_w]
                                  rfl
                                refine pure_ (i := 6) (N := some 44) (v := ?_) (a' := ?_) #[true, true, true, true, false, true, true, false, false, false, false, false, false, false, false, false, false] rfl rfl (any_of HT_.out (by kernel_rfl)) (fun _ _ _ h => h) (Or.inl ⟨by rfl, ?_⟩) ?_ ?_
                                rotate_left
                                · intro w'
                                  go_simp
                                  with_reducible rfl
                                rotate_left
                                · simp only [Act.put, List.setIfInBounds_toArray, List.set_cons_zero, List.set_cons_succ, i64_w, i32_w]
                                  rfl
                                refine pure_ (i := 7) (N := some 45) (v := ?_) (a' := ?_) #[true, true, true, true, false, true, true, true, false, false, false, false, false, false, false, false, false] rfl rfl (any_of HT_.out (by kernel_rfl)) (fun _ _ _ h => h) (Or.inl ⟨by rfl, ?_⟩) ?_ ?_
                                rotate_left
                                · intro w'
                                  go_simp
                                  with_reducible rfl
                                rotate_left
                                · simp only [Act.put, List.setIfInBounds_toArray, List.set_cons_zero, List.set_cons_succ, i64_w, i32_w]
                                  rfl
                                refine pure_ (i := 8) (N := some 46) (v := ?_) (a' := ?_) #[true, true, true, true, false, true, true, true, true, false, false, false, false, false, false, false, false] rfl rfl (any_of HT_.out (by kernel_rfl)) (fun _ _ _ h => h) (Or.inl ⟨by rfl, ?_⟩) ?_ ?_
                                rotate_left
                                · intro w'
                                  go_simp
                                  with_reducible rfl
                                rotate_left
                                · simp only [Act.put, List.setIfInBounds_toArray, List.set_cons_zero, List.set_cons_succ, i64_w, i32_w]
                                  rfl
                                refine pure_ (i := 12) (N := some 50) (v := ?_) (a' := ?_) #[true, true, true, true, false, true, true, true, true, false, false, false, true, false, false, false, false] rfl rfl (any_of HT_.out (by kernel_rfl)) (fun _ _ _ h => h) (Or.inl ⟨by rfl, ?_⟩) ?_ ?_
                                rotate_left
                                · intro w'
                                  go_simp
                                  with_reducible rfl
                                rotate_left
                                · simp only [Act.put, List.setIfInBounds_toArray, List.set_cons_zero, List.set_cons_succ, i64_w, i32_w]
                                  rfl
                                refine take_ (i := 4) (N := some 42) (v := ?_) (a' := ?_) #[true, true, true, true, true, true, true, true, true, false, false, false, true, false, false, false, false] rfl rfl (take_ofW HT_.out HW_.out (by kernel_rfl)) (fun _ _ _ h => h) (Or.inl ⟨by rfl, ?_⟩) hHeld ?_ ?_
                                rotate_left
                                · rintro w' ⟨s0, s1⟩
                                  go_simp
                                  with_reducible rfl
                                rotate_left
                                · simp only [Act.put, List.setIfInBounds_toArray, List.set_cons_zero, List.set_cons_succ, i64_w, i32_w]
                                  rfl
                                refine take_ (i := 9) (N := some 47) (v := ?_) (a' := ?_) #[true, true, true, true, true, true, true, true, true, true, false, false, true, false, false, false, false] rfl rfl (take_ofW HT_.out HW_.out (by kernel_rfl)) (fun _ _ _ h => h) (Or.inl ⟨by rfl, ?_⟩) hHeld ?_ ?_
                                rotate_left
                                · rintro w' ⟨s0, s1⟩
                                  go_simp
                                  with_reducible rfl
                                rotate_left
                                · simp only [Act.put, List.setIfInBounds_toArray, List.set_cons_zero, List.set_cons_succ, i64_w, i32_w]
                                  rfl
                                refine pure_ (i := 10) (N := some 48) (v := ?_) (a' := ?_) #[true, true, true, true, true, true, true, true, true, true, true, false, true, false, false, false, false] rfl rfl (any_of HT_.out (by kernel_rfl)) (fun _ _ _ h => h) (Or.inl ⟨by rfl, ?_⟩) ?_ ?_
                                rotate_left
                                · intro w'
                                  go_simp
                                  with_reducible rfl
                                rotate_left
                                · simp only [Act.put, List.setIfInBounds_toArray, List.set_cons_zero, List.set_cons_succ, i64_w, i32_w]
                                  rfl
                                refine take_ (i := 11) (N := some 49) (v := ?_) (a' := ?_) #[true, true, true, true, true, true, true, true, true, true, true, true, true, false, false, false, false] rfl rfl (take_ofW HT_.out HW_.out (by kernel_rfl)) (fun _ _ _ h => h) (Or.inl ⟨by rfl, ?_⟩) hHeld ?_ ?_
                                rotate_left
                                · rintro w' ⟨s0, s1⟩
                                  go_simp
                                  with_reducible rfl
                                rotate_left
                                · simp only [Act.put, List.setIfInBounds_toArray, List.set_cons_zero, List.set_cons_succ, i64_w, i32_w]
                                  rfl
                                refine one_ (i := 13) (N := some 51) #[true, true, true, true, true, true, true, true, true, true, true, true, true, true, false, false, false] rfl rfl (one_of HT_.out (by kernel_rfl)) (by decide) (fun K hK => ?_)
                                refine value_ (w1 := ?_) (v := ?_) (by rfl) rfl ?_ ?_
                                rotate_left 2
                                · go_simp
                                  constructor
                                  · rfl
                                  · rfl
                                refine hK.out _ _ ⟨(World.cell?_alloc_lt _ _ _ (World.block_lt_of_cell? _ _ (hHeld.1))).trans (hHeld.1), (World.cell?_alloc_lt _ _ _ (World.block_lt_of_cell? _ _ (hHeld.2))).trans (hHeld.2)⟩ (fun hHeld => ?_)
                                clear hK K
                                refine norm_ (a' := ?_) ?_ ?_
                                rotate_left
                                · show Act.put _ (some 51) _ = _
                                  simp only [Act.put, List.setIfInBounds_toArray, List.set_cons_zero, List.set_cons_succ, i64_w, i32_w]
                                  rfl
                                refine one_ (i := 14) (N := some 52) #[true, true, true, true, true, true, true, true, true, true, true, true, true, true, true, false, false] rfl rfl (one_of HT_.out (by kernel_rfl)) (by decide) (fun K hK => ?_)
                                refine Kd.R_append_step (Kd.int .i64) (w0 := w) w.heap.size (by rfl) (.tmp 49) (.tmp 51) 25 3 (.int .i64 0) 8 rfl Try.underlying25 info3 rfl (by decide) (by omega) (.slice A634_0 (rd_L1 x4_1 (ji23)).length c634_0) (rd_L1 x4_1 (ji23)) x6_1 [.int .i64 x6_1] (fun k_ => oki32 k_ ∨ ((fun k_ => some k_ ≠ (.slice (some ⟨go8, 0, none⟩) x5_1.length co8 : Value).ownBlock)) k_ ∧ w30.heap.size ≤ k_) (fun _ => False) rfl rfl ?aP (fun _ hk => hk.elim) ?aF ?aO ?aB ?aS ?aL ?_
                                (case aP => exact rfl)
                                (case aB => exact (by repeat (first | (with_reducible first | exact HB.out | apply below_alloc | apply pw_below_drewN | apply below_drew1) | exact HB.out)))
                                (case aF => exact (fun k_ hk => .inr ⟨Kd.fresh' (Kd.R_lt (by (with_reducible repeat (first | apply Kd.R_alloc | apply Kd.R_drewN | apply Kd.R_drew)); exact HO_5.out)) k_ hk, hk⟩))
                                (case aO => exact (by (with_reducible repeat (first | apply Kd.R_alloc | apply Kd.R_drewN | apply Kd.R_drew)); exact Kd.R_mono UU32.out (fun _ hk => .inl hk)))
                                (case aS => exact (below_size (by repeat (first | (with_reducible first | exact HB.out | apply below_alloc | apply pw_below_drewN | apply below_drew1) | exact HB.out))))
                                (case aL => have := LMc26.out; omega)
                                intro v636 w33 ho hb hg hat
                                (first | have HS0_ := cell_grown hg (hHeld.1) (by first | (rw [add_block]; exact (fun e_ => ((HL634_0.out.1 _ e_.symm).2) rfl)) | (show some (Addr.add _ _).block ≠ _; rw [add_block]; exact (fun e_ => ((HL634_0.out.1 _ e_.symm).2) rfl)) | exact (fun e_ => ((HL634_0.out.1 _ e_.symm).2) rfl)) | have HS0_ := cell_grown hg (cell_unalloc (hHeld.1) (by first | (rw [add_block]; exact Kd.S_lt HO_4.out _ rfl) | (show (Addr.add _ _).block < _; rw [add_block]; exact Kd.S_lt HO_4.out _ rfl) | exact Kd.S_lt HO_4.out _ rfl)) (by first | (rw [add_block]; exact (fun e_ => ((HL634_0.out.1 _ e_.symm).2) rfl)) | (show some (Addr.add _ _).block ≠ _; rw [add_block]; exact (fun e_ => ((HL634_0.out.1 _ e_.symm).2) rfl)) | exact (fun e_ => ((HL634_0.out.1 _ e_.symm).2) rfl)))
                                (first | have HS1_ := cell_grown hg (hHeld.2) (by first | exact (fun e_ => ((HL634_0.out.1 _ e_.symm).1.2) rfl) | exact (fun e_ => ((HL634_0.out.1 _ e_).1.2) rfl)) | have HS1_ := cell_grown hg (cell_unalloc (hHeld.2) (by first | exact Kd.R_lt HO_5.out _ rfl | exact Kd.R_lt (by (with_reducible repeat (first | apply Kd.R_alloc | apply Kd.R_drewN | apply Kd.R_drew)); exact HO_5.out) _ rfl)) (by first | exact (fun e_ => ((HL634_0.out.1 _ e_.symm).1.2) rfl) | exact (fun e_ => ((HL634_0.out.1 _ e_).1.2) rfl)))
                                rw [← Ny635.out] at ho
                                have n0_ := Aside0.mk (Kd.R_grown2 (by (with_reducible repeat (first | apply Kd.R_alloc | apply Kd.R_drewN | apply Kd.R_drew)); exact HO_5.out) rfl hg (fun k_ e_ => (HL634_0.out.1 k_ e_).1.2))
                                have n1_ := Aside0.mk (hb)
                                have n2_ := Aside0.mk (Kd.H_grown (Kd.H_widen (by repeat (first | exact HH32.out | refine Kd.H_alloc ?_ _ | refine Kd.H_drewN ?_ _ | refine Kd.H_drew ?_))) hg (fun k_ e_ => .inl (UU32.out.1 k_ e_)))
                                have n3_ := Aside0.mk (ho)
                                clear HO_5
                                clear HB
                                clear HH32
                                clear HO_4
                                clear UU32
                                clear HL634_0
                                have HO_5 := n0_
                                have HB := n1_
                                have HH32 := n2_
                                have HO637 := n3_
                                clear n0_ n1_ n2_ n3_
                                clear ho hb hg hat
                                have p27 : 0 ≤ ((ji23) : Int) := of_decide_eq_true (by first | (with_reducible assumption) | assumption)
                                have q27 : ((ji23) : Int) < ((x4_1.length : Int) : Int) := of_decide_eq_true (by first | (with_reducible assumption) | assumption)
                                replace p27 := eq_true p27
                                replace q27 := eq_true q27
                                obtain ⟨Ao36, co36, eo36⟩ := Kd.R_slice HO637.out
                                (first | subst eo36 | (injection eo36 with f1_ f2_ f3_; have f4_ := f1_.symm; have f5_ := f3_.symm; clear f1_ f2_ f3_; subst f4_; subst f5_))
                                obtain ⟨_, _, hraw34, _, _, hcc34, _⟩ := Kd.H_raw HH32.out (of_decide_eq_true (by first | (with_reducible assumption) | assumption)) (by have h_ : ((ji23) : Int) < ((x4_1.length : Int) : Int) := of_decide_eq_true (by first | (with_reducible assumption) | assumption); first | exact h_ | (have e_ := (HN32.out); omega) | simpa using h_)
                                obtain ⟨_, hfr34⟩ := Kd.H_at HH32.out (of_decide_eq_true (by first | (with_reducible assumption) | assumption)) (by have h_ : ((ji23) : Int) < ((x4_1.length : Int) : Int) := of_decide_eq_true (by first | (with_reducible assumption) | assumption); first | exact h_ | (have e_ := (HN32.out); omega) | simpa using h_)
                                have hx34_0 := hcc34 0 _ rfl
                                have hf34_0 := hfr34 0
                                (try simp only [Nat.add_zero] at hx34_0 hf34_0)
                                (try rw [show ((Kd.slice 3 (Kd.int .i64))).sz = 1 from rfl, Nat.mul_one] at hx34_0)
                                (try rw [show ((Kd.slice 3 (Kd.int .i64))).sz = 1 from rfl, Nat.mul_one] at hf34_0)
                                have HP34 := Kd.S_seg0 HH32.out (of_decide_eq_true (by first | (with_reducible assumption) | assumption)) (by have h_ : ((ji23) : Int) < ((x4_1.length : Int) : Int) := of_decide_eq_true (by first | (with_reducible assumption) | assumption); first | exact h_ | (have e_ := (HN32.out); omega) | simpa using h_) (seg := [.slice Ao36 y635.length co36]) (j := 0) (show 1 ≤ 1 from by decide) (x' := y635) (Kd.M_row HO637.out) (fun _ hk => hk)
                                (try simp only [show ((Kd.slice 3 (Kd.int .i64))).sz = 1 from rfl, Nat.mul_one, Nat.add_zero] at HP34)
                                clear hcc34 hfr34
                                have HS34 := HP34.1
                                rw [← Ny638.out] at HS34
                                have HQ34 := Aside0.mk HS34
                                obtain ⟨_, hgg34⟩ := Kd.R_typed hraw34 go32 rfl
                                have GG34_ := Aside0.mk hgg34
                                clear HP34 HS34 hgg34
                                refine hK.out _ _ ⟨HS0_, HS1_⟩ (fun hHeld => ?_)
                                clear hK K
                                refine norm_ (a' := ?_) ?_ ?_
                                rotate_left
                                · show Act.put _ (some 52) _ = _
                                  simp only [Act.put, List.setIfInBounds_toArray, List.set_cons_zero, List.set_cons_succ, i64_w, i32_w]
                                  rfl
                                refine pure_ (i := 15) (N := some 53) (v := ?_) (a' := ?_) #[true, true, true, true, true, true, true, true, true, true, true, true, true, true, true, true, false] rfl rfl (any_of HT_.out (by kernel_rfl)) (fun _ _ _ h => h) (Or.inl ⟨by rfl, ?_⟩) ?_ ?_
                                rotate_left
                                · intro w'
                                  go_simp
                                  with_reducible rfl
                                rotate_left
                                · simp only [Act.put, List.setIfInBounds_toArray, List.set_cons_zero, List.set_cons_succ, i64_w, i32_w]
                                  rfl
                                refine last_ (i := 16) (N := none) #[true, true, true, true, true, true, true, true, true, true, true, true, true, true, true, true, true] rfl rfl (one_of HT_.out (by kernel_rfl)) (by decide) (fun K hK => ?_)
                                refine skip_ (w1 := ?_) (by rfl) rfl ?_ ?_
                                rotate_left
                                · go_simp
                                  rfl
                                refine hK.out _ _ ?_
                                clear hK K
                                refine done_ (done_of HT_.out (by kernel_rfl)) ?_
                                try go_wp2
                                (try simp only [← hl5_1])
                                go_roundg k1
                                case measure => have := HK1.out; omega
                                case rel => exact ⟨(y638), (y633), (wrap64 (x6_1 + 1)), (by first | rfl | (simp; done) | (simp [*]; done)), H', ⟨by have := HK1.out; omega⟩, ⟨by (try simp only [hl5_1]); (with_reducible repeat (first | apply Kd.S_alloc | apply Kd.S_drewN | apply Kd.S_drew)); exact HQ34.out⟩, ⟨by (try simp only [hl5_1]); (with_reducible repeat (first | apply Kd.R_alloc | apply Kd.R_drewN | apply Kd.R_drew)); exact Kd.R_mono (Kd.R_far (p := ⟨go32, ((ji23) : Int).toNat, none⟩) (Kd.R_types HO_5.out GG34_.out (by decide)) (fun _ hk => hk.2) (.slice Ao36 y635.length co36)) (fun _ hk => trivial)⟩, ⟨by repeat (first | (with_reducible first | exact HB.out | apply below_alloc | apply pw_below_drewN | apply below_drew1 | refine below_set ?_ GB32.out) | exact HB.out)⟩⟩
                              · rw [if_neg c26] at H
                                exact absurd H (by simp)
                            · rw [if_neg c25] at H
                              exact absurd H (by simp)
                          · rw [if_neg c24] at H
                            exact absurd H (by simp)
                        · rw [if_neg c21] at H
                          exact absurd H (by simp)
                      · rw [if_neg c20] at H
                        exact absurd H (by simp)
                  · rw [if_neg c18] at H
                    exact absurd H (by simp)
                · rw [if_neg c17] at H
                  exact absurd H (by simp)
              · rw [if_neg c15] at H
                have c15b0 : decide (x6_1 < ji3) = false := decide_eq_false c15
                clear c15
                replace H := Option.bind_eq_some_iff.mp H
                obtain ⟨t639, A370, H⟩ := H
                replace H : ((graph_Order.f k1 x4_1).bind fun t642 => ((ratlineref11_SameInts.f k1 t639 x5_1).bind fun t645 => (if t645 = true then (if (t642.length : Int) = ji3 then ((graph_Loops.f k1 x4_1).bind fun t646 => (if (t646.length : Int) = 0 then ((graph_Cyclic.f k1 x4_1 ([] : List Bool)).bind fun t649 => (ratlinelaw10_GraphTrees.j1 k1 ji3 x5_1 t639 t642 t649)) else (ratlinelaw10_GraphTrees.j1 k1 ji3 x5_1 t639 t642 true))) else (ratlinelaw10_GraphTrees.j1 k1 ji3 x5_1 t639 t642 true)) else (ratlinelaw10_GraphTrees.j1 k1 ji3 x5_1 t639 t642 true)))) = some r := H
                have A37 := Aside0.mk A370
                clear A370
                replace H := Option.bind_eq_some_iff.mp H
                obtain ⟨t642, A380, H⟩ := H
                replace H : ((ratlineref11_SameInts.f k1 t639 x5_1).bind fun t645 => (if t645 = true then (if (t642.length : Int) = ji3 then ((graph_Loops.f k1 x4_1).bind fun t646 => (if (t646.length : Int) = 0 then ((graph_Cyclic.f k1 x4_1 ([] : List Bool)).bind fun t649 => (ratlinelaw10_GraphTrees.j1 k1 ji3 x5_1 t639 t642 t649)) else (ratlinelaw10_GraphTrees.j1 k1 ji3 x5_1 t639 t642 true))) else (ratlinelaw10_GraphTrees.j1 k1 ji3 x5_1 t639 t642 true)) else (ratlinelaw10_GraphTrees.j1 k1 ji3 x5_1 t639 t642 true))) = some r := H
                have A38 := Aside0.mk A380
                clear A380
                have HC39 := Aside0.mk H
                clear H
                obtain ⟨Ao40, co40, eo40⟩ := Kd.S_slice HO_4.out
                subst eo40
                go_upto_region 11 with (first | ((with_reducible refine gate_callee (f := 11) rfl ?_); refine goesL_ (some 55) rfl rfl Try.func11 (by kernel_rfl) rfl #[.slice Ao40 x4_1.length co40] rfl (by (try simp only [List.map_toArray, List.map_cons, List.map_nil]); first | done | rfl | (simp only [List.length_drop, List.length_take]; rfl)) ?_; (with_reducible refine (graph_Doms.calls k1 _ _ x4_1 t639 _ ?side1 ?side2 A37.out).mono ?_); (case side1 => repeat (first | exact (Kd.S_reads' HO_4.out).2.2 | (with_reducible refine Kd.C_alloc ?_ _) | (with_reducible refine Kd.C_drewN ?_ _) | (with_reducible refine Kd.C_drew ?_))); (case side2 => exact (Kd.S_reads' HO_4.out).2.1); rintro e w41 ⟨v640, rfl, ho0, hb⟩; refine ⟨_, rfl, ?_⟩; have n0_ := Aside0.mk (Kd.S_elder' (by (with_reducible repeat (first | apply Kd.S_alloc | apply Kd.S_drewN | apply Kd.S_drew)); exact HO_4.out) (Kd.R_base ho0) hb); have n1_ := Aside0.mk (Kd.R_elder' (by (with_reducible repeat (first | apply Kd.R_alloc | apply Kd.R_drewN | apply Kd.R_drew)); exact HO_5.out) (Kd.R_base ho0) hb); have n2_ := Aside0.mk (Kd.R_lower (Kd.R_new' ho0 (Kd.R_lt (by (with_reducible repeat (first | apply Kd.R_alloc | apply Kd.R_drewN | apply Kd.R_drew)); exact HO_5.out))) (below_size (by repeat (first | (with_reducible first | exact HB.out | apply below_alloc | apply pw_below_drewN | apply below_drew1) | exact HB.out)))); have n3_ := Aside0.mk (below_step (by repeat (first | (with_reducible first | exact HB.out | apply below_alloc | apply pw_below_drewN | apply below_drew1) | exact HB.out)) hb); clear HO_4; clear HO_5; clear HB; have HO_4 := n0_; have HO_5 := n1_; have HO641 := n2_; have HB := n3_; clear n0_ n1_ n2_ n3_; (try clear hb); (try clear hb2); (try clear hk); (try clear hi); (try clear ho0)) | ((with_reducible refine gate_callee (f := 22) rfl ?_); refine goesL_ (some 57) rfl rfl Try.func22 (by kernel_rfl) rfl #[.slice Ao40 x4_1.length co40] rfl (by (try simp only [List.map_toArray, List.map_cons, List.map_nil]); first | done | rfl | (simp only [List.length_drop, List.length_take]; rfl)) ?_; (with_reducible refine (graph_Order.calls k1 _ _ x4_1 t642 _ ?side1 ?side2 A38.out).mono ?_); (case side1 => repeat (first | exact (Kd.S_reads' HO_4.out).2.2 | (with_reducible refine Kd.C_alloc ?_ _) | (with_reducible refine Kd.C_drewN ?_ _) | (with_reducible refine Kd.C_drew ?_))); (case side2 => exact (Kd.S_reads' HO_4.out).2.1); rintro e w42 ⟨v643, rfl, ho0, hb⟩; refine ⟨_, rfl, ?_⟩; have n0_ := Aside0.mk (Kd.S_below (by (with_reducible repeat (first | apply Kd.S_alloc | apply Kd.S_drewN | apply Kd.S_drew)); exact HO_4.out) hb); have n1_ := Aside0.mk (Kd.R_below (by (with_reducible repeat (first | apply Kd.R_alloc | apply Kd.R_drewN | apply Kd.R_drew)); exact HO_5.out) hb); have n2_ := Aside0.mk (Kd.R_below (by (with_reducible repeat (first | apply Kd.R_alloc | apply Kd.R_drewN | apply Kd.R_drew)); exact HO641.out) hb); have n3_ := Aside0.mk (Kd.V_lower (Kd.V_mono (ok' := fun k_ => some k_ ≠ (.slice Ao40 x4_1.length co40 : Value).ownBlock ∧ some k_ ≠ (.slice (some ⟨go8, 0, none⟩) x5_1.length co8 : Value).ownBlock ∧ some k_ ≠ (v640 : Value).ownBlock) ho0 (fun k_ hk_ => ⟨(Kd.fresh' (Kd.S_lt (by (with_reducible repeat (first | apply Kd.S_alloc | apply Kd.S_drewN | apply Kd.S_drew)); exact HO_4.out)) k_ hk_), (Kd.fresh' (Kd.R_lt (by (with_reducible repeat (first | apply Kd.R_alloc | apply Kd.R_drewN | apply Kd.R_drew)); exact HO_5.out)) k_ hk_), (Kd.fresh' (Kd.R_lt (by (with_reducible repeat (first | apply Kd.R_alloc | apply Kd.R_drewN | apply Kd.R_drew)); exact HO641.out)) k_ hk_)⟩)) (below_size (by repeat (first | (with_reducible first | exact HB.out | apply below_alloc | apply pw_below_drewN | apply below_drew1) | exact HB.out)))); have n4_ := Aside0.mk (below_step (by repeat (first | (with_reducible first | exact HB.out | apply below_alloc | apply pw_below_drewN | apply below_drew1) | exact HB.out)) hb); clear HO_4; clear HO_5; clear HO641; clear HB; have HO_4 := n0_; have HO_5 := n1_; have HO641 := n2_; have HO644 := n3_; have HB := n4_; clear n0_ n1_ n2_ n3_ n4_; (try clear hb); (try clear hb2); (try clear hk); (try clear hi); (try clear ho0)))
                (try simp only [Act.put, List.setIfInBounds_toArray, List.set_cons_zero, List.set_cons_succ])
                go_cut [77] (fun v77 wc => ∃ (kq : Nat) (x77_38 : Bool), v77 = .bool x77_38 ∧ Aside0 (ratlinelaw10_GraphTrees.j1 kq ji3 x5_1 t639 t642 x77_38 = some r) ∧ Aside0 (kq ≤ k1) ∧ Aside0 (Kd.R (Kd.int .i64) 3 wc w.heap.size (fun k_ => some k_ ≠ (v640 : Value).ownBlock) (.slice (some ⟨go8, 0, none⟩) x5_1.length co8) x5_1) ∧ Aside0 (Kd.R (Kd.int .i64) 3 wc w.heap.size (fun k_ => some k_ ≠ ((.slice (some ⟨go8, 0, none⟩) x5_1.length co8) : Value).ownBlock) v640 t639) ∧ Aside0 (Kd.V (Kd.int .i64) 3 wc w.heap.size (fun k_ => some k_ ≠ ((.slice (some ⟨go8, 0, none⟩) x5_1.length co8) : Value).ownBlock ∧ some k_ ≠ (v640 : Value).ownBlock) v643 t642) ∧ Aside0 (Below w.heap.size w wc))
                case first =>
                  have H := HC39.out
                  clear HC39
                  replace H := Option.bind_eq_some_iff.mp H
                  obtain ⟨t645, A430, H⟩ := H
                  replace H : (if t645 = true then (if (t642.length : Int) = ji3 then ((graph_Loops.f k1 x4_1).bind fun t646 => (if (t646.length : Int) = 0 then ((graph_Cyclic.f k1 x4_1 ([] : List Bool)).bind fun t649 => (ratlinelaw10_GraphTrees.j1 k1 ji3 x5_1 t639 t642 t649)) else (ratlinelaw10_GraphTrees.j1 k1 ji3 x5_1 t639 t642 true))) else (ratlinelaw10_GraphTrees.j1 k1 ji3 x5_1 t639 t642 true)) else (ratlinelaw10_GraphTrees.j1 k1 ji3 x5_1 t639 t642 true)) = some r := H
                  have A43 := Aside0.mk A430
                  clear A430
                  by_cases c44 : t645 = true
                  · subst c44
                    have H1 : (if (t642.length : Int) = ji3 then ((graph_Loops.f k1 x4_1).bind fun t646 => (if (t646.length : Int) = 0 then ((graph_Cyclic.f k1 x4_1 ([] : List Bool)).bind fun t649 => (ratlinelaw10_GraphTrees.j1 k1 ji3 x5_1 t639 t642 t649)) else (ratlinelaw10_GraphTrees.j1 k1 ji3 x5_1 t639 t642 true))) else (ratlinelaw10_GraphTrees.j1 k1 ji3 x5_1 t639 t642 true)) = some r := by rw [if_pos rfl] at H; exact H
                    clear H
                    have H := H1
                    clear H1
                    by_cases c45 : (t642.length : Int) = ji3
                    · rw [if_pos c45] at H
                      have c45b0 : ((t642.length : Int) == ji3) = true := beq_iff_eq.mpr c45
                      have c45b1 : ((t642.length : Int) != ji3) = false := bne_eq_false_iff_eq.mpr c45
                      clear c45
                      (first | rw [c45b0] | (simp only [i64_w, i32_w]; rw [c45b0]) | skip)
                      replace H := Option.bind_eq_some_iff.mp H
                      obtain ⟨t646, A460, H⟩ := H
                      replace H : (if (t646.length : Int) = 0 then ((graph_Cyclic.f k1 x4_1 ([] : List Bool)).bind fun t649 => (ratlinelaw10_GraphTrees.j1 k1 ji3 x5_1 t639 t642 t649)) else (ratlinelaw10_GraphTrees.j1 k1 ji3 x5_1 t639 t642 true)) = some r := H
                      have A46 := Aside0.mk A460
                      clear A460
                      by_cases c47 : (t646.length : Int) = 0
                      · rw [if_pos c47] at H
                        have c47b0 : ((t646.length : Int) == 0) = true := beq_iff_eq.mpr c47
                        have c47b1 : ((t646.length : Int) != 0) = false := bne_eq_false_iff_eq.mpr c47
                        clear c47
                        replace H := Option.bind_eq_some_iff.mp H
                        obtain ⟨t649, A480, H⟩ := H
                        replace H : (ratlinelaw10_GraphTrees.j1 k1 ji3 x5_1 t639 t642 t649) = some r := H
                        have A48 := Aside0.mk A480
                        clear A480
                        have H' := Aside0.mk H
                        clear H
                        obtain ⟨Ao49, co49, eo49⟩ := Kd.R_slice HO641.out
                        subst eo49
                        go_wp2_with (first | ((with_reducible refine gate_callee (f := 12) rfl ?_); refine goesL_ (some 60) rfl rfl Try.func12 (by kernel_rfl) rfl #[.slice Ao49 t639.length co49, .slice (some ⟨go8, 0, none⟩) x5_1.length co8] rfl (by (try simp only [List.map_toArray, List.map_cons, List.map_nil]); first | done | rfl | (simp only [List.length_drop, List.length_take]; rfl)) ?_; (with_reducible refine (ratlineref11_SameInts.calls k1 _ _ t639 _ _ x5_1 true _ ?side1 ?side2 ?side3 ?side4 A43.out).mono ?_); (case side1 => repeat (first | exact (Kd.R_reads' HO641.out).2.2 | (with_reducible refine Kd.C_alloc ?_ _) | (with_reducible refine Kd.C_drewN ?_ _) | (with_reducible refine Kd.C_drew ?_))); (case side2 => exact (Kd.R_reads' HO641.out).2.1); (case side3 => repeat (first | exact (Kd.R_reads' HO_5.out).2.2 | (with_reducible refine Kd.C_alloc ?_ _) | (with_reducible refine Kd.C_drewN ?_ _) | (with_reducible refine Kd.C_drew ?_))); (case side4 => exact (Kd.R_reads' HO_5.out).2.1); rintro e w' ⟨rfl, ⟨nd, rfl⟩⟩; refine ⟨_, rfl, ?_⟩; obtain ⟨Ao50, co50, eo50⟩ := Kd.V_slice HO644.out; subst eo50) | (go_at_call 17; (with_reducible refine (graph_Loops.calls k1 _ _ x4_1 t646 _ ?side1 ?side2 A46.out).mono ?_); (case side1 => repeat (first | exact (Kd.S_reads' HO_4.out).2.2 | (with_reducible refine Kd.C_alloc ?_ _) | (with_reducible refine Kd.C_drewN ?_ _) | (with_reducible refine Kd.C_drew ?_))); (case side2 => exact (Kd.S_reads' HO_4.out).2.1); rintro e w51 ⟨v647, rfl, ho0, hb⟩; have n0_ := Aside0.mk (Kd.S_below (by (with_reducible repeat (first | apply Kd.S_alloc | apply Kd.S_drewN | apply Kd.S_drew)); exact HO_4.out) hb); have n1_ := Aside0.mk (Kd.R_below (by (with_reducible repeat (first | apply Kd.R_alloc | apply Kd.R_drewN | apply Kd.R_drew)); exact HO_5.out) hb); have n2_ := Aside0.mk (Kd.R_below (by (with_reducible repeat (first | apply Kd.R_alloc | apply Kd.R_drewN | apply Kd.R_drew)); exact HO641.out) hb); have n3_ := Aside0.mk (Kd.V_below (by (with_reducible repeat (first | apply Kd.V_alloc | apply Kd.V_drewN | apply Kd.V_drew)); exact HO644.out) hb); have n4_ := Aside0.mk (Kd.V_lower (Kd.V_mono (ok' := fun k_ => some k_ ≠ (.slice Ao40 x4_1.length co40 : Value).ownBlock ∧ some k_ ≠ (.slice (some ⟨go8, 0, none⟩) x5_1.length co8 : Value).ownBlock ∧ some k_ ≠ (.slice Ao49 t639.length co49 : Value).ownBlock) ho0 (fun k_ hk_ => ⟨(Kd.fresh' (Kd.S_lt (by (with_reducible repeat (first | apply Kd.S_alloc | apply Kd.S_drewN | apply Kd.S_drew)); exact HO_4.out)) k_ hk_), (Kd.fresh' (Kd.R_lt (by (with_reducible repeat (first | apply Kd.R_alloc | apply Kd.R_drewN | apply Kd.R_drew)); exact HO_5.out)) k_ hk_), (Kd.fresh' (Kd.R_lt (by (with_reducible repeat (first | apply Kd.R_alloc | apply Kd.R_drewN | apply Kd.R_drew)); exact HO641.out)) k_ hk_)⟩)) (below_size (by repeat (first | (with_reducible first | exact HB.out | apply below_alloc | apply pw_below_drewN | apply below_drew1) | exact HB.out)))); have n5_ := Aside0.mk (below_step (by repeat (first | (with_reducible first | exact HB.out | apply below_alloc | apply pw_below_drewN | apply below_drew1) | exact HB.out)) hb); clear HO_4; clear HO_5; clear HO641; clear HO644; clear HB; have HO_4 := n0_; have HO_5 := n1_; have HO641 := n2_; have HO644 := n3_; have HO648 := n4_; have HB := n5_; clear n0_ n1_ n2_ n3_ n4_ n5_; (try clear hb); (try clear hb2); (try clear hk); (try clear hi); (try clear ho0); obtain ⟨Ao52, co52, eo52⟩ := Kd.V_slice HO648.out; subst eo52) | (go_at_call 24; (refine (graph_Cyclic.calls k1 _ _ x4_1 _ _ ([] : List Bool) t649 _ ?side1 ?side2 ?side3 ?side4 A48.out).mono ?_); (case side1 => repeat (first | exact (Kd.S_reads' HO_4.out).2.2 | (with_reducible refine Kd.C_alloc ?_ _) | (with_reducible refine Kd.C_drewN ?_ _) | (with_reducible refine Kd.C_drew ?_))); (case side2 => exact (Kd.S_reads' HO_4.out).2.1); (case side3 => exact Kd.C_nil _ _); (case side4 => exact Nat.le_refl _); rintro e w53 ⟨rfl, hb⟩; have n0_ := Aside0.mk (Kd.S_below (by (with_reducible repeat (first | apply Kd.S_alloc | apply Kd.S_drewN | apply Kd.S_drew)); exact HO_4.out) hb); have n1_ := Aside0.mk (Kd.R_below (by (with_reducible repeat (first | apply Kd.R_alloc | apply Kd.R_drewN | apply Kd.R_drew)); exact HO_5.out) hb); have n2_ := Aside0.mk (Kd.R_below (by (with_reducible repeat (first | apply Kd.R_alloc | apply Kd.R_drewN | apply Kd.R_drew)); exact HO641.out) hb); have n3_ := Aside0.mk (Kd.V_below (by (with_reducible repeat (first | apply Kd.V_alloc | apply Kd.V_drewN | apply Kd.V_drew)); exact HO644.out) hb); have n4_ := Aside0.mk (Kd.V_below (by (with_reducible repeat (first | apply Kd.V_alloc | apply Kd.V_drewN | apply Kd.V_drew)); exact HO648.out) hb); have n5_ := Aside0.mk (below_step (by repeat (first | (with_reducible first | exact HB.out | apply below_alloc | apply pw_below_drewN | apply below_drew1) | exact HB.out)) hb); clear HO_4; clear HO_5; clear HO641; clear HO644; clear HO648; clear HB; have HO_4 := n0_; have HO_5 := n1_; have HO641 := n2_; have HO644 := n3_; have HO648 := n4_; have HB := n5_; clear n0_ n1_ n2_ n3_ n4_ n5_; (try clear hb); (try clear hb2); (try clear hk); (try clear hi)))
                        go_meet
                        case rel => exact ⟨_, (t649), (by first | rfl | (simp; done) | (simp [*]; done)), H', ⟨by have := HK1.out; first | omega | exact Nat.le_refl _⟩, ⟨by (try simp only [hl5_1]); (with_reducible repeat (first | apply Kd.R_alloc | apply Kd.R_drewN | apply Kd.R_drew)); exact Kd.R_mono HO_5.out (fun _ hk => hk.2)⟩, ⟨by (try simp only [hl5_1]); (with_reducible repeat (first | apply Kd.R_alloc | apply Kd.R_drewN | apply Kd.R_drew)); exact Kd.R_mono HO641.out (fun _ hk => hk.2)⟩, ⟨by (try simp only [hl5_1]); (with_reducible repeat (first | apply Kd.V_alloc | apply Kd.V_drewN | apply Kd.V_drew)); exact Kd.V_mono HO644.out (fun _ hk => ⟨hk.2.1, hk.2.2⟩)⟩, ⟨by repeat (first | (with_reducible first | exact HB.out | apply below_alloc | apply pw_below_drewN | apply below_drew1) | exact HB.out)⟩⟩
                      · rw [if_neg c47] at H
                        have c47b0 : ((t646.length : Int) == 0) = false := beq_eq_false_iff_ne.mpr c47
                        have c47b1 : ((t646.length : Int) != 0) = true := bne_iff_ne.mpr c47
                        have c47b2 : ¬ (t646 = []) := fun h_ => c47 (by rw [h_]; rfl)
                        have H' := Aside0.mk H
                        clear H
                        obtain ⟨Ao54, co54, eo54⟩ := Kd.R_slice HO641.out
                        subst eo54
                        go_wp2_with (first | ((with_reducible refine gate_callee (f := 12) rfl ?_); refine goesL_ (some 60) rfl rfl Try.func12 (by kernel_rfl) rfl #[.slice Ao54 t639.length co54, .slice (some ⟨go8, 0, none⟩) x5_1.length co8] rfl (by (try simp only [List.map_toArray, List.map_cons, List.map_nil]); first | done | rfl | (simp only [List.length_drop, List.length_take]; rfl)) ?_; (with_reducible refine (ratlineref11_SameInts.calls k1 _ _ t639 _ _ x5_1 true _ ?side1 ?side2 ?side3 ?side4 A43.out).mono ?_); (case side1 => repeat (first | exact (Kd.R_reads' HO641.out).2.2 | (with_reducible refine Kd.C_alloc ?_ _) | (with_reducible refine Kd.C_drewN ?_ _) | (with_reducible refine Kd.C_drew ?_))); (case side2 => exact (Kd.R_reads' HO641.out).2.1); (case side3 => repeat (first | exact (Kd.R_reads' HO_5.out).2.2 | (with_reducible refine Kd.C_alloc ?_ _) | (with_reducible refine Kd.C_drewN ?_ _) | (with_reducible refine Kd.C_drew ?_))); (case side4 => exact (Kd.R_reads' HO_5.out).2.1); rintro e w' ⟨rfl, ⟨nd, rfl⟩⟩; refine ⟨_, rfl, ?_⟩; obtain ⟨Ao55, co55, eo55⟩ := Kd.V_slice HO644.out; subst eo55) | (go_at_call 17; (with_reducible refine (graph_Loops.calls k1 _ _ x4_1 t646 _ ?side1 ?side2 A46.out).mono ?_); (case side1 => repeat (first | exact (Kd.S_reads' HO_4.out).2.2 | (with_reducible refine Kd.C_alloc ?_ _) | (with_reducible refine Kd.C_drewN ?_ _) | (with_reducible refine Kd.C_drew ?_))); (case side2 => exact (Kd.S_reads' HO_4.out).2.1); rintro e w56 ⟨v647, rfl, ho0, hb⟩; have n0_ := Aside0.mk (Kd.S_below (by (with_reducible repeat (first | apply Kd.S_alloc | apply Kd.S_drewN | apply Kd.S_drew)); exact HO_4.out) hb); have n1_ := Aside0.mk (Kd.R_below (by (with_reducible repeat (first | apply Kd.R_alloc | apply Kd.R_drewN | apply Kd.R_drew)); exact HO_5.out) hb); have n2_ := Aside0.mk (Kd.R_below (by (with_reducible repeat (first | apply Kd.R_alloc | apply Kd.R_drewN | apply Kd.R_drew)); exact HO641.out) hb); have n3_ := Aside0.mk (Kd.V_below (by (with_reducible repeat (first | apply Kd.V_alloc | apply Kd.V_drewN | apply Kd.V_drew)); exact HO644.out) hb); have n4_ := Aside0.mk (Kd.V_lower (Kd.V_mono (ok' := fun k_ => some k_ ≠ (.slice Ao40 x4_1.length co40 : Value).ownBlock ∧ some k_ ≠ (.slice (some ⟨go8, 0, none⟩) x5_1.length co8 : Value).ownBlock ∧ some k_ ≠ (.slice Ao54 t639.length co54 : Value).ownBlock) ho0 (fun k_ hk_ => ⟨(Kd.fresh' (Kd.S_lt (by (with_reducible repeat (first | apply Kd.S_alloc | apply Kd.S_drewN | apply Kd.S_drew)); exact HO_4.out)) k_ hk_), (Kd.fresh' (Kd.R_lt (by (with_reducible repeat (first | apply Kd.R_alloc | apply Kd.R_drewN | apply Kd.R_drew)); exact HO_5.out)) k_ hk_), (Kd.fresh' (Kd.R_lt (by (with_reducible repeat (first | apply Kd.R_alloc | apply Kd.R_drewN | apply Kd.R_drew)); exact HO641.out)) k_ hk_)⟩)) (below_size (by repeat (first | (with_reducible first | exact HB.out | apply below_alloc | apply pw_below_drewN | apply below_drew1) | exact HB.out)))); have n5_ := Aside0.mk (below_step (by repeat (first | (with_reducible first | exact HB.out | apply below_alloc | apply pw_below_drewN | apply below_drew1) | exact HB.out)) hb); clear HO_4; clear HO_5; clear HO641; clear HO644; clear HB; have HO_4 := n0_; have HO_5 := n1_; have HO641 := n2_; have HO644 := n3_; have HO648 := n4_; have HB := n5_; clear n0_ n1_ n2_ n3_ n4_ n5_; (try clear hb); (try clear hb2); (try clear hk); (try clear hi); (try clear ho0); obtain ⟨Ao57, co57, eo57⟩ := Kd.V_slice HO648.out; subst eo57))
                        go_meet
                        case rel => exact ⟨_, (true), (by first | rfl | (simp; done) | (simp [*]; done)), H', ⟨by have := HK1.out; first | omega | exact Nat.le_refl _⟩, ⟨by (try simp only [hl5_1]); (with_reducible repeat (first | apply Kd.R_alloc | apply Kd.R_drewN | apply Kd.R_drew)); exact Kd.R_mono HO_5.out (fun _ hk => hk.2)⟩, ⟨by (try simp only [hl5_1]); (with_reducible repeat (first | apply Kd.R_alloc | apply Kd.R_drewN | apply Kd.R_drew)); exact Kd.R_mono HO641.out (fun _ hk => hk.2)⟩, ⟨by (try simp only [hl5_1]); (with_reducible repeat (first | apply Kd.V_alloc | apply Kd.V_drewN | apply Kd.V_drew)); exact Kd.V_mono HO644.out (fun _ hk => ⟨hk.2.1, hk.2.2⟩)⟩, ⟨by repeat (first | (with_reducible first | exact HB.out | apply below_alloc | apply pw_below_drewN | apply below_drew1) | exact HB.out)⟩⟩
                    · rw [if_neg c45] at H
                      have c45b0 : ((t642.length : Int) == ji3) = false := beq_eq_false_iff_ne.mpr c45
                      have c45b1 : ((t642.length : Int) != ji3) = true := bne_iff_ne.mpr c45
                      (first | rw [c45b0] | (simp only [i64_w, i32_w]; rw [c45b0]) | skip)
                      have H' := Aside0.mk H
                      clear H
                      obtain ⟨Ao58, co58, eo58⟩ := Kd.R_slice HO641.out
                      subst eo58
                      go_wp2_with (first | ((with_reducible refine gate_callee (f := 12) rfl ?_); refine goesL_ (some 60) rfl rfl Try.func12 (by kernel_rfl) rfl #[.slice Ao58 t639.length co58, .slice (some ⟨go8, 0, none⟩) x5_1.length co8] rfl (by (try simp only [List.map_toArray, List.map_cons, List.map_nil]); first | done | rfl | (simp only [List.length_drop, List.length_take]; rfl)) ?_; (with_reducible refine (ratlineref11_SameInts.calls k1 _ _ t639 _ _ x5_1 true _ ?side1 ?side2 ?side3 ?side4 A43.out).mono ?_); (case side1 => repeat (first | exact (Kd.R_reads' HO641.out).2.2 | (with_reducible refine Kd.C_alloc ?_ _) | (with_reducible refine Kd.C_drewN ?_ _) | (with_reducible refine Kd.C_drew ?_))); (case side2 => exact (Kd.R_reads' HO641.out).2.1); (case side3 => repeat (first | exact (Kd.R_reads' HO_5.out).2.2 | (with_reducible refine Kd.C_alloc ?_ _) | (with_reducible refine Kd.C_drewN ?_ _) | (with_reducible refine Kd.C_drew ?_))); (case side4 => exact (Kd.R_reads' HO_5.out).2.1); rintro e w' ⟨rfl, ⟨nd, rfl⟩⟩; refine ⟨_, rfl, ?_⟩; obtain ⟨Ao59, co59, eo59⟩ := Kd.V_slice HO644.out; subst eo59))
                      go_meet
                      case rel => exact ⟨_, (true), (by first | rfl | (simp; done) | (simp [*]; done)), H', ⟨by have := HK1.out; first | omega | exact Nat.le_refl _⟩, ⟨by (try simp only [hl5_1]); (with_reducible repeat (first | apply Kd.R_alloc | apply Kd.R_drewN | apply Kd.R_drew)); exact Kd.R_mono HO_5.out (fun _ hk => hk.2)⟩, ⟨by (try simp only [hl5_1]); (with_reducible repeat (first | apply Kd.R_alloc | apply Kd.R_drewN | apply Kd.R_drew)); exact Kd.R_mono HO641.out (fun _ hk => hk.2)⟩, ⟨by (try simp only [hl5_1]); (with_reducible repeat (first | apply Kd.V_alloc | apply Kd.V_drewN | apply Kd.V_drew)); exact Kd.V_mono HO644.out (fun _ hk => ⟨hk.2.1, hk.2.2⟩)⟩, ⟨by repeat (first | (with_reducible first | exact HB.out | apply below_alloc | apply pw_below_drewN | apply below_drew1) | exact HB.out)⟩⟩
                  · replace c44 := Bool.eq_false_iff.mpr c44
                    subst c44
                    have H1 : (ratlinelaw10_GraphTrees.j1 k1 ji3 x5_1 t639 t642 true) = some r := by rw [if_neg (show ¬ (false = true) by decide)] at H; exact H
                    clear H
                    have H := H1
                    clear H1
                    have H' := Aside0.mk H
                    clear H
                    obtain ⟨Ao60, co60, eo60⟩ := Kd.R_slice HO641.out
                    subst eo60
                    go_wp2_with (first | ((with_reducible refine gate_callee (f := 12) rfl ?_); refine goesL_ (some 60) rfl rfl Try.func12 (by kernel_rfl) rfl #[.slice Ao60 t639.length co60, .slice (some ⟨go8, 0, none⟩) x5_1.length co8] rfl (by (try simp only [List.map_toArray, List.map_cons, List.map_nil]); first | done | rfl | (simp only [List.length_drop, List.length_take]; rfl)) ?_; (with_reducible refine (ratlineref11_SameInts.calls k1 _ _ t639 _ _ x5_1 false _ ?side1 ?side2 ?side3 ?side4 A43.out).mono ?_); (case side1 => repeat (first | exact (Kd.R_reads' HO641.out).2.2 | (with_reducible refine Kd.C_alloc ?_ _) | (with_reducible refine Kd.C_drewN ?_ _) | (with_reducible refine Kd.C_drew ?_))); (case side2 => exact (Kd.R_reads' HO641.out).2.1); (case side3 => repeat (first | exact (Kd.R_reads' HO_5.out).2.2 | (with_reducible refine Kd.C_alloc ?_ _) | (with_reducible refine Kd.C_drewN ?_ _) | (with_reducible refine Kd.C_drew ?_))); (case side4 => exact (Kd.R_reads' HO_5.out).2.1); rintro e w' ⟨rfl, ⟨nd, rfl⟩⟩; refine ⟨_, rfl, ?_⟩))
                    go_meet
                    case rel => exact ⟨_, (true), (by first | rfl | (simp; done) | (simp [*]; done)), H', ⟨by have := HK1.out; first | omega | exact Nat.le_refl _⟩, ⟨by (try simp only [hl5_1]); (with_reducible repeat (first | apply Kd.R_alloc | apply Kd.R_drewN | apply Kd.R_drew)); exact Kd.R_mono HO_5.out (fun _ hk => hk.2)⟩, ⟨by (try simp only [hl5_1]); (with_reducible repeat (first | apply Kd.R_alloc | apply Kd.R_drewN | apply Kd.R_drew)); exact Kd.R_mono HO641.out (fun _ hk => hk.2)⟩, ⟨by (try simp only [hl5_1]); (with_reducible repeat (first | apply Kd.V_alloc | apply Kd.V_drewN | apply Kd.V_drew)); exact Kd.V_mono HO644.out (fun _ hk => ⟨hk.2.1, hk.2.2⟩)⟩, ⟨by repeat (first | (with_reducible first | exact HB.out | apply below_alloc | apply pw_below_drewN | apply below_drew1) | exact HB.out)⟩⟩
                case rest =>
                  clear HC39
                  try clear c1
                  try clear c2
                  try clear p2
                  try clear q2
                  try clear hx2
                  try clear hf2
                  try clear c3
                  try clear hx3
                  try clear hf3
                  try clear c4
                  try clear c4b0
                  try clear c4b1
                  try clear c5
                  try clear c5b0
                  try clear c5b1
                  try clear c6
                  try clear c6b0
                  try clear c6b1
                  try clear p6
                  try clear q6
                  try clear hx6
                  try clear c7
                  try clear c7b0
                  try clear c7b1
                  try clear p8
                  try clear q8
                  try clear hx8
                  try clear qi8
                  try clear hf8
                  try clear c11
                  try clear c12
                  try clear c15
                  try clear c15b0
                  try clear c17
                  try clear c17b0
                  try clear c18
                  try clear c18b0
                  try clear c19
                  try clear c19b0
                  try clear c19b1
                  try clear c20
                  try clear c20b0
                  try clear c21
                  try clear c21b0
                  try clear c22
                  try clear p22
                  try clear q22
                  try clear hx22
                  try clear hf22
                  try clear c24
                  try clear c24b0
                  try clear c25
                  try clear c25b0
                  try clear c26
                  try clear p27
                  try clear q27
                  try clear c32
                  try clear c34
                  try clear hx34
                  try clear hf34
                  try clear c44
                  try clear c45
                  try clear c45b0
                  try clear c45b1
                  try clear c47
                  try clear c47b0
                  try clear c47b1
                  try clear c47b2
                  try clear hx22_0
                  try clear hx34_0
                  try clear hx632_0
                  try clear hx634_0
                  try clear hx8_0
                  try clear p2
                  try clear p22
                  try clear p27
                  try clear p632
                  try clear p634
                  try clear p8
                  try clear q22
                  try clear q27
                  try clear q632
                  try clear q634
                  try clear q8
                  obtain ⟨kq, x77_38, rfl, HA, HJ38, HO_5, HO_7, HO_8, HB⟩ := hcut
                  cases kq with
                  | zero => exact absurd HA.out (by simp [ratlinelaw10_GraphTrees.j1])
                  | succ kj38 =>
                    have H := HA.out
                    clear HA
                    simp only [ratlinelaw10_GraphTrees.j1] at H
                    by_cases c61 : x77_38 = true
                    · subst c61
                      have H1 : (some false) = some r := by rw [if_pos rfl] at H; exact H
                      clear H
                      have H := H1
                      clear H1
                      exact absurd (Option.some.inj H) (by rw [hr.out]; decide)
                    · replace c61 := Bool.eq_false_iff.mpr c61
                      subst c61
                      have H1 : (if 0 ≤ ji3 then (if (ji3 : Int).toNat ≤ 35184372088832 then (ratlinelaw10_GraphTrees.l1 kj38 ji3 x5_1 t639 t642 (List.replicate (ji3 : Int).toNat 0) 0) else (none)) else (none)) = some r := by rw [if_neg (show ¬ (false = true) by decide)] at H; exact H
                      clear H
                      have H := H1
                      clear H1
                      by_cases c62 : 0 ≤ ji3
                      · rw [if_pos c62] at H
                        have c62b0 := eq_true c62
                        have c62b1 : decide (0 ≤ ji3) = true := decide_eq_true c62
                        clear c62
                        by_cases c63 : (ji3 : Int).toNat ≤ 35184372088832
                        · rw [if_pos c63] at H
                          have c63b0 := eq_true c63
                          have c63b1 : decide ((ji3 : Int).toNat ≤ 35184372088832) = true := decide_eq_true c63
                          clear c63
                          obtain ⟨y650, hy650⟩ : ∃ y_ : List Int, y_ = (List.replicate (ji3 : Int).toNat 0) := ⟨_, rfl⟩
                          replace H : (ratlinelaw10_GraphTrees.l1 kj38 ji3 x5_1 t639 t642 y650 0) = some r := by first | (rw [hy650]; with_reducible exact H) | (have H2_ := (Option.bind_some _ _).symm.trans H; rw [hy650]; with_reducible exact H2_) | (have H2_ := (Option.bind_some _ _).symm.trans H; with_reducible exact H2_) | with_reducible exact H | (rw [hy650]; exact H) | exact H
                          have Ny650 := Aside0.mk hy650
                          clear hy650
                          have H' := Aside0.mk H
                          clear H
                          go_wp2_with (first | ((with_reducible refine gate_dst (N := 79) rfl ?_); (try (refine gate_guard (by rfl) ?_; dsimp only)); refine Kd.R_make (Kd.int .i64) _ 3 rfl (N := 79) rfl 25 _ _ rfl ji3 rfl rfl Try.underlying25 (.int .i64 0) 8 info3 rfl (by decide) (by omega) 0 (ok := fun _ => True) (okp := fun _ => True) rfl (fun _ hk => hk) trivial (of_decide_eq_true (by first | (with_reducible assumption) | assumption)) (Nat.le_trans (Nat.mul_le_mul_right _ (of_decide_eq_true (by first | (with_reducible assumption) | assumption) : ji3.toNat ≤ 35184372088832)) (by omega)) (Below.refl _ _) (Nat.le_refl _) ?_; intro v651 w64 ho65 hb hg_ hnew_; clear hg_ hnew_; (first | rw [← Ny650.out] at ho65 | (simp only [Int.reduceToNat] at ho65; rw [← Ny650.out] at ho65)); have n0_ := Aside0.mk (Kd.R_elder' (by (with_reducible repeat (first | apply Kd.R_alloc | apply Kd.R_drewN | apply Kd.R_drew)); exact HO_5.out) (Kd.R_base ho65) hb); have n1_ := Aside0.mk (Kd.R_elder' (by (with_reducible repeat (first | apply Kd.R_alloc | apply Kd.R_drewN | apply Kd.R_drew)); exact HO_7.out) (Kd.R_base ho65) hb); have n2_ := Aside0.mk (Kd.V_elder' (by (with_reducible repeat (first | apply Kd.V_alloc | apply Kd.V_drewN | apply Kd.V_drew)); exact HO_8.out) (Kd.R_base ho65) hb); have n3_ := Aside0.mk (Kd.R_lower (Kd.R_new' (Kd.R_new' ho65 (Kd.R_lt (by (with_reducible repeat (first | apply Kd.R_alloc | apply Kd.R_drewN | apply Kd.R_drew)); exact HO_5.out))) (Kd.R_lt (by (with_reducible repeat (first | apply Kd.R_alloc | apply Kd.R_drewN | apply Kd.R_drew)); exact HO_7.out))) (below_size (by repeat (first | (with_reducible first | exact HB.out | apply below_alloc | apply pw_below_drewN | apply below_drew1) | exact HB.out)))); have n4_ := Aside0.mk (below_step (by repeat (first | (with_reducible first | exact HB.out | apply below_alloc | apply pw_below_drewN | apply below_drew1) | exact HB.out)) hb); clear HO_5; clear HO_7; clear HO_8; clear HB; have HO_5 := n0_; have HO_7 := n1_; have HO_8 := n2_; have HO652 := n3_; have HB := n4_; clear n0_ n1_ n2_ n3_ n4_; clear hb ho65))
                          go_loopg [10] kj38 (fun kq v10 w' => ∃ (x9_3 : List Int) (x10_3 : Int), v10 = .int .i64 x10_3 ∧ Aside0 (ratlinelaw10_GraphTrees.l1 kq ji3 x5_1 t639 t642 x9_3 x10_3 = some r) ∧ Aside0 (kq ≤ kj38) ∧ Aside0 (Kd.R (Kd.int .i64) 3 w' w.heap.size (fun k_ => some k_ ≠ (v640 : Value).ownBlock ∧ some k_ ≠ (v651 : Value).ownBlock) (.slice (some ⟨go8, 0, none⟩) x5_1.length co8) x5_1) ∧ Aside0 (Kd.R (Kd.int .i64) 3 w' w.heap.size (fun k_ => some k_ ≠ ((.slice (some ⟨go8, 0, none⟩) x5_1.length co8) : Value).ownBlock ∧ some k_ ≠ (v651 : Value).ownBlock) v640 t639) ∧ Aside0 (Kd.V (Kd.int .i64) 3 w' w.heap.size (fun k_ => some k_ ≠ ((.slice (some ⟨go8, 0, none⟩) x5_1.length co8) : Value).ownBlock ∧ some k_ ≠ (v640 : Value).ownBlock ∧ some k_ ≠ (v651 : Value).ownBlock) v643 t642) ∧ Aside0 (Kd.R (Kd.int .i64) 3 w' w.heap.size (fun k_ => some k_ ≠ ((.slice (some ⟨go8, 0, none⟩) x5_1.length co8) : Value).ownBlock ∧ some k_ ≠ (v640 : Value).ownBlock) v651 x9_3) ∧ Aside0 (Below w.heap.size w w'))
                          case atStart => exact ⟨(y650), (0), (by first | rfl | (simp; done) | (simp [*]; done)), H', ⟨Nat.le_refl _⟩, ⟨by (try simp only [hl5_1]); (with_reducible repeat (first | apply Kd.R_alloc | apply Kd.R_drewN | apply Kd.R_drew)); exact HO_5.out⟩, ⟨by (try simp only [hl5_1]); (with_reducible repeat (first | apply Kd.R_alloc | apply Kd.R_drewN | apply Kd.R_drew)); exact HO_7.out⟩, ⟨by (try simp only [hl5_1]); (with_reducible repeat (first | apply Kd.V_alloc | apply Kd.V_drewN | apply Kd.V_drew)); exact Kd.V_mono HO_8.out (fun _ hk => ⟨hk.1.1, ⟨hk.1.2, hk.2⟩⟩)⟩, ⟨by (try simp only [hl5_1]); (with_reducible repeat (first | apply Kd.R_alloc | apply Kd.R_drewN | apply Kd.R_drew)); exact Kd.R_mono HO652.out (fun _ hk => ⟨hk.1.2, hk.2⟩)⟩, ⟨by repeat (first | (with_reducible first | exact HB.out | apply below_alloc | apply pw_below_drewN | apply below_drew1) | exact HB.out)⟩⟩
                          case round =>
                            clear H'
                            try clear c1
                            try clear c2
                            try clear p2
                            try clear q2
                            try clear hx2
                            try clear hf2
                            try clear c3
                            try clear hx3
                            try clear hf3
                            try clear c4
                            try clear c4b0
                            try clear c4b1
                            try clear c5
                            try clear c5b0
                            try clear c5b1
                            try clear c6
                            try clear c6b0
                            try clear c6b1
                            try clear p6
                            try clear q6
                            try clear hx6
                            try clear c7
                            try clear c7b0
                            try clear c7b1
                            try clear p8
                            try clear q8
                            try clear hx8
                            try clear qi8
                            try clear hf8
                            try clear c11
                            try clear c12
                            try clear c15
                            try clear c15b0
                            try clear c17
                            try clear c17b0
                            try clear c18
                            try clear c18b0
                            try clear c19
                            try clear c19b0
                            try clear c19b1
                            try clear c20
                            try clear c20b0
                            try clear c21
                            try clear c21b0
                            try clear c22
                            try clear p22
                            try clear q22
                            try clear hx22
                            try clear hf22
                            try clear c24
                            try clear c24b0
                            try clear c25
                            try clear c25b0
                            try clear c26
                            try clear p27
                            try clear q27
                            try clear c32
                            try clear c34
                            try clear hx34
                            try clear hf34
                            try clear c44
                            try clear c45
                            try clear c45b0
                            try clear c45b1
                            try clear c47
                            try clear c47b0
                            try clear c47b1
                            try clear c47b2
                            try clear c61
                            try clear c62
                            try clear c62b0
                            try clear c62b1
                            try clear c63
                            try clear c63b0
                            try clear c63b1
                            try clear p63
                            try clear q63
                            try clear hx63
                            try clear p64
                            try clear hx22_0
                            try clear hx34_0
                            try clear hx632_0
                            try clear hx634_0
                            try clear hx8_0
                            try clear p2
                            try clear p22
                            try clear p27
                            try clear p6
                            try clear p632
                            try clear p634
                            try clear p8
                            try clear q2
                            try clear q22
                            try clear q27
                            try clear q6
                            try clear q632
                            try clear q634
                            try clear q8
                            obtain ⟨x9_3, x10_3, rfl, HA, HK3, HO_5, HO_7, HO_8, HO_9, HB⟩ := hrel
                            cases gk with
                            | zero => exact absurd HA.out (by simp [ratlinelaw10_GraphTrees.l1])
                            | succ k3 =>
                              have H := HA.out
                              clear HA
                              simp only [ratlinelaw10_GraphTrees.l1] at H
                              by_cases c66 : x10_3 < ji3
                              · rw [if_pos c66] at H
                                have c66b0 : decide (x10_3 < ji3) = true := decide_eq_true c66
                                clear c66
                                by_cases c67 : 0 ≤ x10_3
                                · rw [if_pos c67] at H
                                  have c67b0 : decide (0 ≤ x10_3) = true := decide_eq_true c67
                                  clear c67
                                  by_cases c68 : x10_3 < (t642.length : Int)
                                  · rw [if_pos c68] at H
                                    have c68b0 : decide (x10_3 < (t642.length : Int)) = true := decide_eq_true c68
                                    clear c68
                                    by_cases c69 : (rd t642 x10_3) < 0
                                    · rw [if_pos c69] at H
                                      have c69b0 : decide ((rd t642 x10_3) < 0) = true := decide_eq_true c69
                                      clear c69
                                      obtain rfl := Option.some.inj H
                                      obtain ⟨Ao70, co70, eo70⟩ := Kd.V_slice HO_8.out
                                      subst eo70
                                      have p653 : 0 ≤ (x10_3 : Int) := of_decide_eq_true (by first | (with_reducible assumption) | assumption)
                                      have q653 : x10_3 < (t642.length : Int) := of_decide_eq_true (by first | (with_reducible assumption) | assumption)
                                      obtain ⟨ad653, e653, hx653_0⟩ := Kd.at_int (Kd.V_reads' HO_8.out).2.2 x10_3 p653 q653
                                      cases e653
                                      replace p653 := eq_true p653
                                      replace q653 := eq_true q653
                                      go_wp2
                                      go_ret
                                      exact ⟨by first | rfl | (simp [errW_none, errW_some] <;> rfl) | (simp only [← hji2, ← hji3]; first | rfl | (simp [errW_none, errW_some] <;> rfl)) | (simp [*, errW_none, errW_some] <;> rfl), by repeat (first | (with_reducible first | exact HB.out | apply below_alloc | apply pw_below_drewN | apply below_drew1) | exact HB.out)⟩
                                    · rw [if_neg c69] at H
                                      have c69b0 : decide ((rd t642 x10_3) < 0) = false := decide_eq_false c69
                                      clear c69
                                      by_cases c71 : (rd t642 x10_3) ≥ ji3
                                      · rw [if_pos c71] at H
                                        have c71b0 : decide (ji3 ≤ (rd t642 x10_3)) = true := decide_eq_true c71
                                        clear c71
                                        obtain rfl := Option.some.inj H
                                        obtain ⟨Ao72, co72, eo72⟩ := Kd.V_slice HO_8.out
                                        subst eo72
                                        have p653 : 0 ≤ (x10_3 : Int) := of_decide_eq_true (by first | (with_reducible assumption) | assumption)
                                        have q653 : x10_3 < (t642.length : Int) := of_decide_eq_true (by first | (with_reducible assumption) | assumption)
                                        obtain ⟨ad653, e653, hx653_0⟩ := Kd.at_int (Kd.V_reads' HO_8.out).2.2 x10_3 p653 q653
                                        cases e653
                                        replace p653 := eq_true p653
                                        replace q653 := eq_true q653
                                        have p654 : 0 ≤ (x10_3 : Int) := of_decide_eq_true (by first | (with_reducible assumption) | assumption)
                                        have q654 : x10_3 < (t642.length : Int) := of_decide_eq_true (by first | (with_reducible assumption) | assumption)
                                        obtain ⟨ad654, e654, hx654_0⟩ := Kd.at_int (Kd.V_reads' HO_8.out).2.2 x10_3 p654 q654
                                        obtain rfl : ad653 = ad654 := (by injection e654)
                                        replace p654 := eq_true p654
                                        replace q654 := eq_true q654
                                        go_wp2
                                        go_ret
                                        exact ⟨by first | rfl | (simp [errW_none, errW_some] <;> rfl) | (simp only [← hji2, ← hji3]; first | rfl | (simp [errW_none, errW_some] <;> rfl)) | (simp [*, errW_none, errW_some] <;> rfl), by repeat (first | (with_reducible first | exact HB.out | apply below_alloc | apply pw_below_drewN | apply below_drew1) | exact HB.out)⟩
                                      · rw [if_neg c71] at H
                                        have c71b0 : decide (ji3 ≤ (rd t642 x10_3)) = false := decide_eq_false c71
                                        clear c71
                                        by_cases c73 : 0 ≤ (rd t642 x10_3)
                                        · rw [if_pos c73] at H
                                          have c73b0 : decide (0 ≤ (rd t642 x10_3)) = true := decide_eq_true c73
                                          clear c73
                                          by_cases c74 : (rd t642 x10_3) < (x9_3.length : Int)
                                          · rw [if_pos c74] at H
                                            have c74b0 : decide ((rd t642 x10_3) < (x9_3.length : Int)) = true := decide_eq_true c74
                                            clear c74
                                            obtain ⟨y656, hy656⟩ : ∃ y_ : List Int, y_ = (x9_3.set ((rd t642 x10_3) : Int).toNat x10_3) := ⟨_, rfl⟩
                                            replace H : (ratlinelaw10_GraphTrees.l1 k3 ji3 x5_1 t639 t642 y656 (wrap64 (x10_3 + 1))) = some r := by first | (rw [hy656]; with_reducible exact H) | (have H2_ := (Option.bind_some _ _).symm.trans H; rw [hy656]; with_reducible exact H2_) | (have H2_ := (Option.bind_some _ _).symm.trans H; with_reducible exact H2_) | with_reducible exact H | (rw [hy656]; exact H) | exact H
                                            have Ny656 := Aside0.mk hy656
                                            clear hy656
                                            have H' := Aside0.mk H
                                            clear H
                                            obtain ⟨Ao76, co76, eo76⟩ := Kd.V_slice HO_8.out
                                            subst eo76
                                            have p653 : 0 ≤ (x10_3 : Int) := of_decide_eq_true (by first | (with_reducible assumption) | assumption)
                                            have q653 : x10_3 < (t642.length : Int) := of_decide_eq_true (by first | (with_reducible assumption) | assumption)
                                            obtain ⟨ad653, e653, hx653_0⟩ := Kd.at_int (Kd.V_reads' HO_8.out).2.2 x10_3 p653 q653
                                            cases e653
                                            replace p653 := eq_true p653
                                            replace q653 := eq_true q653
                                            have p654 : 0 ≤ (x10_3 : Int) := of_decide_eq_true (by first | (with_reducible assumption) | assumption)
                                            have q654 : x10_3 < (t642.length : Int) := of_decide_eq_true (by first | (with_reducible assumption) | assumption)
                                            obtain ⟨ad654, e654, hx654_0⟩ := Kd.at_int (Kd.V_reads' HO_8.out).2.2 x10_3 p654 q654
                                            obtain rfl : ad653 = ad654 := (by injection e654)
                                            replace p654 := eq_true p654
                                            replace q654 := eq_true q654
                                            have p655 : 0 ≤ (x10_3 : Int) := of_decide_eq_true (by first | (with_reducible assumption) | assumption)
                                            have q655 : x10_3 < (t642.length : Int) := of_decide_eq_true (by first | (with_reducible assumption) | assumption)
                                            obtain ⟨ad655, e655, hx655_0⟩ := Kd.at_int (Kd.V_reads' HO_8.out).2.2 x10_3 p655 q655
                                            obtain rfl : ad653 = ad655 := (by injection e655)
                                            replace p655 := eq_true p655
                                            replace q655 := eq_true q655
                                            have p75 : 0 ≤ ((rd t642 x10_3) : Int) := of_decide_eq_true (by first | (with_reducible assumption) | assumption)
                                            have q75 : ((rd t642 x10_3) : Int) < ((x9_3.length : Int) : Int) := of_decide_eq_true (by first | (with_reducible assumption) | assumption)
                                            obtain ⟨go75, co75, eo75, gb75, gl75, cl75, HG75⟩ := Kd.R_form HO_9.out (by omega)
                                            (first | cases eo75 | (injection eo75 with ea_ en_ ec_; (first | subst ea_ | (injection ea_ with ea_; subst ea_)); subst ec_; clear en_))
                                            have GB75 := Aside0.mk gb75
                                            have GG75 := Aside0.mk HG75
                                            clear gb75 gl75 HG75
                                            obtain ⟨hx75_0, hf75_0⟩ := Kd.R_celln 0 HO_9.out ((rd t642 x10_3) : Int) p75 q75
                                            replace p75 := eq_true p75
                                            replace q75 := eq_true q75
                                            have HP77 := Kd.R_putg HO_9.out ((rd t642 x10_3) : Int) x10_3
                                            go_wp2_with (first | ((with_reducible refine gate_store (t := 3) (p := 104) rfl ?_); refine store_event (t := 3) (p := 104) (v := ?vo_w78) (w1 := (wr.setCell ⟨go75, ((rd t642 x10_3) : Int).toNat, none⟩ (.int .i64 x10_3))) ?hg ?ho ?hn ?hr ?_; (case ho => rfl); (case hg => rfl); (case hn => rfl); (case hr => first | (go_simp; done) | (go_simp; rfl)); intro w78 hw; have hg : wr.grownBy w78 (some go75) := (by rw [hw]; exact HP77.2); have hp_ : Kd.R (Kd.int .i64) 3 w78 w.heap.size (fun k_ => some k_ ≠ (.slice (some ⟨go8, 0, none⟩) x5_1.length co8 : Value).ownBlock ∧ some k_ ≠ (v640 : Value).ownBlock) (.slice (some ⟨go75, 0, none⟩) x9_3.length co75) y656 := (by rw [hw, Ny656.out]; exact HP77.1); clear HP77; have n0_ := Aside0.mk (Kd.R_after (v := (.slice (some ⟨go75, 0, none⟩) x9_3.length co75)) (v1 := (.slice (some ⟨go75, 0, none⟩) x9_3.length co75)) (ok := (fun k_ => some k_ ≠ (v640 : Value).ownBlock)) (by (with_reducible repeat (first | apply Kd.R_alloc | apply Kd.R_drewN | apply Kd.R_drew)); exact HO_5.out) hg (.inl rfl)); have n1_ := Aside0.mk (Kd.R_after (v := (.slice (some ⟨go75, 0, none⟩) x9_3.length co75)) (v1 := (.slice (some ⟨go75, 0, none⟩) x9_3.length co75)) (ok := (fun k_ => some k_ ≠ (.slice (some ⟨go8, 0, none⟩) x5_1.length co8 : Value).ownBlock)) (by (with_reducible repeat (first | apply Kd.R_alloc | apply Kd.R_drewN | apply Kd.R_drew)); exact HO_7.out) hg (.inl rfl)); have n2_ := Aside0.mk (Kd.V_afterv (v := (.slice (some ⟨go75, 0, none⟩) x9_3.length co75)) (v1 := (.slice (some ⟨go75, 0, none⟩) x9_3.length co75)) (ok := (fun k_ => some k_ ≠ (.slice (some ⟨go8, 0, none⟩) x5_1.length co8 : Value).ownBlock ∧ some k_ ≠ (v640 : Value).ownBlock)) (by (with_reducible repeat (first | apply Kd.V_alloc | apply Kd.V_drewN | apply Kd.V_drew)); exact Kd.V_mono HO_8.out (fun _ hk => ⟨⟨hk.1, hk.2.1⟩, hk.2.2⟩)) hg (.inl rfl)); have n3_ := Aside0.mk (hp_); have n4_ := Aside0.mk ((by rw [hw]; exact below_set (HB.out) GB75.out : Below w.heap.size w w78)); clear HO_5; clear HO_7; clear HO_8; clear HO_9; clear HB; have HO_5 := n0_; have HO_7 := n1_; have HO_8 := n2_; have HO_9 := n3_; have HB := n4_; clear n0_ n1_ n2_ n3_ n4_; clear hg hw hp_))
                                            go_roundg k3
                                            case measure => have := HK1.out; have := HJ38.out; have := HK3.out; omega
                                            case rel => exact ⟨(y656), (wrap64 (x10_3 + 1)), (by first | rfl | (simp; done) | (simp [*]; done)), H', ⟨by have := HK1.out; have := HJ38.out; have := HK3.out; omega⟩, ⟨by (try simp only [hl5_1]); (with_reducible repeat (first | apply Kd.R_alloc | apply Kd.R_drewN | apply Kd.R_drew)); exact HO_5.out⟩, ⟨by (try simp only [hl5_1]); (with_reducible repeat (first | apply Kd.R_alloc | apply Kd.R_drewN | apply Kd.R_drew)); exact HO_7.out⟩, ⟨by (try simp only [hl5_1]); (with_reducible repeat (first | apply Kd.V_alloc | apply Kd.V_drewN | apply Kd.V_drew)); exact Kd.V_mono HO_8.out (fun _ hk => ⟨hk.1.1, ⟨hk.1.2, hk.2⟩⟩)⟩, ⟨by (try simp only [hl5_1]); (with_reducible repeat (first | apply Kd.R_alloc | apply Kd.R_drewN | apply Kd.R_drew)); exact HO_9.out⟩, ⟨by repeat (first | (with_reducible first | exact HB.out | apply below_alloc | apply pw_below_drewN | apply below_drew1) | exact HB.out)⟩⟩
                                          · rw [if_neg c74] at H
                                            exact absurd H (by simp)
                                        · rw [if_neg c73] at H
                                          exact absurd H (by simp)
                                  · rw [if_neg c68] at H
                                    exact absurd H (by simp)
                                · rw [if_neg c67] at H
                                  exact absurd H (by simp)
                              · rw [if_neg c66] at H
                                have c66b0 : decide (x10_3 < ji3) = false := decide_eq_false c66
                                clear c66
                                have H' := Aside0.mk H
                                clear H
                                go_wp2
                                go_loopg [11] k3 (fun kq v11 w' => ∃ (x11_4 : Int), v11 = .int .i64 x11_4 ∧ Aside0 (ratlinelaw10_GraphTrees.l2 kq ji3 x5_1 t639 x9_3 x11_4 = some r) ∧ Aside0 (kq ≤ k3) ∧ Aside0 (Kd.R (Kd.int .i64) 3 w' w.heap.size (fun k_ => some k_ ≠ (v640 : Value).ownBlock ∧ some k_ ≠ (v651 : Value).ownBlock) (.slice (some ⟨go8, 0, none⟩) x5_1.length co8) x5_1) ∧ Aside0 (Kd.R (Kd.int .i64) 3 w' w.heap.size (fun k_ => some k_ ≠ ((.slice (some ⟨go8, 0, none⟩) x5_1.length co8) : Value).ownBlock ∧ some k_ ≠ (v651 : Value).ownBlock) v640 t639) ∧ Aside0 (Kd.R (Kd.int .i64) 3 w' w.heap.size (fun k_ => some k_ ≠ ((.slice (some ⟨go8, 0, none⟩) x5_1.length co8) : Value).ownBlock ∧ some k_ ≠ (v640 : Value).ownBlock) v651 x9_3) ∧ Aside0 (Below w.heap.size w w'))
                                case atStart => exact ⟨(1), (by first | rfl | (simp; done) | (simp [*]; done)), H', ⟨Nat.le_refl _⟩, ⟨by (try simp only [hl5_1]); (with_reducible repeat (first | apply Kd.R_alloc | apply Kd.R_drewN | apply Kd.R_drew)); exact HO_5.out⟩, ⟨by (try simp only [hl5_1]); (with_reducible repeat (first | apply Kd.R_alloc | apply Kd.R_drewN | apply Kd.R_drew)); exact HO_7.out⟩, ⟨by (try simp only [hl5_1]); (with_reducible repeat (first | apply Kd.R_alloc | apply Kd.R_drewN | apply Kd.R_drew)); exact HO_9.out⟩, ⟨by repeat (first | (with_reducible first | exact HB.out | apply below_alloc | apply pw_below_drewN | apply below_drew1) | exact HB.out)⟩⟩
                                case round =>
                                  clear H'
                                  try clear c1
                                  try clear c2
                                  try clear p2
                                  try clear q2
                                  try clear hx2
                                  try clear hf2
                                  try clear c3
                                  try clear hx3
                                  try clear hf3
                                  try clear c4
                                  try clear c4b0
                                  try clear c4b1
                                  try clear c5
                                  try clear c5b0
                                  try clear c5b1
                                  try clear c6
                                  try clear c6b0
                                  try clear c6b1
                                  try clear p6
                                  try clear q6
                                  try clear hx6
                                  try clear c7
                                  try clear c7b0
                                  try clear c7b1
                                  try clear p7
                                  try clear q7
                                  try clear hx7
                                  try clear hf7
                                  try clear p8
                                  try clear q8
                                  try clear hx8
                                  try clear qi8
                                  try clear hf8
                                  try clear c11
                                  try clear c12
                                  try clear c15
                                  try clear c15b0
                                  try clear c17
                                  try clear c17b0
                                  try clear c18
                                  try clear c18b0
                                  try clear c19
                                  try clear c19b0
                                  try clear c19b1
                                  try clear c20
                                  try clear c20b0
                                  try clear c21
                                  try clear c21b0
                                  try clear c22
                                  try clear p22
                                  try clear q22
                                  try clear hx22
                                  try clear hf22
                                  try clear c24
                                  try clear c24b0
                                  try clear c25
                                  try clear c25b0
                                  try clear c26
                                  try clear p27
                                  try clear q27
                                  try clear c32
                                  try clear c34
                                  try clear hx34
                                  try clear hf34
                                  try clear c44
                                  try clear c45
                                  try clear c45b0
                                  try clear c45b1
                                  try clear c47
                                  try clear c47b0
                                  try clear c47b1
                                  try clear c47b2
                                  try clear c61
                                  try clear c62
                                  try clear c62b0
                                  try clear c62b1
                                  try clear c63
                                  try clear c63b0
                                  try clear c63b1
                                  try clear p63
                                  try clear q63
                                  try clear hx63
                                  try clear p64
                                  try clear p65
                                  try clear q65
                                  try clear hx65
                                  try clear c66
                                  try clear c66b0
                                  try clear c67
                                  try clear c67b0
                                  try clear c68
                                  try clear c68b0
                                  try clear c69
                                  try clear c69b0
                                  try clear c71
                                  try clear c71b0
                                  try clear c73
                                  try clear c73b0
                                  try clear c74
                                  try clear c74b0
                                  try clear p75
                                  try clear q75
                                  try clear hx75
                                  try clear hf75
                                  try clear hx22_0
                                  try clear hx34_0
                                  try clear hx632_0
                                  try clear hx634_0
                                  try clear hx653_0
                                  try clear hx654_0
                                  try clear hx655_0
                                  try clear hx75_0
                                  try clear hx8_0
                                  try clear p2
                                  try clear p22
                                  try clear p27
                                  try clear p6
                                  try clear p63
                                  try clear p632
                                  try clear p634
                                  try clear p64
                                  try clear p653
                                  try clear p654
                                  try clear p655
                                  try clear p75
                                  try clear p8
                                  try clear q2
                                  try clear q22
                                  try clear q27
                                  try clear q6
                                  try clear q63
                                  try clear q632
                                  try clear q634
                                  try clear q653
                                  try clear q654
                                  try clear q655
                                  try clear q75
                                  try clear q8
                                  obtain ⟨x11_4, rfl, HA, HK4, HO_5, HO_7, HO_9, HB⟩ := hrel
                                  cases gk with
                                  | zero => exact absurd HA.out (by simp [ratlinelaw10_GraphTrees.l2])
                                  | succ k4 =>
                                    have H := HA.out
                                    clear HA
                                    simp only [ratlinelaw10_GraphTrees.l2] at H
                                    by_cases c79 : x11_4 < ji3
                                    · rw [if_pos c79] at H
                                      have c79b0 : decide (x11_4 < ji3) = true := decide_eq_true c79
                                      clear c79
                                      by_cases c80 : 0 ≤ x11_4
                                      · rw [if_pos c80] at H
                                        have c80b0 : decide (0 ≤ x11_4) = true := decide_eq_true c80
                                        clear c80
                                        by_cases c81 : x11_4 < (x5_1.length : Int)
                                        · rw [if_pos c81] at H
                                          have c81b0 : decide (x11_4 < (x5_1.length : Int)) = true := decide_eq_true c81
                                          clear c81
                                          by_cases c82 : 0 ≤ (rd x5_1 x11_4)
                                          · rw [if_pos c82] at H
                                            have c82b0 : decide (0 ≤ (rd x5_1 x11_4)) = true := decide_eq_true c82
                                            clear c82
                                            by_cases c83 : (rd x5_1 x11_4) < (x9_3.length : Int)
                                            · rw [if_pos c83] at H
                                              have c83b0 : decide ((rd x5_1 x11_4) < (x9_3.length : Int)) = true := decide_eq_true c83
                                              clear c83
                                              by_cases c84 : x11_4 < (x9_3.length : Int)
                                              · rw [if_pos c84] at H
                                                have c84b0 : decide (x11_4 < (x9_3.length : Int)) = true := decide_eq_true c84
                                                clear c84
                                                by_cases c85 : (rd x9_3 (rd x5_1 x11_4)) ≥ (rd x9_3 x11_4)
                                                · rw [if_pos c85] at H
                                                  exact absurd (Option.some.inj H) (by rw [hr.out]; decide)
                                                · rw [if_neg c85] at H
                                                  have c85b0 : decide ((rd x9_3 x11_4) ≤ (rd x9_3 (rd x5_1 x11_4))) = false := decide_eq_false c85
                                                  clear c85
                                                  replace H := Option.bind_eq_some_iff.mp H
                                                  obtain ⟨t662, A880, H⟩ := H
                                                  replace H : (if t662 = true then ((graph_Dominates.f k4 t639 0 x11_4).bind fun t663 => (if t663 = true then ((graph_Dominates.f k4 t639 x11_4 0).bind fun t664 => (if t664 = true then (some false) else (ratlinelaw10_GraphTrees.l2 k4 ji3 x5_1 t639 x9_3 (wrap64 (x11_4 + 1))))) else (some false))) else (some false)) = some r := H
                                                  have A88 := Aside0.mk A880
                                                  clear A880
                                                  by_cases c89 : t662 = true
                                                  · subst c89
                                                    have H1 : ((graph_Dominates.f k4 t639 0 x11_4).bind fun t663 => (if t663 = true then ((graph_Dominates.f k4 t639 x11_4 0).bind fun t664 => (if t664 = true then (some false) else (ratlinelaw10_GraphTrees.l2 k4 ji3 x5_1 t639 x9_3 (wrap64 (x11_4 + 1))))) else (some false))) = some r := by rw [if_pos rfl] at H; exact H
                                                    clear H
                                                    have H := H1
                                                    clear H1
                                                    replace H := Option.bind_eq_some_iff.mp H
                                                    obtain ⟨t663, A900, H⟩ := H
                                                    replace H : (if t663 = true then ((graph_Dominates.f k4 t639 x11_4 0).bind fun t664 => (if t664 = true then (some false) else (ratlinelaw10_GraphTrees.l2 k4 ji3 x5_1 t639 x9_3 (wrap64 (x11_4 + 1))))) else (some false)) = some r := H
                                                    have A90 := Aside0.mk A900
                                                    clear A900
                                                    by_cases c91 : t663 = true
                                                    · subst c91
                                                      have H1 : ((graph_Dominates.f k4 t639 x11_4 0).bind fun t664 => (if t664 = true then (some false) else (ratlinelaw10_GraphTrees.l2 k4 ji3 x5_1 t639 x9_3 (wrap64 (x11_4 + 1))))) = some r := by rw [if_pos rfl] at H; exact H
                                                      clear H
                                                      have H := H1
                                                      clear H1
                                                      replace H := Option.bind_eq_some_iff.mp H
                                                      obtain ⟨t664, A920, H⟩ := H
                                                      replace H : (if t664 = true then (some false) else (ratlinelaw10_GraphTrees.l2 k4 ji3 x5_1 t639 x9_3 (wrap64 (x11_4 + 1)))) = some r := H
                                                      have A92 := Aside0.mk A920
                                                      clear A920
                                                      by_cases c93 : t664 = true
                                                      · subst c93
                                                        have H1 : (some false) = some r := by rw [if_pos rfl] at H; exact H
                                                        clear H
                                                        have H := H1
                                                        clear H1
                                                        exact absurd (Option.some.inj H) (by rw [hr.out]; decide)
                                                      · replace c93 := Bool.eq_false_iff.mpr c93
                                                        subst c93
                                                        have H1 : (ratlinelaw10_GraphTrees.l2 k4 ji3 x5_1 t639 x9_3 (wrap64 (x11_4 + 1))) = some r := by rw [if_neg (show ¬ (false = true) by decide)] at H; exact H
                                                        clear H
                                                        have H := H1
                                                        clear H1
                                                        have H' := Aside0.mk H
                                                        clear H
                                                        have p658 : 0 ≤ (x11_4 : Int) := of_decide_eq_true (by first | (with_reducible assumption) | assumption)
                                                        have q658 : x11_4 < (x5_1.length : Int) := of_decide_eq_true (by first | (with_reducible assumption) | assumption)
                                                        obtain ⟨ad658, e658, hx658_0⟩ := Kd.at_int (Kd.R_reads' HO_5.out).2.2 x11_4 p658 q658
                                                        obtain rfl : (⟨go8, 0, none⟩ : Addr) = ad658 := (by injection e658)
                                                        (first | simp only [add_plain] at hx658_0 | simp only [add_at] at hx658_0 | simp only [Addr.add, Nat.zero_add] at hx658_0 | skip)
                                                        replace p658 := eq_true p658
                                                        replace q658 := eq_true q658
                                                        obtain ⟨Ao98, co98, eo98⟩ := Kd.R_slice HO_9.out
                                                        (first | subst eo98 | (injection eo98 with f1_ f2_ f3_; have f4_ := f1_.symm; have f5_ := f3_.symm; clear f1_ f2_ f3_; subst f4_; subst f5_))
                                                        have p659 : 0 ≤ ((rd x5_1 x11_4) : Int) := of_decide_eq_true (by first | (with_reducible assumption) | assumption)
                                                        have q659 : (rd x5_1 x11_4) < (x9_3.length : Int) := of_decide_eq_true (by first | (with_reducible assumption) | assumption)
                                                        obtain ⟨ad659, e659, hx659_0⟩ := Kd.at_int (Kd.R_reads' HO_9.out).2.2 (rd x5_1 x11_4) p659 q659
                                                        cases e659
                                                        replace p659 := eq_true p659
                                                        replace q659 := eq_true q659
                                                        have p660 : 0 ≤ (x11_4 : Int) := of_decide_eq_true (by first | (with_reducible assumption) | assumption)
                                                        have q660 : x11_4 < (x9_3.length : Int) := of_decide_eq_true (by first | (with_reducible assumption) | assumption)
                                                        obtain ⟨ad660, e660, hx660_0⟩ := Kd.at_int (Kd.R_reads' HO_9.out).2.2 x11_4 p660 q660
                                                        obtain rfl : ad659 = ad660 := (by injection e660)
                                                        replace p660 := eq_true p660
                                                        replace q660 := eq_true q660
                                                        obtain ⟨Ao99, co99, eo99⟩ := Kd.R_slice HO_7.out
                                                        subst eo99
                                                        try go_wp2
                                                        go_quiet ((go_at_call 16; (first | ((with_reducible refine (graph_Dominates.calls k4 _ _ t639 (rd x5_1 x11_4) x11_4 true _ ?side1 ?side2 A88.out).mono ?_); (case side1 => exact Kd.C_drewN (Kd.R_reads' HO_7.out).2.2 _); (case side2 => exact (Kd.R_reads' HO_7.out).2.1); rintro e_ w_ ⟨rfl, ⟨nd_, rfl⟩⟩; exact ⟨rfl, _, World.drewN_drewN _ _ _⟩) | ((with_reducible refine (graph_Dominates.calls k4 _ _ t639 0 x11_4 true _ ?side1 ?side2 A90.out).mono ?_); (case side1 => exact Kd.C_drewN (Kd.R_reads' HO_7.out).2.2 _); (case side2 => exact (Kd.R_reads' HO_7.out).2.1); rintro e_ w_ ⟨rfl, ⟨nd_, rfl⟩⟩; exact ⟨rfl, _, World.drewN_drewN _ _ _⟩) | ((with_reducible refine (graph_Dominates.calls k4 _ _ t639 x11_4 0 false _ ?side1 ?side2 A92.out).mono ?_); (case side1 => exact Kd.C_drewN (Kd.R_reads' HO_7.out).2.2 _); (case side2 => exact (Kd.R_reads' HO_7.out).2.1); rintro e_ w_ ⟨rfl, ⟨nd_, rfl⟩⟩; exact ⟨rfl, _, World.drewN_drewN _ _ _⟩))))
                                                        go_wp2
                                                        go_roundg k4
                                                        case measure => have := HK1.out; have := HJ38.out; have := HK3.out; have := HK4.out; omega
                                                        case rel => exact ⟨(wrap64 (x11_4 + 1)), (by first | rfl | (simp; done) | (simp [*]; done)), H', ⟨by have := HK1.out; have := HJ38.out; have := HK3.out; have := HK4.out; omega⟩, ⟨by (try simp only [hl5_1]); (with_reducible repeat (first | apply Kd.R_alloc | apply Kd.R_drewN | apply Kd.R_drew)); exact HO_5.out⟩, ⟨by (try simp only [hl5_1]); (with_reducible repeat (first | apply Kd.R_alloc | apply Kd.R_drewN | apply Kd.R_drew)); exact HO_7.out⟩, ⟨by (try simp only [hl5_1]); (with_reducible repeat (first | apply Kd.R_alloc | apply Kd.R_drewN | apply Kd.R_drew)); exact HO_9.out⟩, ⟨by repeat (first | (with_reducible first | exact HB.out | apply below_alloc | apply pw_below_drewN | apply below_drew1) | exact HB.out)⟩⟩
                                                    · replace c91 := Bool.eq_false_iff.mpr c91
                                                      subst c91
                                                      have H1 : (some false) = some r := by rw [if_neg (show ¬ (false = true) by decide)] at H; exact H
                                                      clear H
                                                      have H := H1
                                                      clear H1
                                                      exact absurd (Option.some.inj H) (by rw [hr.out]; decide)
                                                  · replace c89 := Bool.eq_false_iff.mpr c89
                                                    subst c89
                                                    have H1 : (some false) = some r := by rw [if_neg (show ¬ (false = true) by decide)] at H; exact H
                                                    clear H
                                                    have H := H1
                                                    clear H1
                                                    exact absurd (Option.some.inj H) (by rw [hr.out]; decide)
                                              · rw [if_neg c84] at H
                                                exact absurd H (by simp)
                                            · rw [if_neg c83] at H
                                              exact absurd H (by simp)
                                          · rw [if_neg c82] at H
                                            exact absurd H (by simp)
                                        · rw [if_neg c81] at H
                                          exact absurd H (by simp)
                                      · rw [if_neg c80] at H
                                        exact absurd H (by simp)
                                    · rw [if_neg c79] at H
                                      have c79b0 : decide (x11_4 < ji3) = false := decide_eq_false c79
                                      clear c79
                                      replace H := Option.bind_eq_some_iff.mp H
                                      obtain ⟨t657, A1060, H⟩ := H
                                      replace H : (some t657) = some r := H
                                      have A106 := Aside0.mk A1060
                                      clear A1060
                                      obtain rfl := Option.some.inj H
                                      go_wp2_with (first | ((with_reducible refine gate_callee (f := 10) rfl ?_); refine goesL_ (some 143) rfl rfl Try.func10 (by kernel_rfl) rfl #[] rfl (by (try simp only [List.map_toArray, List.map_cons, List.map_nil]); first | done | rfl | (simp only [List.length_drop, List.length_take]; rfl)) ?_; (with_reducible refine (ratlinelaw10_awake.calls k4  t657 _ A106.out).mono ?_); rintro e w107 ⟨rfl, hb⟩; refine ⟨_, rfl, ?_⟩; have n0_ := Aside0.mk (Kd.R_below (by (with_reducible repeat (first | apply Kd.R_alloc | apply Kd.R_drewN | apply Kd.R_drew)); exact HO_5.out) hb); have n1_ := Aside0.mk (Kd.R_below (by (with_reducible repeat (first | apply Kd.R_alloc | apply Kd.R_drewN | apply Kd.R_drew)); exact HO_7.out) hb); have n2_ := Aside0.mk (Kd.R_below (by (with_reducible repeat (first | apply Kd.R_alloc | apply Kd.R_drewN | apply Kd.R_drew)); exact HO_9.out) hb); have n3_ := Aside0.mk (below_step (by repeat (first | (with_reducible first | exact HB.out | apply below_alloc | apply pw_below_drewN | apply below_drew1) | exact HB.out)) hb); clear HO_5; clear HO_7; clear HO_9; clear HB; have HO_5 := n0_; have HO_7 := n1_; have HO_9 := n2_; have HB := n3_; clear n0_ n1_ n2_ n3_; (try clear hb); (try clear hb2); (try clear hk); (try clear hi)))
                                      go_ret
                                      exact ⟨by first | rfl | (simp [errW_none, errW_some] <;> rfl) | (simp only [← hji2, ← hji3]; first | rfl | (simp [errW_none, errW_some] <;> rfl)) | (simp [*, errW_none, errW_some] <;> rfl), by repeat (first | (with_reducible first | exact HB.out | apply below_alloc | apply pw_below_drewN | apply below_drew1) | exact HB.out)⟩
                        · rw [if_neg c63] at H
                          exact absurd H (by simp)
                      · rw [if_neg c62] at H
                        exact absurd H (by simp)
        · rw [if_neg c7] at H
          exact absurd H (by simp)
      · rw [if_neg c6] at H
        exact absurd H (by simp)
    · rw [if_neg c5] at H
      exact absurd H (by simp)
  · rw [if_neg c4] at H
    exact absurd H (by simp)

/-- THE ONE PURE STATEMENT of ratlinelaw10_GraphTrees: yours. -/
def ratlinelaw10_GraphTrees.Pure : Prop := ∀ (l0 : List Int), l0.length ≤ maxLen → l0.length * 8 ≤ 140737488351232 → (∀ x ∈ l0, (Lit.int .i64 x).wf = true) → ∃ k, ratlinelaw10_GraphTrees.f k l0 = some true
theorem ratlinelaw10_GraphTrees.walk (P : ratlinelaw10_GraphTrees.Pure) (a0 : Option Addr) (len0 cap0 : Nat) (z0 : List Int) (w : World) (w0 : (a0 = none ∧ len0 = 0 ∧ cap0 = 0 ∧ z0 = []) ∨ ∃ x, a0 = some x ∧ len0 ≤ cap0 ∧ cap0 ≤ maxLen ∧ z0.length = cap0 ∧ (∀ i, i < z0.length → w.cell? (x.add i) = some (.int .i64 (z0.getD i 0))) ∧ ∀ n ∈ z0, (Lit.int .i64 n).wf = true) (y0 : len0 * 8 ≤ 140737488351232) :
    Calls Try.prog 7 #[.slice a0 len0 cap0] w fun e w' => e = .returned (.bool true) ∧ Below w.heap.size w w' := by
  obtain ⟨l0, rfl, hr0, hm0, hw0, hc0⟩ := ReadsInt.ofRowC w0
  obtain ⟨k, h⟩ := P l0 hm0 y0 hw0
  refine (ratlinelaw10_GraphTrees.calls k _ _ l0 true ⟨rfl⟩ w (Kd.C_of_reads (d := (0 : Int)) (h1 := fun _ => rfl) hr0) hc0 h).mono ?_
  rintro e w' ⟨rfl, hd⟩
  exact ⟨rfl, hd⟩

end Go.Proofs.Ytjflddnmkajleaa.PG
