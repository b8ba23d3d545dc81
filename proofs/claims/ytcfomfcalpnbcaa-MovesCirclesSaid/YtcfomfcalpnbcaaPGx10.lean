-- By the session's own program out of the kit's print, with texts of the session's own for the functions that the print does not take.
import Derived.Test.YtcfomfcalpnbcaaPGx0
import Derived.Test.YtcfomfcalpnbcaaPGx6
import Derived.Test.YtcfomfcalpnbcaaPGx7
import Derived.Test.YtcfomfcalpnbcaaPGx8
import Derived.Test.YtcfomfcalpnbcaaPGx9
namespace Go.Proofs.Ytcfomfcalpnbcaa.PG
open Go.RowKit Go.Proofs.YtcfomfcalpnbcaaW.PrintWords Go.Proofs.YtcfomfcalpnbcaaW.PrintLast Go.Proofs.YtcfomfcalpnbcaaW.PrintMore
attribute [local go_sem] max2_int min2_int max_two min_two max_three min_three max_four min_four   -- for this text's walks alone
set_option linter.unusedVariables false
set_option linter.unusedSimpArgs false

/-! ### ratlinelaw19_MovesCircles: function 4 -/
mutual
def ratlinelaw19_MovesCircles.l0 : Nat → Int → Int → List (S34) → Int → Option (Bool)
  | 0, _, _, _, _ => none
  | k + 1, x0, x1, x5, x6 => if x6 < x0 then (if x0 = 0 then (none) else (if x5.length < 8796093022208 then (ratlinelaw19_MovesCircles.l0 k x0 x1 (x5 ++ [(⟨x6, Int.tmod (wrap64 (x6 + 1)) x0⟩ : S34)]) (wrap64 (x6 + 1))) else (none))) else (ratlinelaw19_MovesCircles.l1 k x0 x1 x5 0)
def ratlinelaw19_MovesCircles.l1 : Nat → Int → Int → List (S34) → Int → Option (Bool)
  | 0, _, _, _, _ => none
  | k + 1, x0, x1, x5, x7 => if x7 < x1 then (if x0 = 0 then (none) else (if x5.length < 8796093022208 then (ratlinelaw19_MovesCircles.l1 k x0 x1 (x5 ++ [(⟨wrap64 (x0 + x7), Int.tmod x7 x0⟩ : S34)]) (wrap64 (x7 + 1))) else (none))) else ((moves_Sequence.f k x5 99).bind fun t157 => (ratlinelaw19_MovesCircles.l2 k x0 x1 x5 t157 ([] : List (S35)) 0))
def ratlinelaw19_MovesCircles.l2 : Nat → Int → Int → List (S34) → List (S34) → List (S35) → Int → Option (Bool)
  | 0, _, _, _, _, _, _ => none
  | k + 1, x0, x1, x5, x8, x9, x10 => if x10 < (x8.length : Int) then (if 0 ≤ x10 then (if x9.length < 8796093022208 then (ratlinelaw19_MovesCircles.l2 k x0 x1 x5 x8 (x9 ++ [(⟨(rd_T34 x8 x10).f0, (rd_T34 x8 x10).f1⟩ : S35)]) (wrap64 (x10 + 1))) else (none)) else (none)) else (ratlinelaw19_MovesCircles.l3 k x0 x1 x5 x8 x9 ([] : List Int) 0)
def ratlinelaw19_MovesCircles.l3 : Nat → Int → Int → List (S34) → List (S34) → List (S35) → List Int → Int → Option (Bool)
  | 0, _, _, _, _, _, _, _ => none
  | k + 1, x0, x1, x5, x8, x9, x11, x12 => if x12 < 100 then (if x11.length < 17592186044416 then (ratlinelaw19_MovesCircles.l3 k x0 x1 x5 x8 x9 (x11 ++ [x12]) (wrap64 (x12 + 1))) else (none)) else ((ratlineref18_Do.f k x9 x11).bind fun t168 => (ratlinelaw19_MovesCircles.l4 k x0 x1 x5 x8 t168 0))
def ratlinelaw19_MovesCircles.l4 : Nat → Int → Int → List (S34) → List (S34) → List Int → Int → Option (Bool)
  | 0, _, _, _, _, _, _ => none
  | k + 1, x0, x1, x5, x8, x13, x14 => if x14 < x0 then (if 0 ≤ x14 then (if x14 < (x13.length : Int) then (if x0 = 0 then (none) else (if (rd x13 x14) = (Int.tmod (wrap64 (x14 + 1)) x0) then (ratlinelaw19_MovesCircles.l4 k x0 x1 x5 x8 x13 (wrap64 (x14 + 1))) else (some false))) else (none)) else (none)) else (ratlinelaw19_MovesCircles.l5 k x0 x1 x5 x8 x13 0)
def ratlinelaw19_MovesCircles.l5 : Nat → Int → Int → List (S34) → List (S34) → List Int → Int → Option (Bool)
  | 0, _, _, _, _, _, _ => none
  | k + 1, x0, x1, x5, x8, x13, x15 => if x15 < x1 then (if 0 ≤ (wrap64 (x0 + x15)) then (if (wrap64 (x0 + x15)) < (x13.length : Int) then (if x0 = 0 then (none) else (if (rd x13 (wrap64 (x0 + x15))) = (Int.tmod x15 x0) then (ratlinelaw19_MovesCircles.l5 k x0 x1 x5 x8 x13 (wrap64 (x15 + 1))) else (some false))) else (none)) else (none)) else (if (x8.length : Int) = (wrap64 ((wrap64 (x0 + x1)) + 1)) then ((moves_Cost.f k x5).bind fun t173 => (if t173 = (wrap64 ((wrap64 (x0 + x1)) + 1)) then ((ratlinelaw19_awake.f k).bind fun t174 => (some t174)) else (some false))) else (some false))
end
def ratlinelaw19_MovesCircles.f (k : Nat) (a0 : Int) (a1 : Int) : Option (Bool) := ratlinelaw19_MovesCircles.l0 k (wrap64 ((Int.tmod (Go.bits .and .i64 a0 65535) 29) + 2)) (Go.bits .and .i64 a1 7) ([] : List (S34)) 0
theorem ratlinelaw19_MovesCircles.mono_l : ∀ k, (∀ y0 y1 y2 y3, LeO (ratlinelaw19_MovesCircles.l0 k y0 y1 y2 y3) (ratlinelaw19_MovesCircles.l0 (k + 1) y0 y1 y2 y3)) ∧ (∀ y0 y1 y2 y3, LeO (ratlinelaw19_MovesCircles.l1 k y0 y1 y2 y3) (ratlinelaw19_MovesCircles.l1 (k + 1) y0 y1 y2 y3)) ∧ (∀ y0 y1 y2 y3 y4 y5, LeO (ratlinelaw19_MovesCircles.l2 k y0 y1 y2 y3 y4 y5) (ratlinelaw19_MovesCircles.l2 (k + 1) y0 y1 y2 y3 y4 y5)) ∧ (∀ y0 y1 y2 y3 y4 y5 y6, LeO (ratlinelaw19_MovesCircles.l3 k y0 y1 y2 y3 y4 y5 y6) (ratlinelaw19_MovesCircles.l3 (k + 1) y0 y1 y2 y3 y4 y5 y6)) ∧ (∀ y0 y1 y2 y3 y4 y5, LeO (ratlinelaw19_MovesCircles.l4 k y0 y1 y2 y3 y4 y5) (ratlinelaw19_MovesCircles.l4 (k + 1) y0 y1 y2 y3 y4 y5)) ∧ (∀ y0 y1 y2 y3 y4 y5, LeO (ratlinelaw19_MovesCircles.l5 k y0 y1 y2 y3 y4 y5) (ratlinelaw19_MovesCircles.l5 (k + 1) y0 y1 y2 y3 y4 y5))
  | 0 => ⟨fun _ _ _ _ r h => by simp [ratlinelaw19_MovesCircles.l0] at h, fun _ _ _ _ r h => by simp [ratlinelaw19_MovesCircles.l1] at h, fun _ _ _ _ _ _ r h => by simp [ratlinelaw19_MovesCircles.l2] at h, fun _ _ _ _ _ _ _ r h => by simp [ratlinelaw19_MovesCircles.l3] at h, fun _ _ _ _ _ _ r h => by simp [ratlinelaw19_MovesCircles.l4] at h, fun _ _ _ _ _ _ r h => by simp [ratlinelaw19_MovesCircles.l5] at h⟩
  | k + 1 => by
    obtain ⟨ih0, ih1, ih2, ih3, ih4, ih5⟩ := ratlinelaw19_MovesCircles.mono_l k
    refine ⟨?_, ?_, ?_, ?_, ?_, ?_⟩
    · intro y0 y1 y2 y3
      unfold ratlinelaw19_MovesCircles.l0
      repeat' first
      | (with_reducible exact ih0 _ _ _ _)
      | (with_reducible exact ih1 _ _ _ _)
      | (with_reducible exact ih2 _ _ _ _ _ _)
      | (with_reducible exact ih3 _ _ _ _ _ _ _)
      | (with_reducible exact ih4 _ _ _ _ _ _)
      | (with_reducible exact ih5 _ _ _ _ _ _)
      | (with_reducible exact moves_Cost.mono _ _)
      | (with_reducible exact moves_Sequence.mono _ _ _)
      | (with_reducible exact ratlinelaw19_awake.mono _)
      | (with_reducible exact ratlineref18_Do.mono _ _ _)
      | (with_reducible exact LeO.refl _)
      | (with_reducible exact LeO.none _)
      | (with_reducible refine LeO.ite ?_ ?_)
      | (with_reducible refine LeO.bind ?_ (fun _ => ?_))
      | exact ih0 _ _ _ _
      | exact ih1 _ _ _ _
      | exact ih2 _ _ _ _ _ _
      | exact ih3 _ _ _ _ _ _ _
      | exact ih4 _ _ _ _ _ _
      | exact ih5 _ _ _ _ _ _
      | exact moves_Cost.mono _ _
      | exact moves_Sequence.mono _ _ _
      | exact ratlinelaw19_awake.mono _
      | exact ratlineref18_Do.mono _ _ _
      | exact LeO.none _
      | refine LeO.ite ?_ ?_
      | refine LeO.bind ?_ (fun _ => ?_)
    · intro y0 y1 y2 y3
      unfold ratlinelaw19_MovesCircles.l1
      repeat' first
      | (with_reducible exact ih0 _ _ _ _)
      | (with_reducible exact ih1 _ _ _ _)
      | (with_reducible exact ih2 _ _ _ _ _ _)
      | (with_reducible exact ih3 _ _ _ _ _ _ _)
      | (with_reducible exact ih4 _ _ _ _ _ _)
      | (with_reducible exact ih5 _ _ _ _ _ _)
      | (with_reducible exact moves_Cost.mono _ _)
      | (with_reducible exact moves_Sequence.mono _ _ _)
      | (with_reducible exact ratlinelaw19_awake.mono _)
      | (with_reducible exact ratlineref18_Do.mono _ _ _)
      | (with_reducible exact LeO.refl _)
      | (with_reducible exact LeO.none _)
      | (with_reducible refine LeO.ite ?_ ?_)
      | (with_reducible refine LeO.bind ?_ (fun _ => ?_))
      | exact ih0 _ _ _ _
      | exact ih1 _ _ _ _
      | exact ih2 _ _ _ _ _ _
      | exact ih3 _ _ _ _ _ _ _
      | exact ih4 _ _ _ _ _ _
      | exact ih5 _ _ _ _ _ _
      | exact moves_Cost.mono _ _
      | exact moves_Sequence.mono _ _ _
      | exact ratlinelaw19_awake.mono _
      | exact ratlineref18_Do.mono _ _ _
      | exact LeO.none _
      | refine LeO.ite ?_ ?_
      | refine LeO.bind ?_ (fun _ => ?_)
    · intro y0 y1 y2 y3 y4 y5
      unfold ratlinelaw19_MovesCircles.l2
      repeat' first
      | (with_reducible exact ih0 _ _ _ _)
      | (with_reducible exact ih1 _ _ _ _)
      | (with_reducible exact ih2 _ _ _ _ _ _)
      | (with_reducible exact ih3 _ _ _ _ _ _ _)
      | (with_reducible exact ih4 _ _ _ _ _ _)
      | (with_reducible exact ih5 _ _ _ _ _ _)
      | (with_reducible exact moves_Cost.mono _ _)
      | (with_reducible exact moves_Sequence.mono _ _ _)
      | (with_reducible exact ratlinelaw19_awake.mono _)
      | (with_reducible exact ratlineref18_Do.mono _ _ _)
      | (with_reducible exact LeO.refl _)
      | (with_reducible exact LeO.none _)
      | (with_reducible refine LeO.ite ?_ ?_)
      | (with_reducible refine LeO.bind ?_ (fun _ => ?_))
      | exact ih0 _ _ _ _
      | exact ih1 _ _ _ _
      | exact ih2 _ _ _ _ _ _
      | exact ih3 _ _ _ _ _ _ _
      | exact ih4 _ _ _ _ _ _
      | exact ih5 _ _ _ _ _ _
      | exact moves_Cost.mono _ _
      | exact moves_Sequence.mono _ _ _
      | exact ratlinelaw19_awake.mono _
      | exact ratlineref18_Do.mono _ _ _
      | exact LeO.none _
      | refine LeO.ite ?_ ?_
      | refine LeO.bind ?_ (fun _ => ?_)
    · intro y0 y1 y2 y3 y4 y5 y6
      unfold ratlinelaw19_MovesCircles.l3
      repeat' first
      | (with_reducible exact ih0 _ _ _ _)
      | (with_reducible exact ih1 _ _ _ _)
      | (with_reducible exact ih2 _ _ _ _ _ _)
      | (with_reducible exact ih3 _ _ _ _ _ _ _)
      | (with_reducible exact ih4 _ _ _ _ _ _)
      | (with_reducible exact ih5 _ _ _ _ _ _)
      | (with_reducible exact moves_Cost.mono _ _)
      | (with_reducible exact moves_Sequence.mono _ _ _)
      | (with_reducible exact ratlinelaw19_awake.mono _)
      | (with_reducible exact ratlineref18_Do.mono _ _ _)
      | (with_reducible exact LeO.refl _)
      | (with_reducible exact LeO.none _)
      | (with_reducible refine LeO.ite ?_ ?_)
      | (with_reducible refine LeO.bind ?_ (fun _ => ?_))
      | exact ih0 _ _ _ _
      | exact ih1 _ _ _ _
      | exact ih2 _ _ _ _ _ _
      | exact ih3 _ _ _ _ _ _ _
      | exact ih4 _ _ _ _ _ _
      | exact ih5 _ _ _ _ _ _
      | exact moves_Cost.mono _ _
      | exact moves_Sequence.mono _ _ _
      | exact ratlinelaw19_awake.mono _
      | exact ratlineref18_Do.mono _ _ _
      | exact LeO.none _
      | refine LeO.ite ?_ ?_
      | refine LeO.bind ?_ (fun _ => ?_)
    · intro y0 y1 y2 y3 y4 y5
      unfold ratlinelaw19_MovesCircles.l4
      repeat' first
      | (with_reducible exact ih0 _ _ _ _)
      | (with_reducible exact ih1 _ _ _ _)
      | (with_reducible exact ih2 _ _ _ _ _ _)
      | (with_reducible exact ih3 _ _ _ _ _ _ _)
      | (with_reducible exact ih4 _ _ _ _ _ _)
      | (with_reducible exact ih5 _ _ _ _ _ _)
      | (with_reducible exact moves_Cost.mono _ _)
      | (with_reducible exact moves_Sequence.mono _ _ _)
      | (with_reducible exact ratlinelaw19_awake.mono _)
      | (with_reducible exact ratlineref18_Do.mono _ _ _)
      | (with_reducible exact LeO.refl _)
      | (with_reducible exact LeO.none _)
      | (with_reducible refine LeO.ite ?_ ?_)
      | (with_reducible refine LeO.bind ?_ (fun _ => ?_))
      | exact ih0 _ _ _ _
      | exact ih1 _ _ _ _
      | exact ih2 _ _ _ _ _ _
      | exact ih3 _ _ _ _ _ _ _
      | exact ih4 _ _ _ _ _ _
      | exact ih5 _ _ _ _ _ _
      | exact moves_Cost.mono _ _
      | exact moves_Sequence.mono _ _ _
      | exact ratlinelaw19_awake.mono _
      | exact ratlineref18_Do.mono _ _ _
      | exact LeO.none _
      | refine LeO.ite ?_ ?_
      | refine LeO.bind ?_ (fun _ => ?_)
    · intro y0 y1 y2 y3 y4 y5
      unfold ratlinelaw19_MovesCircles.l5
      repeat' first
      | (with_reducible exact ih0 _ _ _ _)
      | (with_reducible exact ih1 _ _ _ _)
      | (with_reducible exact ih2 _ _ _ _ _ _)
      | (with_reducible exact ih3 _ _ _ _ _ _ _)
      | (with_reducible exact ih4 _ _ _ _ _ _)
      | (with_reducible exact ih5 _ _ _ _ _ _)
      | (with_reducible exact moves_Cost.mono _ _)
      | (with_reducible exact moves_Sequence.mono _ _ _)
      | (with_reducible exact ratlinelaw19_awake.mono _)
      | (with_reducible exact ratlineref18_Do.mono _ _ _)
      | (with_reducible exact LeO.refl _)
      | (with_reducible exact LeO.none _)
      | (with_reducible refine LeO.ite ?_ ?_)
      | (with_reducible refine LeO.bind ?_ (fun _ => ?_))
      | exact ih0 _ _ _ _
      | exact ih1 _ _ _ _
      | exact ih2 _ _ _ _ _ _
      | exact ih3 _ _ _ _ _ _ _
      | exact ih4 _ _ _ _ _ _
      | exact ih5 _ _ _ _ _ _
      | exact moves_Cost.mono _ _
      | exact moves_Sequence.mono _ _ _
      | exact ratlinelaw19_awake.mono _
      | exact ratlineref18_Do.mono _ _ _
      | exact LeO.none _
      | refine LeO.ite ?_ ?_
      | refine LeO.bind ?_ (fun _ => ?_)
theorem ratlinelaw19_MovesCircles.mono : ∀ a0 a1 k, LeO (ratlinelaw19_MovesCircles.f k a0 a1) (ratlinelaw19_MovesCircles.f (k + 1) a0 a1) := by
  intro a0 a1 k
  obtain ⟨ih0, ih1, ih2, ih3, ih4, ih5⟩ := ratlinelaw19_MovesCircles.mono_l k
  unfold ratlinelaw19_MovesCircles.f
  repeat' first
      | (with_reducible exact ih0 _ _ _ _)
      | (with_reducible exact ih1 _ _ _ _)
      | (with_reducible exact ih2 _ _ _ _ _ _)
      | (with_reducible exact ih3 _ _ _ _ _ _ _)
      | (with_reducible exact ih4 _ _ _ _ _ _)
      | (with_reducible exact ih5 _ _ _ _ _ _)
      | (with_reducible exact moves_Cost.mono _ _)
      | (with_reducible exact moves_Sequence.mono _ _ _)
      | (with_reducible exact ratlinelaw19_awake.mono _)
      | (with_reducible exact ratlineref18_Do.mono _ _ _)
      | (with_reducible exact LeO.refl _)
      | (with_reducible exact LeO.none _)
      | (with_reducible refine LeO.ite ?_ ?_)
      | (with_reducible refine LeO.bind ?_ (fun _ => ?_))
      | exact ih0 _ _ _ _
      | exact ih1 _ _ _ _
      | exact ih2 _ _ _ _ _ _
      | exact ih3 _ _ _ _ _ _ _
      | exact ih4 _ _ _ _ _ _
      | exact ih5 _ _ _ _ _ _
      | exact moves_Cost.mono _ _
      | exact moves_Sequence.mono _ _ _
      | exact ratlinelaw19_awake.mono _
      | exact ratlineref18_Do.mono _ _ _
      | exact LeO.none _
      | refine LeO.ite ?_ ?_
      | refine LeO.bind ?_ (fun _ => ?_)
def ratlinelaw19_MovesCircles.T17 : Bool × List (List Nat × List Nat) := (true, [([], []), ([], []), ([], []), ([1, 2], [1, 2]), ([3], [3]), ([4], [4]), ([], []), ([], []), ([6, 7], [6, 7]), ([8], [8]), ([9], [9]), ([5, 10], [5, 10]), ([11], [11]), ([0, 12], [0, 12]), ([13, 13, 0, 1, 2, 3, 4, 5, 6, 7, 8, 9, 10, 11, 12, 13], [0, 13])])
def ratlinelaw19_MovesCircles.B17 : List Nat := [0, 0, 0, 6, 14, 30, 0, 0, 192, 448, 960, 2046, 4094, 8191, 16383]
theorem ratlinelaw19_MovesCircles.tab17 : rtab .any (opsOf Try.f4 17) = ratlinelaw19_MovesCircles.T17 := by kernel_rfl
theorem ratlinelaw19_MovesCircles.bits17 : waitsOk ratlinelaw19_MovesCircles.T17.2 ratlinelaw19_MovesCircles.B17 = true := by kernel_rfl
def ratlinelaw19_MovesCircles.T27 : Bool × List (List Nat × List Nat) := (true, [([], []), ([], []), ([0, 1], [0, 1]), ([2], [2]), ([], []), ([4], [4]), ([], []), ([5, 6], [5, 6]), ([3, 7], [3, 7])])
def ratlinelaw19_MovesCircles.B27 : List Nat := [0, 0, 3, 7, 0, 16, 0, 112, 255]
theorem ratlinelaw19_MovesCircles.tab27 : rtab .any (opsOf Try.f4 27) = ratlinelaw19_MovesCircles.T27 := by kernel_rfl
theorem ratlinelaw19_MovesCircles.bits27 : waitsOk ratlinelaw19_MovesCircles.T27.2 ratlinelaw19_MovesCircles.B27 = true := by kernel_rfl
def ratlinelaw19_MovesCircles.T32 : Bool × List (List Nat × List Nat) := (true, [([], []), ([], []), ([], []), ([1, 2], [1, 2]), ([0, 3], [0, 3]), ([4], [4]), ([], []), ([], []), ([6, 7], [6, 7]), ([5, 8], [5, 8])])
def ratlinelaw19_MovesCircles.B32 : List Nat := [0, 0, 0, 6, 15, 31, 0, 0, 192, 511]
theorem ratlinelaw19_MovesCircles.tab32 : rtab .any (opsOf Try.f4 32) = ratlinelaw19_MovesCircles.T32 := by kernel_rfl
theorem ratlinelaw19_MovesCircles.bits32 : waitsOk ratlinelaw19_MovesCircles.T32.2 ratlinelaw19_MovesCircles.B32 = true := by kernel_rfl
set_option maxHeartbeats 8000000 in
set_option maxRecDepth 100000 in
theorem ratlinelaw19_MovesCircles.calls (k : Nat) (a0 : Int) (a1 : Int) (r : Bool) (hr : Aside0 (r = true)) (w : World) (h : ratlinelaw19_MovesCircles.f k a0 a1 = some r) :
    Calls Try.prog 4 #[.int .i64 a0, .int .i64 a1] w fun e w' => e = .returned (.bool r) ∧ Below w.heap.size w w' := by
  have hu34 := Try.underlying34
  have hu35 := Try.underlying35
  have HB := Aside0.mk (Below.refl w.heap.size w)
  have H : (ratlinelaw19_MovesCircles.l0 k (wrap64 ((Int.tmod (Go.bits .and .i64 a0 65535) 29) + 2)) (Go.bits .and .i64 a1 7) ([] : List (S34)) 0) = some r := h
  clear h
  have H' := Aside0.mk H
  clear H
  go_enter Try.func4, Try.ntmps4
  go_wp2
  go_loopg [5, 6] k (fun kq v5 v6 w' => ∃ (x5_1 : List (S34)) (x6_1 : Int), v6 = .int .i64 x6_1 ∧ Aside0 (ratlinelaw19_MovesCircles.l0 kq (wrap64 ((Int.tmod (Go.bits .and .i64 a0 65535) 29) + 2)) (Go.bits .and .i64 a1 7) x5_1 x6_1 = some r) ∧ Aside0 (kq ≤ k) ∧ Aside0 (Kd.R k34 34 w' w.heap.size (fun _ => True) v5 x5_1) ∧ Aside0 (Below w.heap.size w w'))
  case atStart => exact ⟨(([] : List (S34))), (0), (by first | rfl | (simp; done) | (simp [*]; done)), H', ⟨Nat.le_refl _⟩, ⟨by first | exact Kd.R_nil _ _ _ _ _ | exact Kd.N_nil _ _ _ _ _ | exact Kd.V_nil _ _ _ _ _ | exact Kd.Q_nil _ _ _ _ _ | exact Kd.S_nil _ _ _ _ _⟩, ⟨by repeat (first | (with_reducible first | exact HB.out | apply below_alloc | apply pw_below_drewN | apply below_drew1) | exact HB.out)⟩⟩
  case round =>
    clear H'
    try clear p2
    obtain ⟨x5_1, x6_1, rfl, HA, HK1, HO_5, HB⟩ := hrel
    cases gk with
    | zero => exact absurd HA.out (by simp [ratlinelaw19_MovesCircles.l0])
    | succ k1 =>
      have H := HA.out
      clear HA
      simp only [ratlinelaw19_MovesCircles.l0] at H
      by_cases c3 : x6_1 < (wrap64 ((Int.tmod (Go.bits .and .i64 a0 65535) 29) + 2))
      · rw [if_pos c3] at H
        have c3b0 : decide (x6_1 < (wrap64 ((Int.tmod (Go.bits .and .i64 a0 65535) 29) + 2))) = true := decide_eq_true c3
        clear c3
        by_cases c4 : (wrap64 ((Int.tmod (Go.bits .and .i64 a0 65535) 29) + 2)) = 0
        · rw [if_pos c4] at H
          exact absurd H (by simp)
        · rw [if_neg c4] at H
          have c4b0 : ((wrap64 ((Int.tmod (Go.bits .and .i64 a0 65535) 29) + 2)) == 0) = false := beq_eq_false_iff_ne.mpr c4
          have c4b1 : ((wrap64 ((Int.tmod (Go.bits .and .i64 a0 65535) 29) + 2)) != 0) = true := bne_iff_ne.mpr c4
          by_cases c5 : x5_1.length < 8796093022208
          · rw [if_pos c5] at H
            have LMc5 := Aside0.mk c5
            clear c5
            obtain ⟨y151, hy151⟩ : ∃ y_ : List (S34), y_ = (x5_1 ++ [(⟨x6_1, Int.tmod (wrap64 (x6_1 + 1)) (wrap64 ((Int.tmod (Go.bits .and .i64 a0 65535) 29) + 2))⟩ : S34)]) := ⟨_, rfl⟩
            replace H : (ratlinelaw19_MovesCircles.l0 k1 (wrap64 ((Int.tmod (Go.bits .and .i64 a0 65535) 29) + 2)) (Go.bits .and .i64 a1 7) y151 (wrap64 (x6_1 + 1))) = some r := by first | (rw [hy151]; with_reducible exact H) | (have H2_ := (Option.bind_some _ _).symm.trans H; rw [hy151]; with_reducible exact H2_) | (have H2_ := (Option.bind_some _ _).symm.trans H; with_reducible exact H2_) | with_reducible exact H | (rw [hy151]; exact H) | exact H
            have Ny151 := Aside0.mk hy151
            clear hy151
            have H' := Aside0.mk H
            clear H
            go_wp2_with (first | ((with_reducible refine gate_builtin (b := .append) (xs := #[.tmp 27, .tmp 34]) rfl ?_); at_builtin; refine Kd.R_append k34 (w0 := w) w.heap.size rfl (.tmp 27) (.tmp 34) 24 34 (.agg #[(.int .i64 0), (.int .i64 0)]) 16 rfl Try.underlying24 info34 rfl (by decide) (by omega) u5 x5_1 (⟨x6_1, Int.tmod (wrap64 (x6_1 + 1)) (wrap64 ((Int.tmod (Go.bits .and .i64 a0 65535) 29) + 2))⟩ : S34) [.int .i64 x6_1, .int .i64 (Int.tmod (wrap64 (x6_1 + 1)) (wrap64 ((Int.tmod (Go.bits .and .i64 a0 65535) 29) + 2)))] (fun _ => True) (fun _ => False) rfl rfl ?aP (fun _ hk => hk.elim) ?aF ?aO ?aB ?aS ?aL ?_; (case aP => exact k34_mkM _ _ _ (⟨x6_1, Int.tmod (wrap64 (x6_1 + 1)) (wrap64 ((Int.tmod (Go.bits .and .i64 a0 65535) 29) + 2))⟩ : S34)); (case aB => exact (by repeat (first | (with_reducible first | exact HB.out | apply below_alloc | apply pw_below_drewN | apply below_drew1) | exact HB.out))); (case aF => exact (fun _ _ => trivial)); (case aO => exact (by (with_reducible repeat (first | apply Kd.R_alloc | apply Kd.R_drewN | apply Kd.R_drew)); exact HO_5.out)); (case aS => exact (below_size (by repeat (first | (with_reducible first | exact HB.out | apply below_alloc | apply pw_below_drewN | apply below_drew1) | exact HB.out)))); (case aL => have := LMc5.out; omega); intro v152 w6 ho hb hg hat; rw [← Ny151.out] at ho; have n0_ := Aside0.mk (hb); have n1_ := Aside0.mk (ho); clear HB; clear HO_5; have HB := n0_; have HO153 := n1_; clear n0_ n1_; clear ho hb hg hat))
            go_roundg k1
            case measure => have := HK1.out; omega
            case rel => exact ⟨(y151), (wrap64 (x6_1 + 1)), (by first | rfl | (simp; done) | (simp [*]; done)), H', ⟨by have := HK1.out; omega⟩, ⟨by (with_reducible repeat (first | apply Kd.R_alloc | apply Kd.R_drewN | apply Kd.R_drew)); exact HO153.out⟩, ⟨by repeat (first | (with_reducible first | exact HB.out | apply below_alloc | apply pw_below_drewN | apply below_drew1) | exact HB.out)⟩⟩
          · rw [if_neg c5] at H
            exact absurd H (by simp)
      · rw [if_neg c3] at H
        have c3b0 : decide (x6_1 < (wrap64 ((Int.tmod (Go.bits .and .i64 a0 65535) 29) + 2))) = false := decide_eq_false c3
        clear c3
        have H' := Aside0.mk H
        clear H
        go_wp2
        go_loopg [5, 7] k1 (fun kq v5 v7 w' => ∃ (x5_2 : List (S34)) (x7_2 : Int), v7 = .int .i64 x7_2 ∧ Aside0 (ratlinelaw19_MovesCircles.l1 kq (wrap64 ((Int.tmod (Go.bits .and .i64 a0 65535) 29) + 2)) (Go.bits .and .i64 a1 7) x5_2 x7_2 = some r) ∧ Aside0 (kq ≤ k1) ∧ Aside0 (Kd.R k34 34 w' w.heap.size (fun _ => True) v5 x5_2) ∧ Aside0 (Below w.heap.size w w'))
        case atStart => exact ⟨(x5_1), (0), (by first | rfl | (simp; done) | (simp [*]; done)), H', ⟨Nat.le_refl _⟩, ⟨by (with_reducible repeat (first | apply Kd.R_alloc | apply Kd.R_drewN | apply Kd.R_drew)); exact HO_5.out⟩, ⟨by repeat (first | (with_reducible first | exact HB.out | apply below_alloc | apply pw_below_drewN | apply below_drew1) | exact HB.out)⟩⟩
        case round =>
          clear H'
          try clear p2
          try clear c3
          try clear c3b0
          try clear c4
          try clear c4b0
          try clear c4b1
          try clear c5
          try clear p6
          try clear p2
          obtain ⟨x5_2, x7_2, rfl, HA, HK2, HO_5, HB⟩ := hrel
          cases gk with
          | zero => exact absurd HA.out (by simp [ratlinelaw19_MovesCircles.l1])
          | succ k2 =>
            have H := HA.out
            clear HA
            simp only [ratlinelaw19_MovesCircles.l1] at H
            by_cases c7 : x7_2 < (Go.bits .and .i64 a1 7)
            · rw [if_pos c7] at H
              have c7b0 : decide (x7_2 < (Go.bits .and .i64 a1 7)) = true := decide_eq_true c7
              clear c7
              by_cases c8 : (wrap64 ((Int.tmod (Go.bits .and .i64 a0 65535) 29) + 2)) = 0
              · rw [if_pos c8] at H
                exact absurd H (by simp)
              · rw [if_neg c8] at H
                have c8b0 : ((wrap64 ((Int.tmod (Go.bits .and .i64 a0 65535) 29) + 2)) == 0) = false := beq_eq_false_iff_ne.mpr c8
                have c8b1 : ((wrap64 ((Int.tmod (Go.bits .and .i64 a0 65535) 29) + 2)) != 0) = true := bne_iff_ne.mpr c8
                by_cases c9 : x5_2.length < 8796093022208
                · rw [if_pos c9] at H
                  have LMc9 := Aside0.mk c9
                  clear c9
                  obtain ⟨y154, hy154⟩ : ∃ y_ : List (S34), y_ = (x5_2 ++ [(⟨wrap64 ((wrap64 ((Int.tmod (Go.bits .and .i64 a0 65535) 29) + 2)) + x7_2), Int.tmod x7_2 (wrap64 ((Int.tmod (Go.bits .and .i64 a0 65535) 29) + 2))⟩ : S34)]) := ⟨_, rfl⟩
                  replace H : (ratlinelaw19_MovesCircles.l1 k2 (wrap64 ((Int.tmod (Go.bits .and .i64 a0 65535) 29) + 2)) (Go.bits .and .i64 a1 7) y154 (wrap64 (x7_2 + 1))) = some r := by first | (rw [hy154]; with_reducible exact H) | (have H2_ := (Option.bind_some _ _).symm.trans H; rw [hy154]; with_reducible exact H2_) | (have H2_ := (Option.bind_some _ _).symm.trans H; with_reducible exact H2_) | with_reducible exact H | (rw [hy154]; exact H) | exact H
                  have Ny154 := Aside0.mk hy154
                  clear hy154
                  have H' := Aside0.mk H
                  clear H
                  go_wp2_with (first | ((with_reducible refine gate_builtin (b := .append) (xs := #[.tmp 41, .tmp 49]) rfl ?_); at_builtin; refine Kd.R_append k34 (w0 := w) w.heap.size rfl (.tmp 41) (.tmp 49) 24 34 (.agg #[(.int .i64 0), (.int .i64 0)]) 16 rfl Try.underlying24 info34 rfl (by decide) (by omega) u5 x5_2 (⟨wrap64 ((wrap64 ((Int.tmod (Go.bits .and .i64 a0 65535) 29) + 2)) + x7_2), Int.tmod x7_2 (wrap64 ((Int.tmod (Go.bits .and .i64 a0 65535) 29) + 2))⟩ : S34) [.int .i64 (wrap64 ((wrap64 ((Int.tmod (Go.bits .and .i64 a0 65535) 29) + 2)) + x7_2)), .int .i64 (Int.tmod x7_2 (wrap64 ((Int.tmod (Go.bits .and .i64 a0 65535) 29) + 2)))] (fun _ => True) (fun _ => False) rfl rfl ?aP (fun _ hk => hk.elim) ?aF ?aO ?aB ?aS ?aL ?_; (case aP => exact k34_mkM _ _ _ (⟨wrap64 ((wrap64 ((Int.tmod (Go.bits .and .i64 a0 65535) 29) + 2)) + x7_2), Int.tmod x7_2 (wrap64 ((Int.tmod (Go.bits .and .i64 a0 65535) 29) + 2))⟩ : S34)); (case aB => exact (by repeat (first | (with_reducible first | exact HB.out | apply below_alloc | apply pw_below_drewN | apply below_drew1) | exact HB.out))); (case aF => exact (fun _ _ => trivial)); (case aO => exact (by (with_reducible repeat (first | apply Kd.R_alloc | apply Kd.R_drewN | apply Kd.R_drew)); exact HO_5.out)); (case aS => exact (below_size (by repeat (first | (with_reducible first | exact HB.out | apply below_alloc | apply pw_below_drewN | apply below_drew1) | exact HB.out)))); (case aL => have := LMc9.out; omega); intro v155 w10 ho hb hg hat; rw [← Ny154.out] at ho; have n0_ := Aside0.mk (hb); have n1_ := Aside0.mk (ho); clear HB; clear HO_5; have HB := n0_; have HO156 := n1_; clear n0_ n1_; clear ho hb hg hat))
                  go_roundg k2
                  case measure => have := HK1.out; have := HK2.out; omega
                  case rel => exact ⟨(y154), (wrap64 (x7_2 + 1)), (by first | rfl | (simp; done) | (simp [*]; done)), H', ⟨by have := HK1.out; have := HK2.out; omega⟩, ⟨by (with_reducible repeat (first | apply Kd.R_alloc | apply Kd.R_drewN | apply Kd.R_drew)); exact HO156.out⟩, ⟨by repeat (first | (with_reducible first | exact HB.out | apply below_alloc | apply pw_below_drewN | apply below_drew1) | exact HB.out)⟩⟩
                · rw [if_neg c9] at H
                  exact absurd H (by simp)
            · rw [if_neg c7] at H
              have c7b0 : decide (x7_2 < (Go.bits .and .i64 a1 7)) = false := decide_eq_false c7
              clear c7
              replace H := Option.bind_eq_some_iff.mp H
              obtain ⟨t157, A110, H⟩ := H
              replace H : (ratlinelaw19_MovesCircles.l2 k2 (wrap64 ((Int.tmod (Go.bits .and .i64 a0 65535) 29) + 2)) (Go.bits .and .i64 a1 7) x5_2 t157 ([] : List (S35)) 0) = some r := H
              have A11 := Aside0.mk A110
              clear A110
              have H' := Aside0.mk H
              clear H
              obtain ⟨Ao12, co12, eo12⟩ := Kd.R_slice HO_5.out
              subst eo12
              go_wp2_with (first | ((with_reducible refine gate_callee (f := 9) rfl ?_); refine goesL_ (some 52) rfl rfl Try.func9 (by kernel_rfl) rfl #[.slice Ao12 x5_2.length co12, .int .i64 99] rfl (by (try simp only [List.map_toArray, List.map_cons, List.map_nil]); first | done | rfl | (simp only [List.length_drop, List.length_take]; rfl)) ?_; (with_reducible refine (moves_Sequence.calls k2 _ _ x5_2 99 t157 _ ?side1 ?side2 A11.out).mono ?_); (case side1 => repeat (first | exact (Kd.R_reads' HO_5.out).2.2 | (with_reducible refine Kd.C_alloc ?_ _) | (with_reducible refine Kd.C_drewN ?_ _) | (with_reducible refine Kd.C_drew ?_))); (case side2 => exact (Kd.R_reads' HO_5.out).2.1); rintro e w13 ⟨v158, rfl, ho0, hb⟩; refine ⟨_, rfl, ?_⟩; have n0_ := Aside0.mk (Kd.R_below (by (with_reducible repeat (first | apply Kd.R_alloc | apply Kd.R_drewN | apply Kd.R_drew)); exact HO_5.out) hb); have n1_ := Aside0.mk (Kd.V_lower (Kd.V_mono (ok' := fun k_ => some k_ ≠ (.slice Ao12 x5_2.length co12 : Value).ownBlock) ho0 (fun k_ hk_ => (Kd.fresh' (Kd.R_lt (by (with_reducible repeat (first | apply Kd.R_alloc | apply Kd.R_drewN | apply Kd.R_drew)); exact HO_5.out)) k_ hk_))) (below_size (by repeat (first | (with_reducible first | exact HB.out | apply below_alloc | apply pw_below_drewN | apply below_drew1) | exact HB.out)))); have n2_ := Aside0.mk (below_step (by repeat (first | (with_reducible first | exact HB.out | apply below_alloc | apply pw_below_drewN | apply below_drew1) | exact HB.out)) hb); clear HO_5; clear HB; have HO_5 := n0_; have HO159 := n1_; have HB := n2_; clear n0_ n1_ n2_; (try clear hb); (try clear hb2); (try clear hk); (try clear hi); (try clear ho0)))
              go_loopg [9, 10] k2 (fun kq v9 v10 w' => ∃ (x9_3 : List (S35)) (x10_3 : Int), v10 = .int .i64 x10_3 ∧ Aside0 (ratlinelaw19_MovesCircles.l2 kq (wrap64 ((Int.tmod (Go.bits .and .i64 a0 65535) 29) + 2)) (Go.bits .and .i64 a1 7) x5_2 t157 x9_3 x10_3 = some r) ∧ Aside0 (kq ≤ k2) ∧ Aside0 (Kd.R k34 34 w' w.heap.size (fun _ => True) (.slice Ao12 x5_2.length co12) x5_2) ∧ Aside0 (Kd.V k34 34 w' w.heap.size (fun k_ => some k_ ≠ ((.slice Ao12 x5_2.length co12) : Value).ownBlock ∧ some k_ ≠ (v9 : Value).ownBlock) v158 t157) ∧ Aside0 (Kd.R k35 35 w' w.heap.size (fun _ => True) v9 x9_3) ∧ Aside0 (Below w.heap.size w w'))
              case atStart => exact ⟨(([] : List (S35))), (0), (by first | rfl | (simp; done) | (simp [*]; done)), H', ⟨Nat.le_refl _⟩, ⟨by (with_reducible repeat (first | apply Kd.R_alloc | apply Kd.R_drewN | apply Kd.R_drew)); exact HO_5.out⟩, ⟨by (with_reducible repeat (first | apply Kd.V_alloc | apply Kd.V_drewN | apply Kd.V_drew)); exact Kd.V_mono HO159.out (fun _ hk => ⟨hk, (by simp [Value.ownBlock])⟩)⟩, ⟨by first | exact Kd.R_nil _ _ _ _ _ | exact Kd.N_nil _ _ _ _ _ | exact Kd.V_nil _ _ _ _ _ | exact Kd.Q_nil _ _ _ _ _ | exact Kd.S_nil _ _ _ _ _⟩, ⟨by repeat (first | (with_reducible first | exact HB.out | apply below_alloc | apply pw_below_drewN | apply below_drew1) | exact HB.out)⟩⟩
              case round =>
                clear H'
                try clear p2
                try clear c3
                try clear c3b0
                try clear c4
                try clear c4b0
                try clear c4b1
                try clear c5
                try clear p6
                try clear c7
                try clear c7b0
                try clear c8
                try clear c8b0
                try clear c8b1
                try clear c9
                try clear p2
                try clear p6
                obtain ⟨x9_3, x10_3, rfl, HA, HK3, HO_5, HO_8, HO_9, HB⟩ := hrel
                cases gk with
                | zero => exact absurd HA.out (by simp [ratlinelaw19_MovesCircles.l2])
                | succ k3 =>
                  have H := HA.out
                  clear HA
                  simp only [ratlinelaw19_MovesCircles.l2] at H
                  by_cases c14 : x10_3 < (t157.length : Int)
                  · rw [if_pos c14] at H
                    have c14b0 : decide (x10_3 < (t157.length : Int)) = true := decide_eq_true c14
                    clear c14
                    by_cases c15 : 0 ≤ x10_3
                    · rw [if_pos c15] at H
                      have c15b0 : decide (0 ≤ x10_3) = true := decide_eq_true c15
                      clear c15
                      by_cases c16 : x9_3.length < 8796093022208
                      · rw [if_pos c16] at H
                        have LMc16 := Aside0.mk c16
                        clear c16
                        obtain ⟨y162, hy162⟩ : ∃ y_ : List (S35), y_ = (x9_3 ++ [(⟨(rd_T34 t157 x10_3).f0, (rd_T34 t157 x10_3).f1⟩ : S35)]) := ⟨_, rfl⟩
                        replace H : (ratlinelaw19_MovesCircles.l2 k3 (wrap64 ((Int.tmod (Go.bits .and .i64 a0 65535) 29) + 2)) (Go.bits .and .i64 a1 7) x5_2 t157 y162 (wrap64 (x10_3 + 1))) = some r := by first | (rw [hy162]; with_reducible exact H) | (have H2_ := (Option.bind_some _ _).symm.trans H; rw [hy162]; with_reducible exact H2_) | (have H2_ := (Option.bind_some _ _).symm.trans H; with_reducible exact H2_) | with_reducible exact H | (rw [hy162]; exact H) | exact H
                        have Ny162 := Aside0.mk hy162
                        clear hy162
                        have H' := Aside0.mk H
                        clear H
                        obtain ⟨Ao17, co17, eo17⟩ := Kd.V_slice HO_8.out
                        subst eo17
                        try go_wp2
                        have n0_ := Aside0.mk (Kd.R_drew HO_5.out)
                        have n1_ := Aside0.mk (Kd.V_drew HO_8.out)
                        have n2_ := Aside0.mk (Kd.R_drew HO_9.out)
                        have n3_ := Aside0.mk (below_drew1 HB.out)
                        clear HO_5
                        clear HO_8
                        clear HO_9
                        clear HB
                        have HO_5 := n0_
                        have HO_8 := n1_
                        have HO_9 := n2_
                        have HB := n3_
                        clear n0_ n1_ n2_ n3_
                        have p160 : 0 ≤ (x10_3 : Int) := of_decide_eq_true (by first | (with_reducible assumption) | assumption)
                        have q160 : x10_3 < (t157.length : Int) := of_decide_eq_true (by first | (with_reducible assumption) | assumption)
                        obtain ⟨ad160, e160, hx160_0, hx160_1⟩ := at_T34 (Kd.V_reads' HO_8.out).2.2 x10_3 p160 q160
                        cases e160
                        replace p160 := eq_true p160
                        replace q160 := eq_true q160
                        have p161 : 0 ≤ (x10_3 : Int) := of_decide_eq_true (by first | (with_reducible assumption) | assumption)
                        have q161 : x10_3 < (t157.length : Int) := of_decide_eq_true (by first | (with_reducible assumption) | assumption)
                        obtain ⟨ad161, e161, hx161_0, hx161_1⟩ := at_T34 (Kd.V_reads' HO_8.out).2.2 x10_3 p161 q161
                        obtain rfl : ad160 = ad161 := (by injection e161)
                        replace p161 := eq_true p161
                        replace q161 := eq_true q161
                        refine start_ (n := 15) (S := fun w' => w'.cell? (ad160.add ((x10_3).toNat * 2)) = some (.int .i64 ((rd_T34 t157 x10_3).f0)) ∧ w'.cell? ⟨(ad160.add ((x10_3).toNat * 2)).block, (ad160.add ((x10_3).toNat * 2)).off + 1, none⟩ = some (.int .i64 ((rd_T34 t157 x10_3).f1)) ∧ w'.cell? (ad160.add ((x10_3).toNat * 2)) = some (.int .i64 ((rd_T34 t157 x10_3).f0)) ∧ w'.cell? ⟨(ad160.add ((x10_3).toNat * 2)).block, (ad160.add ((x10_3).toNat * 2)).off + 1, none⟩ = some (.int .i64 ((rd_T34 t157 x10_3).f1))) (ds := [12, 13]) #[false, false, false, false, false, false, false, false, false, false, false, false, false, false, false] (by kernel_rfl) rfl rfl ⟨hx160_0, hx160_1, hx161_0, hx161_1⟩ (fun hHeld => ?_); refine with_tabW ratlinelaw19_MovesCircles.tab17 ratlinelaw19_MovesCircles.bits17 (fun HT_ HW_ => ?_)
                        generalize wr.drew = w18 at HO_5 HO_8 HO_9 HB hx160_0 hx160_1 hx161_0 hx161_1 hHeld ⊢
                        refine pure_ (i := 0) (N := some 59) (v := ?_) (a' := ?_) #[true, false, false, false, false, false, false, false, false, false, false, false, false, false, false] rfl rfl (any_of HT_.out (by kernel_rfl)) (fun _ _ _ h => h) (Or.inl ⟨by rfl, ?_⟩) ?_ ?_
                        rotate_left
                        · intro w'
                          go_simp
                          with_reducible rfl
                        rotate_left
                        · simp only [Act.put, List.setIfInBounds_toArray, List.set_cons_zero, List.set_cons_succ, i64_w, i32_w]
                          rfl
                        refine pure_ (i := 1) (N := some 60) (v := ?_) (a' := ?_) #[true, true, false, false, false, false, false, false, false, false, false, false, false, false, false] rfl rfl (any_of HT_.out (by kernel_rfl)) (fun _ _ _ h => h) (Or.inl ⟨by rfl, ?_⟩) ?_ ?_
                        rotate_left
                        · intro w'
                          go_simp
                          with_reducible rfl
                        rotate_left
                        · simp only [Act.put, List.setIfInBounds_toArray, List.set_cons_zero, List.set_cons_succ, i64_w, i32_w]
                          rfl
                        refine pure_ (i := 2) (N := some 61) (v := ?_) (a' := ?_) #[true, true, true, false, false, false, false, false, false, false, false, false, false, false, false] rfl rfl (any_of HT_.out (by kernel_rfl)) (fun _ _ _ h => h) (Or.inl ⟨by rfl, ?_⟩) ?_ ?_
                        rotate_left
                        · intro w'
                          go_simp
                          with_reducible rfl
                        rotate_left
                        · simp only [Act.put, List.setIfInBounds_toArray, List.set_cons_zero, List.set_cons_succ, i64_w, i32_w]
                          rfl
                        refine pure_ (i := 3) (N := some 62) (v := ?_) (a' := ?_) #[true, true, true, true, false, false, false, false, false, false, false, false, false, false, false] rfl rfl (any_of HT_.out (by kernel_rfl)) (fun _ _ _ h => h) (Or.inl ⟨by rfl, ?_⟩) ?_ ?_
                        rotate_left
                        · intro w'
                          go_simp
                          with_reducible rfl
                        rotate_left
                        · simp only [Act.put, List.setIfInBounds_toArray, List.set_cons_zero, List.set_cons_succ, i64_w, i32_w]
                          rfl
                        refine pure_ (i := 4) (N := some 63) (v := ?_) (a' := ?_) #[true, true, true, true, true, false, false, false, false, false, false, false, false, false, false] rfl rfl (any_of HT_.out (by kernel_rfl)) (fun _ _ _ h => h) (Or.inl ⟨by rfl, ?_⟩) ?_ ?_
                        rotate_left
                        · intro w'
                          go_simp
                          with_reducible rfl
                        rotate_left
                        · simp only [Act.put, List.setIfInBounds_toArray, List.set_cons_zero, List.set_cons_succ, i64_w, i32_w]
                          rfl
                        refine pure_ (i := 6) (N := some 65) (v := ?_) (a' := ?_) #[true, true, true, true, true, false, true, false, false, false, false, false, false, false, false] rfl rfl (any_of HT_.out (by kernel_rfl)) (fun _ _ _ h => h) (Or.inl ⟨by rfl, ?_⟩) ?_ ?_
                        rotate_left
                        · intro w'
                          go_simp
                          with_reducible rfl
                        rotate_left
                        · simp only [Act.put, List.setIfInBounds_toArray, List.set_cons_zero, List.set_cons_succ, i64_w, i32_w]
                          rfl
                        refine pure_ (i := 7) (N := some 66) (v := ?_) (a' := ?_) #[true, true, true, true, true, false, true, true, false, false, false, false, false, false, false] rfl rfl (any_of HT_.out (by kernel_rfl)) (fun _ _ _ h => h) (Or.inl ⟨by rfl, ?_⟩) ?_ ?_
                        rotate_left
                        · intro w'
                          go_simp
                          with_reducible rfl
                        rotate_left
                        · simp only [Act.put, List.setIfInBounds_toArray, List.set_cons_zero, List.set_cons_succ, i64_w, i32_w]
                          rfl
                        refine pure_ (i := 8) (N := some 67) (v := ?_) (a' := ?_) #[true, true, true, true, true, false, true, true, true, false, false, false, false, false, false] rfl rfl (any_of HT_.out (by kernel_rfl)) (fun _ _ _ h => h) (Or.inl ⟨by rfl, ?_⟩) ?_ ?_
                        rotate_left
                        · intro w'
                          go_simp
                          with_reducible rfl
                        rotate_left
                        · simp only [Act.put, List.setIfInBounds_toArray, List.set_cons_zero, List.set_cons_succ, i64_w, i32_w]
                          rfl
                        refine pure_ (i := 9) (N := some 68) (v := ?_) (a' := ?_) #[true, true, true, true, true, false, true, true, true, true, false, false, false, false, false] rfl rfl (any_of HT_.out (by kernel_rfl)) (fun _ _ _ h => h) (Or.inl ⟨by rfl, ?_⟩) ?_ ?_
                        rotate_left
                        · intro w'
                          go_simp
                          with_reducible rfl
                        rotate_left
                        · simp only [Act.put, List.setIfInBounds_toArray, List.set_cons_zero, List.set_cons_succ, i64_w, i32_w]
                          rfl
                        refine take_ (i := 5) (N := some 64) (v := ?_) (a' := ?_) #[true, true, true, true, true, true, true, true, true, true, false, false, false, false, false] rfl rfl (take_ofW HT_.out HW_.out (by kernel_rfl)) (fun _ _ _ h => h) (Or.inl ⟨by rfl, ?_⟩) hHeld ?_ ?_
                        rotate_left
                        · rintro w' ⟨s0, s1, s2, s3⟩
                          go_simp
                          with_reducible rfl
                        rotate_left
                        · simp only [Act.put, List.setIfInBounds_toArray, List.set_cons_zero, List.set_cons_succ, i64_w, i32_w]
                          rfl
                        refine take_ (i := 10) (N := some 69) (v := ?_) (a' := ?_) #[true, true, true, true, true, true, true, true, true, true, true, false, false, false, false] rfl rfl (take_ofW HT_.out HW_.out (by kernel_rfl)) (fun _ _ _ h => h) (Or.inl ⟨by rfl, ?_⟩) hHeld ?_ ?_
                        rotate_left
                        · rintro w' ⟨s0, s1, s2, s3⟩
                          go_simp
                          with_reducible rfl
                        rotate_left
                        · simp only [Act.put, List.setIfInBounds_toArray, List.set_cons_zero, List.set_cons_succ, i64_w, i32_w]
                          rfl
                        refine pure_ (i := 11) (N := some 70) (v := ?_) (a' := ?_) #[true, true, true, true, true, true, true, true, true, true, true, true, false, false, false] rfl rfl (any_of HT_.out (by kernel_rfl)) (fun _ _ _ h => h) (Or.inl ⟨by rfl, ?_⟩) ?_ ?_
                        rotate_left
                        · intro w'
                          go_simp
                          with_reducible rfl
                        rotate_left
                        · simp only [Act.put, List.setIfInBounds_toArray, List.set_cons_zero, List.set_cons_succ, i64_w, i32_w]
                          rfl
                        refine last_ (i := 12) (N := some 71) #[true, true, true, true, true, true, true, true, true, true, true, true, true, false, false] rfl rfl (one_of HT_.out (by kernel_rfl)) (by decide) (fun K hK => ?_)
                        refine value_ (w1 := ?_) (v := ?_) (by rfl) rfl ?_ ?_
                        rotate_left 2
                        · go_simp
                          constructor
                          · rfl
                          · rfl
                        refine hK.out _ _ ?_
                        clear hK K
                        refine norm_ (a' := ?_) ?_ ?_
                        rotate_left
                        · show Act.put _ (some 71) _ = _
                          simp only [Act.put, List.setIfInBounds_toArray, List.set_cons_zero, List.set_cons_succ, i64_w, i32_w]
                          rfl
                        refine last_ (i := 13) (N := some 72) #[true, true, true, true, true, true, true, true, true, true, true, true, true, true, false] rfl rfl (one_of HT_.out (by kernel_rfl)) (by decide) (fun K hK => ?_)
                        refine Kd.R_append_step k35 (w0 := w) w.heap.size (by rfl) (.tmp 59) (.tmp 71) 25 35 (.agg #[(.int .i64 0), (.int .i64 0)]) 16 rfl Try.underlying25 info35 rfl (by decide) (by omega) u9 x9_3 (⟨(rd_T34 t157 x10_3).f0, (rd_T34 t157 x10_3).f1⟩ : S35) [.int .i64 ((rd_T34 t157 x10_3).f0), .int .i64 ((rd_T34 t157 x10_3).f1)] (fun _ => True) (fun _ => False) rfl rfl ?aP (fun _ hk => hk.elim) ?aF ?aO ?aB ?aS ?aL ?_
                        (case aP => exact k35_mkM _ _ _ (⟨(rd_T34 t157 x10_3).f0, (rd_T34 t157 x10_3).f1⟩ : S35))
                        (case aB => exact (by repeat (first | (with_reducible first | exact HB.out | apply below_alloc | apply pw_below_drewN | apply below_drew1) | exact HB.out)))
                        (case aF => exact (fun _ _ => trivial))
                        (case aO => exact (by (with_reducible repeat (first | apply Kd.R_alloc | apply Kd.R_drewN | apply Kd.R_drew)); exact HO_9.out))
                        (case aS => exact (below_size (by repeat (first | (with_reducible first | exact HB.out | apply below_alloc | apply pw_below_drewN | apply below_drew1) | exact HB.out))))
                        (case aL => have := LMc16.out; omega)
                        intro v163 w19 ho hb hg hat
                        rw [← Ny162.out] at ho
                        have n0_ := Aside0.mk (Kd.R_over' (by (with_reducible repeat (first | apply Kd.R_alloc | apply Kd.R_drewN | apply Kd.R_drew)); exact HO_5.out) (Kd.R_typed (by (with_reducible repeat (first | apply Kd.R_alloc | apply Kd.R_drewN | apply Kd.R_drew)); exact HO_9.out)) (by decide) hg)
                        have n1_ := Aside0.mk (Kd.V_afterv (ok := (fun k_ => some k_ ≠ (.slice Ao12 x5_2.length co12 : Value).ownBlock)) (by (with_reducible repeat (first | apply Kd.V_alloc | apply Kd.V_drewN | apply Kd.V_drew)); exact HO_8.out) hg hat)
                        have n2_ := Aside0.mk (hb)
                        have n3_ := Aside0.mk (ho)
                        clear HO_5
                        clear HO_8
                        clear HB
                        clear HO_9
                        have HO_5 := n0_
                        have HO_8 := n1_
                        have HB := n2_
                        have HO164 := n3_
                        clear n0_ n1_ n2_ n3_
                        clear ho hb hg hat
                        refine hK.out _ _ ?_
                        clear hK K
                        refine norm_ (a' := ?_) ?_ ?_
                        rotate_left
                        · show Act.put _ (some 72) _ = _
                          simp only [Act.put, List.setIfInBounds_toArray, List.set_cons_zero, List.set_cons_succ, i64_w, i32_w]
                          rfl
                        refine pure_ (i := 14) (N := some 9) (v := ?_) (a' := ?_) #[true, true, true, true, true, true, true, true, true, true, true, true, true, true, true] rfl rfl (any_of HT_.out (by kernel_rfl)) (fun _ _ _ h => h) (Or.inl ⟨by rfl, ?_⟩) ?_ ?_
                        rotate_left
                        · intro w'
                          go_simp
                          with_reducible rfl
                        rotate_left
                        · simp only [Act.put, List.setIfInBounds_toArray, List.set_cons_zero, List.set_cons_succ, i64_w, i32_w]
                          rfl
                        refine done_ (done_of HT_.out (by kernel_rfl)) ?_
                        try go_wp2
                        go_roundg k3
                        case measure => have := HK1.out; have := HK2.out; have := HK3.out; omega
                        case rel => exact ⟨(y162), (wrap64 (x10_3 + 1)), (by first | rfl | (simp; done) | (simp [*]; done)), H', ⟨by have := HK1.out; have := HK2.out; have := HK3.out; omega⟩, ⟨by (with_reducible repeat (first | apply Kd.R_alloc | apply Kd.R_drewN | apply Kd.R_drew)); exact HO_5.out⟩, ⟨by (with_reducible repeat (first | apply Kd.V_alloc | apply Kd.V_drewN | apply Kd.V_drew)); exact HO_8.out⟩, ⟨by (with_reducible repeat (first | apply Kd.R_alloc | apply Kd.R_drewN | apply Kd.R_drew)); exact HO164.out⟩, ⟨by repeat (first | (with_reducible first | exact HB.out | apply below_alloc | apply pw_below_drewN | apply below_drew1) | exact HB.out)⟩⟩
                      · rw [if_neg c16] at H
                        exact absurd H (by simp)
                    · rw [if_neg c15] at H
                      exact absurd H (by simp)
                  · rw [if_neg c14] at H
                    have c14b0 : decide (x10_3 < (t157.length : Int)) = false := decide_eq_false c14
                    clear c14
                    have H' := Aside0.mk H
                    clear H
                    obtain ⟨Ao20, co20, eo20⟩ := Kd.V_slice HO_8.out
                    subst eo20
                    go_wp2
                    go_loopg [11, 12] k3 (fun kq v11 v12 w' => ∃ (x11_4 : List Int) (x12_4 : Int), v12 = .int .i64 x12_4 ∧ Aside0 (ratlinelaw19_MovesCircles.l3 kq (wrap64 ((Int.tmod (Go.bits .and .i64 a0 65535) 29) + 2)) (Go.bits .and .i64 a1 7) x5_2 t157 x9_3 x11_4 x12_4 = some r) ∧ Aside0 (kq ≤ k3) ∧ Aside0 (Kd.R k34 34 w' w.heap.size (fun _ => True) (.slice Ao12 x5_2.length co12) x5_2) ∧ Aside0 (Kd.V k34 34 w' w.heap.size (fun k_ => some k_ ≠ ((.slice Ao12 x5_2.length co12) : Value).ownBlock ∧ some k_ ≠ (u9 : Value).ownBlock ∧ some k_ ≠ (v11 : Value).ownBlock) (.slice Ao20 t157.length co20) t157) ∧ Aside0 (Kd.R k35 35 w' w.heap.size (fun _ => True) u9 x9_3) ∧ Aside0 (Kd.R (Kd.int .i64) 3 w' w.heap.size (fun _ => True) v11 x11_4) ∧ Aside0 (Below w.heap.size w w'))
                    case atStart => exact ⟨(([] : List Int)), (0), (by first | rfl | (simp; done) | (simp [*]; done)), H', ⟨Nat.le_refl _⟩, ⟨by (with_reducible repeat (first | apply Kd.R_alloc | apply Kd.R_drewN | apply Kd.R_drew)); exact HO_5.out⟩, ⟨by (with_reducible repeat (first | apply Kd.V_alloc | apply Kd.V_drewN | apply Kd.V_drew)); exact Kd.V_mono HO_8.out (fun _ hk => ⟨hk.1, ⟨hk.2, (by simp [Value.ownBlock])⟩⟩)⟩, ⟨by (with_reducible repeat (first | apply Kd.R_alloc | apply Kd.R_drewN | apply Kd.R_drew)); exact HO_9.out⟩, ⟨by first | exact Kd.R_nil _ _ _ _ _ | exact Kd.N_nil _ _ _ _ _ | exact Kd.V_nil _ _ _ _ _ | exact Kd.Q_nil _ _ _ _ _ | exact Kd.S_nil _ _ _ _ _⟩, ⟨by repeat (first | (with_reducible first | exact HB.out | apply below_alloc | apply pw_below_drewN | apply below_drew1) | exact HB.out)⟩⟩
                    case round =>
                      clear H'
                      try clear c1
                      try clear p1
                      try clear q1
                      try clear hx1
                      try clear p2
                      try clear c3
                      try clear c3b0
                      try clear c4
                      try clear c4b0
                      try clear c4b1
                      try clear c5
                      try clear p6
                      try clear c7
                      try clear c7b0
                      try clear c8
                      try clear c8b0
                      try clear c8b1
                      try clear c9
                      try clear c14
                      try clear c14b0
                      try clear c15
                      try clear c15b0
                      try clear c16
                      try clear p16
                      try clear q16
                      try clear hx16
                      try clear hx160_0
                      try clear hx160_1
                      try clear hx161_0
                      try clear hx161_1
                      try clear p160
                      try clear p161
                      try clear p2
                      try clear p6
                      try clear q160
                      try clear q161
                      obtain ⟨x11_4, x12_4, rfl, HA, HK4, HO_5, HO_8, HO_9, HO_11, HB⟩ := hrel
                      cases gk with
                      | zero => exact absurd HA.out (by simp [ratlinelaw19_MovesCircles.l3])
                      | succ k4 =>
                        have H := HA.out
                        clear HA
                        simp only [ratlinelaw19_MovesCircles.l3] at H
                        by_cases c21 : x12_4 < 100
                        · rw [if_pos c21] at H
                          have c21b0 : decide (x12_4 < 100) = true := decide_eq_true c21
                          clear c21
                          by_cases c22 : x11_4.length < 17592186044416
                          · rw [if_pos c22] at H
                            have LMc22 := Aside0.mk c22
                            clear c22
                            obtain ⟨y165, hy165⟩ : ∃ y_ : List Int, y_ = (x11_4 ++ [x12_4]) := ⟨_, rfl⟩
                            replace H : (ratlinelaw19_MovesCircles.l3 k4 (wrap64 ((Int.tmod (Go.bits .and .i64 a0 65535) 29) + 2)) (Go.bits .and .i64 a1 7) x5_2 t157 x9_3 y165 (wrap64 (x12_4 + 1))) = some r := by first | (rw [hy165]; with_reducible exact H) | (have H2_ := (Option.bind_some _ _).symm.trans H; rw [hy165]; with_reducible exact H2_) | (have H2_ := (Option.bind_some _ _).symm.trans H; with_reducible exact H2_) | with_reducible exact H | (rw [hy165]; exact H) | exact H
                            have Ny165 := Aside0.mk hy165
                            clear hy165
                            have H' := Aside0.mk H
                            clear H
                            go_wp2_with (first | ((with_reducible refine gate_builtin (b := .append) (xs := #[.tmp 77, .tmp 79]) rfl ?_); at_builtin; refine Kd.R_append (Kd.int .i64) (w0 := w) w.heap.size rfl (.tmp 77) (.tmp 79) 36 3 (.int .i64 0) 8 rfl Try.underlying36 info3 rfl (by decide) (by omega) u11 x11_4 x12_4 [.int .i64 x12_4] (fun _ => True) (fun _ => False) rfl rfl ?aP (fun _ hk => hk.elim) ?aF ?aO ?aB ?aS ?aL ?_; (case aP => exact rfl); (case aB => exact (by repeat (first | (with_reducible first | exact HB.out | apply below_alloc | apply pw_below_drewN | apply below_drew1) | exact HB.out))); (case aF => exact (fun _ _ => trivial)); (case aO => exact (by (with_reducible repeat (first | apply Kd.R_alloc | apply Kd.R_drewN | apply Kd.R_drew)); exact HO_11.out)); (case aS => exact (below_size (by repeat (first | (with_reducible first | exact HB.out | apply below_alloc | apply pw_below_drewN | apply below_drew1) | exact HB.out)))); (case aL => have := LMc22.out; omega); intro v166 w23 ho hb hg hat; rw [← Ny165.out] at ho; have n0_ := Aside0.mk (Kd.R_over' (by (with_reducible repeat (first | apply Kd.R_alloc | apply Kd.R_drewN | apply Kd.R_drew)); exact HO_5.out) (Kd.R_typed (by (with_reducible repeat (first | apply Kd.R_alloc | apply Kd.R_drewN | apply Kd.R_drew)); exact HO_11.out)) (by decide) hg); have n1_ := Aside0.mk (Kd.V_afterv (ok := (fun k_ => some k_ ≠ (.slice Ao12 x5_2.length co12 : Value).ownBlock ∧ some k_ ≠ (u9 : Value).ownBlock)) (by (with_reducible repeat (first | apply Kd.V_alloc | apply Kd.V_drewN | apply Kd.V_drew)); exact Kd.V_mono HO_8.out (fun _ hk => ⟨⟨hk.1, hk.2.1⟩, hk.2.2⟩)) hg hat); have n2_ := Aside0.mk (Kd.R_over' (by (with_reducible repeat (first | apply Kd.R_alloc | apply Kd.R_drewN | apply Kd.R_drew)); exact HO_9.out) (Kd.R_typed (by (with_reducible repeat (first | apply Kd.R_alloc | apply Kd.R_drewN | apply Kd.R_drew)); exact HO_11.out)) (by decide) hg); have n3_ := Aside0.mk (hb); have n4_ := Aside0.mk (ho); clear HO_5; clear HO_8; clear HO_9; clear HB; clear HO_11; have HO_5 := n0_; have HO_8 := n1_; have HO_9 := n2_; have HB := n3_; have HO167 := n4_; clear n0_ n1_ n2_ n3_ n4_; clear ho hb hg hat))
                            go_roundg k4
                            case measure => have := HK1.out; have := HK2.out; have := HK3.out; have := HK4.out; omega
                            case rel => exact ⟨(y165), (wrap64 (x12_4 + 1)), (by first | rfl | (simp; done) | (simp [*]; done)), H', ⟨by have := HK1.out; have := HK2.out; have := HK3.out; have := HK4.out; omega⟩, ⟨by (with_reducible repeat (first | apply Kd.R_alloc | apply Kd.R_drewN | apply Kd.R_drew)); exact HO_5.out⟩, ⟨by (with_reducible repeat (first | apply Kd.V_alloc | apply Kd.V_drewN | apply Kd.V_drew)); exact Kd.V_mono HO_8.out (fun _ hk => ⟨hk.1.1, ⟨hk.1.2, hk.2⟩⟩)⟩, ⟨by (with_reducible repeat (first | apply Kd.R_alloc | apply Kd.R_drewN | apply Kd.R_drew)); exact HO_9.out⟩, ⟨by (with_reducible repeat (first | apply Kd.R_alloc | apply Kd.R_drewN | apply Kd.R_drew)); exact HO167.out⟩, ⟨by repeat (first | (with_reducible first | exact HB.out | apply below_alloc | apply pw_below_drewN | apply below_drew1) | exact HB.out)⟩⟩
                          · rw [if_neg c22] at H
                            exact absurd H (by simp)
                        · rw [if_neg c21] at H
                          have c21b0 : decide (x12_4 < 100) = false := decide_eq_false c21
                          clear c21
                          replace H := Option.bind_eq_some_iff.mp H
                          obtain ⟨t168, A240, H⟩ := H
                          replace H : (ratlinelaw19_MovesCircles.l4 k4 (wrap64 ((Int.tmod (Go.bits .and .i64 a0 65535) 29) + 2)) (Go.bits .and .i64 a1 7) x5_2 t157 t168 0) = some r := H
                          have A24 := Aside0.mk A240
                          clear A240
                          have H' := Aside0.mk H
                          clear H
                          obtain ⟨Ao25, co25, eo25⟩ := Kd.R_slice HO_9.out
                          subst eo25
                          obtain ⟨Ao26, co26, eo26⟩ := Kd.R_slice HO_11.out
                          subst eo26
                          go_wp2_with (first | ((with_reducible refine gate_callee (f := 11) rfl ?_); refine goesL_ (some 83) rfl rfl Try.func11 (by kernel_rfl) rfl #[.slice Ao25 x9_3.length co25, .slice Ao26 x11_4.length co26] rfl (by (try simp only [List.map_toArray, List.map_cons, List.map_nil]); first | done | rfl | (simp only [List.length_drop, List.length_take]; rfl)) ?_; (with_reducible refine (ratlineref18_Do.calls k4 _ _ x9_3 _ _ x11_4 t168 _ ?side1 ?side2 ?side3 ?side4 A24.out).mono ?_); (case side1 => repeat (first | exact (Kd.R_reads' HO_9.out).2.2 | (with_reducible refine Kd.C_alloc ?_ _) | (with_reducible refine Kd.C_drewN ?_ _) | (with_reducible refine Kd.C_drew ?_))); (case side2 => exact (Kd.R_reads' HO_9.out).2.1); (case side3 => repeat (first | exact (Kd.R_reads' HO_11.out).2.2 | (with_reducible refine Kd.C_alloc ?_ _) | (with_reducible refine Kd.C_drewN ?_ _) | (with_reducible refine Kd.C_drew ?_))); (case side4 => exact (Kd.R_reads' HO_11.out).2.1); rintro e w27 ⟨v169, rfl, ho0, hb⟩; refine ⟨_, rfl, ?_⟩; have n0_ := Aside0.mk (Kd.R_below (by (with_reducible repeat (first | apply Kd.R_alloc | apply Kd.R_drewN | apply Kd.R_drew)); exact HO_5.out) hb); have n1_ := Aside0.mk (Kd.V_elder' (by (with_reducible repeat (first | apply Kd.V_alloc | apply Kd.V_drewN | apply Kd.V_drew)); exact HO_8.out) (Kd.R_base ho0) hb); have n2_ := Aside0.mk (Kd.R_below (by (with_reducible repeat (first | apply Kd.R_alloc | apply Kd.R_drewN | apply Kd.R_drew)); exact HO_9.out) hb); have n3_ := Aside0.mk (Kd.R_elder' (by (with_reducible repeat (first | apply Kd.R_alloc | apply Kd.R_drewN | apply Kd.R_drew)); exact HO_11.out) (Kd.R_base ho0) hb); have n4_ := Aside0.mk (Kd.R_lower (Kd.R_new' ho0 (Kd.R_lt (by (with_reducible repeat (first | apply Kd.R_alloc | apply Kd.R_drewN | apply Kd.R_drew)); exact HO_11.out))) (below_size (by repeat (first | (with_reducible first | exact HB.out | apply below_alloc | apply pw_below_drewN | apply below_drew1) | exact HB.out)))); have n5_ := Aside0.mk (below_step (by repeat (first | (with_reducible first | exact HB.out | apply below_alloc | apply pw_below_drewN | apply below_drew1) | exact HB.out)) hb); clear HO_5; clear HO_8; clear HO_9; clear HO_11; clear HB; have HO_5 := n0_; have HO_8 := n1_; have HO_9 := n2_; have HO_11 := n3_; have HO170 := n4_; have HB := n5_; clear n0_ n1_ n2_ n3_ n4_ n5_; (try clear hb); (try clear hb2); (try clear hk); (try clear hi); (try clear ho0)))
                          go_loopg [14] k4 (fun kq v14 w' => ∃ (x14_5 : Int), v14 = .int .i64 x14_5 ∧ Aside0 (ratlinelaw19_MovesCircles.l4 kq (wrap64 ((Int.tmod (Go.bits .and .i64 a0 65535) 29) + 2)) (Go.bits .and .i64 a1 7) x5_2 t157 t168 x14_5 = some r) ∧ Aside0 (kq ≤ k4) ∧ Aside0 (Kd.R k34 34 w' w.heap.size (fun _ => True) (.slice Ao12 x5_2.length co12) x5_2) ∧ Aside0 (Kd.V k34 34 w' w.heap.size (fun k_ => some k_ ≠ ((.slice Ao12 x5_2.length co12) : Value).ownBlock ∧ some k_ ≠ (v169 : Value).ownBlock) (.slice Ao20 t157.length co20) t157) ∧ Aside0 (Kd.R (Kd.int .i64) 3 w' w.heap.size (fun _ => True) v169 t168) ∧ Aside0 (Below w.heap.size w w'))
                          case atStart => exact ⟨(0), (by first | rfl | (simp; done) | (simp [*]; done)), H', ⟨Nat.le_refl _⟩, ⟨by (with_reducible repeat (first | apply Kd.R_alloc | apply Kd.R_drewN | apply Kd.R_drew)); exact HO_5.out⟩, ⟨by (with_reducible repeat (first | apply Kd.V_alloc | apply Kd.V_drewN | apply Kd.V_drew)); exact Kd.V_mono HO_8.out (fun _ hk => ⟨hk.1.1, hk.2⟩)⟩, ⟨by (with_reducible repeat (first | apply Kd.R_alloc | apply Kd.R_drewN | apply Kd.R_drew)); exact Kd.R_mono HO170.out (fun _ hk => trivial)⟩, ⟨by repeat (first | (with_reducible first | exact HB.out | apply below_alloc | apply pw_below_drewN | apply below_drew1) | exact HB.out)⟩⟩
                          case round =>
                            clear H'
                            try clear c1
                            try clear p1
                            try clear q1
                            try clear hx1
                            try clear c2
                            try clear p2
                            try clear c3
                            try clear c3b0
                            try clear c4
                            try clear c4b0
                            try clear c4b1
                            try clear c5
                            try clear p6
                            try clear c7
                            try clear c7b0
                            try clear c8
                            try clear c8b0
                            try clear c8b1
                            try clear c9
                            try clear c11
                            try clear c14
                            try clear c14b0
                            try clear c15
                            try clear c15b0
                            try clear c16
                            try clear p16
                            try clear q16
                            try clear hx16
                            try clear c21
                            try clear c21b0
                            try clear c22
                            try clear hx160_0
                            try clear hx160_1
                            try clear hx161_0
                            try clear hx161_1
                            try clear p1
                            try clear p16
                            try clear p160
                            try clear p161
                            try clear p2
                            try clear p6
                            try clear q1
                            try clear q16
                            try clear q160
                            try clear q161
                            obtain ⟨x14_5, rfl, HA, HK5, HO_5, HO_8, HO_13, HB⟩ := hrel
                            cases gk with
                            | zero => exact absurd HA.out (by simp [ratlinelaw19_MovesCircles.l4])
                            | succ k5 =>
                              have H := HA.out
                              clear HA
                              simp only [ratlinelaw19_MovesCircles.l4] at H
                              by_cases c28 : x14_5 < (wrap64 ((Int.tmod (Go.bits .and .i64 a0 65535) 29) + 2))
                              · rw [if_pos c28] at H
                                have c28b0 : decide (x14_5 < (wrap64 ((Int.tmod (Go.bits .and .i64 a0 65535) 29) + 2))) = true := decide_eq_true c28
                                clear c28
                                by_cases c29 : 0 ≤ x14_5
                                · rw [if_pos c29] at H
                                  have c29b0 : decide (0 ≤ x14_5) = true := decide_eq_true c29
                                  clear c29
                                  by_cases c30 : x14_5 < (t168.length : Int)
                                  · rw [if_pos c30] at H
                                    have c30b0 : decide (x14_5 < (t168.length : Int)) = true := decide_eq_true c30
                                    clear c30
                                    by_cases c31 : (wrap64 ((Int.tmod (Go.bits .and .i64 a0 65535) 29) + 2)) = 0
                                    · rw [if_pos c31] at H
                                      exact absurd H (by simp)
                                    · rw [if_neg c31] at H
                                      have c31b0 : ((wrap64 ((Int.tmod (Go.bits .and .i64 a0 65535) 29) + 2)) == 0) = false := beq_eq_false_iff_ne.mpr c31
                                      have c31b1 : ((wrap64 ((Int.tmod (Go.bits .and .i64 a0 65535) 29) + 2)) != 0) = true := bne_iff_ne.mpr c31
                                      by_cases c32 : (rd t168 x14_5) = (Int.tmod (wrap64 (x14_5 + 1)) (wrap64 ((Int.tmod (Go.bits .and .i64 a0 65535) 29) + 2)))
                                      · rw [if_pos c32] at H
                                        have c32b0 : ((rd t168 x14_5) == (Int.tmod (wrap64 (x14_5 + 1)) (wrap64 ((Int.tmod (Go.bits .and .i64 a0 65535) 29) + 2)))) = true := beq_iff_eq.mpr c32
                                        have c32b1 : ((rd t168 x14_5) != (Int.tmod (wrap64 (x14_5 + 1)) (wrap64 ((Int.tmod (Go.bits .and .i64 a0 65535) 29) + 2)))) = false := bne_eq_false_iff_eq.mpr c32
                                        clear c32
                                        have H' := Aside0.mk H
                                        clear H
                                        try go_wp2
                                        have n0_ := Aside0.mk (Kd.R_drew HO_5.out)
                                        have n1_ := Aside0.mk (Kd.V_drew HO_8.out)
                                        have n2_ := Aside0.mk (Kd.R_drew HO_13.out)
                                        have n3_ := Aside0.mk (below_drew1 HB.out)
                                        clear HO_5
                                        clear HO_8
                                        clear HO_13
                                        clear HB
                                        have HO_5 := n0_
                                        have HO_8 := n1_
                                        have HO_13 := n2_
                                        have HB := n3_
                                        clear n0_ n1_ n2_ n3_
                                        obtain ⟨Ao34, co34, eo34⟩ := Kd.R_slice HO_13.out
                                        (first | subst eo34 | (injection eo34 with f1_ f2_ f3_; have f4_ := f1_.symm; have f5_ := f3_.symm; clear f1_ f2_ f3_; subst f4_; subst f5_))
                                        have p171 : 0 ≤ (x14_5 : Int) := of_decide_eq_true (by first | (with_reducible assumption) | assumption)
                                        have q171 : x14_5 < (t168.length : Int) := of_decide_eq_true (by first | (with_reducible assumption) | assumption)
                                        obtain ⟨ad171, e171, hx171_0⟩ := Kd.at_int (Kd.R_reads' HO_13.out).2.2 x14_5 p171 q171
                                        cases e171
                                        replace p171 := eq_true p171
                                        replace q171 := eq_true q171
                                        refine start_ (n := 9) (S := fun w' => w'.cell? (ad171.add (x14_5).toNat) = some (.int .i64 (rd t168 x14_5))) (ds := []) #[false, false, false, false, false, false, false, false, false] (by kernel_rfl) rfl rfl (hx171_0) (fun hHeld => ?_); refine with_tabW ratlinelaw19_MovesCircles.tab27 ratlinelaw19_MovesCircles.bits27 (fun HT_ HW_ => ?_)
                                        generalize wr.drew = w33 at HO_5 HO_8 HO_13 HB hx171_0 hHeld ⊢
                                        refine pure_ (i := 0) (N := some 89) (v := ?_) (a' := ?_) #[true, false, false, false, false, false, false, false, false] rfl rfl (any_of HT_.out (by kernel_rfl)) (fun _ _ _ h => h) (Or.inl ⟨by rfl, ?_⟩) ?_ ?_
                                        rotate_left
                                        · intro w'
                                          go_simp
                                          with_reducible rfl
                                        rotate_left
                                        · simp only [Act.put, List.setIfInBounds_toArray, List.set_cons_zero, List.set_cons_succ, i64_w, i32_w]
                                          rfl
                                        refine pure_ (i := 1) (N := some 90) (v := ?_) (a' := ?_) #[true, true, false, false, false, false, false, false, false] rfl rfl (any_of HT_.out (by kernel_rfl)) (fun _ _ _ h => h) (Or.inl ⟨by rfl, ?_⟩) ?_ ?_
                                        rotate_left
                                        · intro w'
                                          go_simp
                                          with_reducible rfl
                                        rotate_left
                                        · simp only [Act.put, List.setIfInBounds_toArray, List.set_cons_zero, List.set_cons_succ, i64_w, i32_w]
                                          rfl
                                        refine pure_ (i := 2) (N := some 91) (v := ?_) (a' := ?_) #[true, true, true, false, false, false, false, false, false] rfl rfl (any_of HT_.out (by kernel_rfl)) (fun _ _ _ h => h) (Or.inl ⟨by rfl, ?_⟩) ?_ ?_
                                        rotate_left
                                        · intro w'
                                          go_simp
                                          with_reducible rfl
                                        rotate_left
                                        · simp only [Act.put, List.setIfInBounds_toArray, List.set_cons_zero, List.set_cons_succ, i64_w, i32_w]
                                          rfl
                                        refine pure_ (i := 4) (N := some 93) (v := ?_) (a' := ?_) #[true, true, true, false, true, false, false, false, false] rfl rfl (any_of HT_.out (by kernel_rfl)) (fun _ _ _ h => h) (Or.inl ⟨by rfl, ?_⟩) ?_ ?_
                                        rotate_left
                                        · intro w'
                                          go_simp
                                          with_reducible rfl
                                        rotate_left
                                        · simp only [Act.put, List.setIfInBounds_toArray, List.set_cons_zero, List.set_cons_succ, i64_w, i32_w]
                                          rfl
                                        refine pure_ (i := 5) (N := some 94) (v := ?_) (a' := ?_) #[true, true, true, false, true, true, false, false, false] rfl rfl (any_of HT_.out (by kernel_rfl)) (fun _ _ _ h => h) (Or.inl ⟨by rfl, ?_⟩) ?_ ?_
                                        rotate_left
                                        · intro w'
                                          go_simp
                                          with_reducible rfl
                                        rotate_left
                                        · simp only [Act.put, List.setIfInBounds_toArray, List.set_cons_zero, List.set_cons_succ, i64_w, i32_w]
                                          rfl
                                        refine pure_ (i := 6) (N := some 95) (v := ?_) (a' := ?_) #[true, true, true, false, true, true, true, false, false] rfl rfl (any_of HT_.out (by kernel_rfl)) (fun _ _ _ h => h) (Or.inl ⟨by rfl, ?_⟩) ?_ ?_
                                        rotate_left
                                        · intro w'
                                          go_simp
                                          with_reducible rfl
                                        rotate_left
                                        · simp only [Act.put, List.setIfInBounds_toArray, List.set_cons_zero, List.set_cons_succ, i64_w, i32_w]
                                          rfl
                                        refine pure_ (i := 7) (N := some 96) (v := ?_) (a' := ?_) #[true, true, true, false, true, true, true, true, false] rfl rfl (any_of HT_.out (by kernel_rfl)) (fun _ _ _ h => h) (Or.inl ⟨by rfl, ?_⟩) ?_ ?_
                                        rotate_left
                                        · intro w'
                                          go_simp
                                          with_reducible rfl
                                        rotate_left
                                        · simp only [Act.put, List.setIfInBounds_toArray, List.set_cons_zero, List.set_cons_succ, i64_w, i32_w]
                                          rfl
                                        refine take_ (i := 3) (N := some 92) (v := ?_) (a' := ?_) #[true, true, true, true, true, true, true, true, false] rfl rfl (take_ofW HT_.out HW_.out (by kernel_rfl)) (fun _ _ _ h => h) (Or.inl ⟨by rfl, ?_⟩) hHeld ?_ ?_
                                        rotate_left
                                        · intro w' s0
                                          go_simp
                                          with_reducible rfl
                                        rotate_left
                                        · simp only [Act.put, List.setIfInBounds_toArray, List.set_cons_zero, List.set_cons_succ, i64_w, i32_w]
                                          rfl
                                        refine pure_ (i := 8) (N := some 97) (v := ?_) (a' := ?_) #[true, true, true, true, true, true, true, true, true] rfl rfl (any_of HT_.out (by kernel_rfl)) (fun _ _ _ h => h) (Or.inl ⟨by rfl, ?_⟩) ?_ ?_
                                        rotate_left
                                        · intro w'
                                          go_simp
                                          with_reducible rfl
                                        rotate_left
                                        · simp only [Act.put, List.setIfInBounds_toArray, List.set_cons_zero, List.set_cons_succ, i64_w, i32_w]
                                          rfl
                                        refine done_ (done_of HT_.out (by kernel_rfl)) ?_
                                        try go_wp2
                                        go_roundg k5
                                        case measure => have := HK1.out; have := HK2.out; have := HK3.out; have := HK4.out; have := HK5.out; omega
                                        case rel => exact ⟨(wrap64 (x14_5 + 1)), (by first | rfl | (simp; done) | (simp [*]; done)), H', ⟨by have := HK1.out; have := HK2.out; have := HK3.out; have := HK4.out; have := HK5.out; omega⟩, ⟨by (with_reducible repeat (first | apply Kd.R_alloc | apply Kd.R_drewN | apply Kd.R_drew)); exact HO_5.out⟩, ⟨by (with_reducible repeat (first | apply Kd.V_alloc | apply Kd.V_drewN | apply Kd.V_drew)); exact HO_8.out⟩, ⟨by (with_reducible repeat (first | apply Kd.R_alloc | apply Kd.R_drewN | apply Kd.R_drew)); exact HO_13.out⟩, ⟨by repeat (first | (with_reducible first | exact HB.out | apply below_alloc | apply pw_below_drewN | apply below_drew1) | exact HB.out)⟩⟩
                                      · rw [if_neg c32] at H
                                        exact absurd (Option.some.inj H) (by rw [hr.out]; decide)
                                  · rw [if_neg c30] at H
                                    exact absurd H (by simp)
                                · rw [if_neg c29] at H
                                  exact absurd H (by simp)
                              · rw [if_neg c28] at H
                                have c28b0 : decide (x14_5 < (wrap64 ((Int.tmod (Go.bits .and .i64 a0 65535) 29) + 2))) = false := decide_eq_false c28
                                clear c28
                                have H' := Aside0.mk H
                                clear H
                                go_wp2
                                go_loopg [15] k5 (fun kq v15 w' => ∃ (x15_6 : Int), v15 = .int .i64 x15_6 ∧ Aside0 (ratlinelaw19_MovesCircles.l5 kq (wrap64 ((Int.tmod (Go.bits .and .i64 a0 65535) 29) + 2)) (Go.bits .and .i64 a1 7) x5_2 t157 t168 x15_6 = some r) ∧ Aside0 (kq ≤ k5) ∧ Aside0 (Kd.R k34 34 w' w.heap.size (fun _ => True) (.slice Ao12 x5_2.length co12) x5_2) ∧ Aside0 (Kd.V k34 34 w' w.heap.size (fun k_ => some k_ ≠ ((.slice Ao12 x5_2.length co12) : Value).ownBlock ∧ some k_ ≠ (v169 : Value).ownBlock) (.slice Ao20 t157.length co20) t157) ∧ Aside0 (Kd.R (Kd.int .i64) 3 w' w.heap.size (fun _ => True) v169 t168) ∧ Aside0 (Below w.heap.size w w'))
                                case atStart => exact ⟨(0), (by first | rfl | (simp; done) | (simp [*]; done)), H', ⟨Nat.le_refl _⟩, ⟨by (with_reducible repeat (first | apply Kd.R_alloc | apply Kd.R_drewN | apply Kd.R_drew)); exact HO_5.out⟩, ⟨by (with_reducible repeat (first | apply Kd.V_alloc | apply Kd.V_drewN | apply Kd.V_drew)); exact HO_8.out⟩, ⟨by (with_reducible repeat (first | apply Kd.R_alloc | apply Kd.R_drewN | apply Kd.R_drew)); exact HO_13.out⟩, ⟨by repeat (first | (with_reducible first | exact HB.out | apply below_alloc | apply pw_below_drewN | apply below_drew1) | exact HB.out)⟩⟩
                                case round =>
                                  clear H'
                                  try clear c1
                                  try clear p1
                                  try clear q1
                                  try clear hx1
                                  try clear c2
                                  try clear p2
                                  try clear c3
                                  try clear c3b0
                                  try clear c4
                                  try clear c4b0
                                  try clear c4b1
                                  try clear c5
                                  try clear p6
                                  try clear c7
                                  try clear c7b0
                                  try clear c8
                                  try clear c8b0
                                  try clear c8b1
                                  try clear c9
                                  try clear c11
                                  try clear c14
                                  try clear c14b0
                                  try clear c15
                                  try clear c15b0
                                  try clear c16
                                  try clear p16
                                  try clear q16
                                  try clear hx16
                                  try clear p17
                                  try clear q17
                                  try clear hx17
                                  try clear c21
                                  try clear c21b0
                                  try clear c22
                                  try clear c28
                                  try clear c28b0
                                  try clear c29
                                  try clear c29b0
                                  try clear c30
                                  try clear c30b0
                                  try clear c31
                                  try clear c31b0
                                  try clear c31b1
                                  try clear c32
                                  try clear c32b0
                                  try clear c32b1
                                  try clear hx160_0
                                  try clear hx160_1
                                  try clear hx161_0
                                  try clear hx161_1
                                  try clear hx171_0
                                  try clear p1
                                  try clear p16
                                  try clear p160
                                  try clear p161
                                  try clear p171
                                  try clear p2
                                  try clear p6
                                  try clear q1
                                  try clear q16
                                  try clear q160
                                  try clear q161
                                  try clear q171
                                  obtain ⟨x15_6, rfl, HA, HK6, HO_5, HO_8, HO_13, HB⟩ := hrel
                                  cases gk with
                                  | zero => exact absurd HA.out (by simp [ratlinelaw19_MovesCircles.l5])
                                  | succ k6 =>
                                    have H := HA.out
                                    clear HA
                                    simp only [ratlinelaw19_MovesCircles.l5] at H
                                    by_cases c37 : x15_6 < (Go.bits .and .i64 a1 7)
                                    · rw [if_pos c37] at H
                                      have c37b0 : decide (x15_6 < (Go.bits .and .i64 a1 7)) = true := decide_eq_true c37
                                      clear c37
                                      obtain ⟨ji38, hji38⟩ : ∃ j_ : Int, (wrap64 ((wrap64 ((Int.tmod (Go.bits .and .i64 a0 65535) 29) + 2)) + x15_6)) = j_ := ⟨_, rfl⟩
                                      replace H : (if 0 ≤ (ji38) then (if (ji38) < (t168.length : Int) then (if (wrap64 ((Int.tmod (Go.bits .and .i64 a0 65535) 29) + 2)) = 0 then (none) else (if (rd t168 (ji38)) = (Int.tmod x15_6 (wrap64 ((Int.tmod (Go.bits .and .i64 a0 65535) 29) + 2))) then (ratlinelaw19_MovesCircles.l5 k6 (wrap64 ((Int.tmod (Go.bits .and .i64 a0 65535) 29) + 2)) (Go.bits .and .i64 a1 7) x5_2 t157 t168 (wrap64 (x15_6 + 1))) else (some false))) else (none)) else (none)) = some r := by first | (rw [hji38] at H; exact H) | (simp only [hji38] at H ⊢; exact H)
                                      have hji38w : (IntKind.i64.wrap ((wrap64 ((Int.tmod (Go.bits .and .i64 a0 65535) 29) + 2)) + x15_6)) = ji38 := (i64_w _).trans hji38
                                      by_cases c39 : 0 ≤ (ji38)
                                      · rw [if_pos c39] at H
                                        have c39b0 : decide (0 ≤ (ji38)) = true := decide_eq_true c39
                                        clear c39
                                        by_cases c40 : (ji38) < (t168.length : Int)
                                        · rw [if_pos c40] at H
                                          have c40b0 : decide ((ji38) < (t168.length : Int)) = true := decide_eq_true c40
                                          clear c40
                                          by_cases c41 : (wrap64 ((Int.tmod (Go.bits .and .i64 a0 65535) 29) + 2)) = 0
                                          · rw [if_pos c41] at H
                                            exact absurd H (by simp)
                                          · rw [if_neg c41] at H
                                            have c41b0 : ((wrap64 ((Int.tmod (Go.bits .and .i64 a0 65535) 29) + 2)) == 0) = false := beq_eq_false_iff_ne.mpr c41
                                            have c41b1 : ((wrap64 ((Int.tmod (Go.bits .and .i64 a0 65535) 29) + 2)) != 0) = true := bne_iff_ne.mpr c41
                                            by_cases c42 : (rd t168 (ji38)) = (Int.tmod x15_6 (wrap64 ((Int.tmod (Go.bits .and .i64 a0 65535) 29) + 2)))
                                            · rw [if_pos c42] at H
                                              have c42b0 : ((rd t168 (ji38)) == (Int.tmod x15_6 (wrap64 ((Int.tmod (Go.bits .and .i64 a0 65535) 29) + 2)))) = true := beq_iff_eq.mpr c42
                                              have c42b1 : ((rd t168 (ji38)) != (Int.tmod x15_6 (wrap64 ((Int.tmod (Go.bits .and .i64 a0 65535) 29) + 2)))) = false := bne_eq_false_iff_eq.mpr c42
                                              clear c42
                                              have H' := Aside0.mk H
                                              clear H
                                              try go_wp2
                                              have n0_ := Aside0.mk (Kd.R_drew HO_5.out)
                                              have n1_ := Aside0.mk (Kd.V_drew HO_8.out)
                                              have n2_ := Aside0.mk (Kd.R_drew HO_13.out)
                                              have n3_ := Aside0.mk (below_drew1 HB.out)
                                              clear HO_5
                                              clear HO_8
                                              clear HO_13
                                              clear HB
                                              have HO_5 := n0_
                                              have HO_8 := n1_
                                              have HO_13 := n2_
                                              have HB := n3_
                                              clear n0_ n1_ n2_ n3_
                                              obtain ⟨Ao44, co44, eo44⟩ := Kd.R_slice HO_13.out
                                              (first | subst eo44 | (injection eo44 with f1_ f2_ f3_; have f4_ := f1_.symm; have f5_ := f3_.symm; clear f1_ f2_ f3_; subst f4_; subst f5_))
                                              have p172 : 0 ≤ ((ji38) : Int) := of_decide_eq_true (by first | (with_reducible assumption) | assumption)
                                              have q172 : (ji38) < (t168.length : Int) := of_decide_eq_true (by first | (with_reducible assumption) | assumption)
                                              obtain ⟨ad172, e172, hx172_0⟩ := Kd.at_int (Kd.R_reads' HO_13.out).2.2 (ji38) p172 q172
                                              cases e172
                                              replace p172 := eq_true p172
                                              replace q172 := eq_true q172
                                              refine start_ (n := 10) (S := fun w' => w'.cell? (ad172.add ((ji38)).toNat) = some (.int .i64 (rd t168 (ji38)))) (ds := []) #[false, false, false, false, false, false, false, false, false, false] (by kernel_rfl) rfl rfl (hx172_0) (fun hHeld => ?_); refine with_tabW ratlinelaw19_MovesCircles.tab32 ratlinelaw19_MovesCircles.bits32 (fun HT_ HW_ => ?_)
                                              generalize wr.drew = w43 at HO_5 HO_8 HO_13 HB hx172_0 hHeld ⊢
                                              refine pure_ (i := 0) (N := some 103) (v := ?_) (a' := ?_) #[true, false, false, false, false, false, false, false, false, false] rfl rfl (any_of HT_.out (by kernel_rfl)) (fun _ _ _ h => h) (Or.inl ⟨by rfl, ?_⟩) ?_ ?_
                                              rotate_left
                                              · intro w'
                                                go_simp
                                                with_reducible rfl
                                              rotate_left
                                              · simp only [Act.put, List.setIfInBounds_toArray, List.set_cons_zero, List.set_cons_succ, i64_w, i32_w]
                                                rfl
                                              refine pure_ (i := 1) (N := some 104) (v := ?_) (a' := ?_) #[true, true, false, false, false, false, false, false, false, false] rfl rfl (any_of HT_.out (by kernel_rfl)) (fun _ _ _ h => h) (Or.inl ⟨by rfl, ?_⟩) ?_ ?_
                                              rotate_left
                                              · intro w'
                                                go_simp
                                                with_reducible rfl
                                              rotate_left
                                              · simp only [Act.put, List.setIfInBounds_toArray, List.set_cons_zero, List.set_cons_succ, i64_w, i32_w]
                                                rfl
                                              refine pure_ (i := 2) (N := some 105) (v := ?_) (a' := ?_) #[true, true, true, false, false, false, false, false, false, false] rfl rfl (any_of HT_.out (by kernel_rfl)) (fun _ _ _ h => h) (Or.inl ⟨by rfl, ?_⟩) ?_ ?_
                                              rotate_left
                                              · intro w'
                                                go_simp
                                                with_reducible rfl
                                              rotate_left
                                              · simp only [Act.put, List.setIfInBounds_toArray, List.set_cons_zero, List.set_cons_succ, i64_w, i32_w]
                                                rfl
                                              refine pure_ (i := 3) (N := some 106) (v := ?_) (a' := ?_) #[true, true, true, true, false, false, false, false, false, false] rfl rfl (any_of HT_.out (by kernel_rfl)) (fun _ _ _ h => h) (Or.inl ⟨by rfl, ?_⟩) ?_ ?_
                                              rotate_left
                                              · intro w'
                                                go_simp
                                                with_reducible rfl
                                              rotate_left
                                              · simp only [Act.put, List.setIfInBounds_toArray, List.set_cons_zero, List.set_cons_succ, i64_w, i32_w]
                                                rfl
                                              refine pure_ (i := 4) (N := some 107) (v := ?_) (a' := ?_) #[true, true, true, true, true, false, false, false, false, false] rfl rfl (any_of HT_.out (by kernel_rfl)) (fun _ _ _ h => h) (Or.inl ⟨by rfl, ?_⟩) ?_ ?_
                                              rotate_left
                                              · intro w'
                                                go_simp
                                                with_reducible rfl
                                              rotate_left
                                              · simp only [Act.put, List.setIfInBounds_toArray, List.set_cons_zero, List.set_cons_succ, i64_w, i32_w]
                                                rfl
                                              refine pure_ (i := 6) (N := some 109) (v := ?_) (a' := ?_) #[true, true, true, true, true, false, true, false, false, false] rfl rfl (any_of HT_.out (by kernel_rfl)) (fun _ _ _ h => h) (Or.inl ⟨by rfl, ?_⟩) ?_ ?_
                                              rotate_left
                                              · intro w'
                                                go_simp
                                                with_reducible rfl
                                              rotate_left
                                              · simp only [Act.put, List.setIfInBounds_toArray, List.set_cons_zero, List.set_cons_succ, i64_w, i32_w]
                                                rfl
                                              refine pure_ (i := 7) (N := some 110) (v := ?_) (a' := ?_) #[true, true, true, true, true, false, true, true, false, false] rfl rfl (any_of HT_.out (by kernel_rfl)) (fun _ _ _ h => h) (Or.inl ⟨by rfl, ?_⟩) ?_ ?_
                                              rotate_left
                                              · intro w'
                                                go_simp
                                                with_reducible rfl
                                              rotate_left
                                              · simp only [Act.put, List.setIfInBounds_toArray, List.set_cons_zero, List.set_cons_succ, i64_w, i32_w]
                                                rfl
                                              refine pure_ (i := 8) (N := some 111) (v := ?_) (a' := ?_) #[true, true, true, true, true, false, true, true, true, false] rfl rfl (any_of HT_.out (by kernel_rfl)) (fun _ _ _ h => h) (Or.inl ⟨by rfl, ?_⟩) ?_ ?_
                                              rotate_left
                                              · intro w'
                                                go_simp
                                                with_reducible rfl
                                              rotate_left
                                              · simp only [Act.put, List.setIfInBounds_toArray, List.set_cons_zero, List.set_cons_succ, i64_w, i32_w]
                                                rfl
                                              refine take_ (i := 5) (N := some 108) (v := ?_) (a' := ?_) #[true, true, true, true, true, true, true, true, true, false] rfl rfl (take_ofW HT_.out HW_.out (by kernel_rfl)) (fun _ _ _ h => h) (Or.inl ⟨by rfl, ?_⟩) hHeld ?_ ?_
                                              rotate_left
                                              · intro w' s0
                                                go_simp
                                                with_reducible rfl
                                              rotate_left
                                              · simp only [Act.put, List.setIfInBounds_toArray, List.set_cons_zero, List.set_cons_succ, i64_w, i32_w]
                                                rfl
                                              refine pure_ (i := 9) (N := some 112) (v := ?_) (a' := ?_) #[true, true, true, true, true, true, true, true, true, true] rfl rfl (any_of HT_.out (by kernel_rfl)) (fun _ _ _ h => h) (Or.inl ⟨by rfl, ?_⟩) ?_ ?_
                                              rotate_left
                                              · intro w'
                                                go_simp
                                                with_reducible rfl
                                              rotate_left
                                              · simp only [Act.put, List.setIfInBounds_toArray, List.set_cons_zero, List.set_cons_succ, i64_w, i32_w]
                                                rfl
                                              refine done_ (done_of HT_.out (by kernel_rfl)) ?_
                                              try go_wp2
                                              go_roundg k6
                                              case measure => have := HK1.out; have := HK2.out; have := HK3.out; have := HK4.out; have := HK5.out; have := HK6.out; omega
                                              case rel => exact ⟨(wrap64 (x15_6 + 1)), (by first | rfl | (simp; done) | (simp [*]; done)), H', ⟨by have := HK1.out; have := HK2.out; have := HK3.out; have := HK4.out; have := HK5.out; have := HK6.out; omega⟩, ⟨by (with_reducible repeat (first | apply Kd.R_alloc | apply Kd.R_drewN | apply Kd.R_drew)); exact HO_5.out⟩, ⟨by (with_reducible repeat (first | apply Kd.V_alloc | apply Kd.V_drewN | apply Kd.V_drew)); exact HO_8.out⟩, ⟨by (with_reducible repeat (first | apply Kd.R_alloc | apply Kd.R_drewN | apply Kd.R_drew)); exact HO_13.out⟩, ⟨by repeat (first | (with_reducible first | exact HB.out | apply below_alloc | apply pw_below_drewN | apply below_drew1) | exact HB.out)⟩⟩
                                            · rw [if_neg c42] at H
                                              exact absurd (Option.some.inj H) (by rw [hr.out]; decide)
                                        · rw [if_neg c40] at H
                                          exact absurd H (by simp)
                                      · rw [if_neg c39] at H
                                        exact absurd H (by simp)
                                    · rw [if_neg c37] at H
                                      have c37b0 : decide (x15_6 < (Go.bits .and .i64 a1 7)) = false := decide_eq_false c37
                                      clear c37
                                      by_cases c47 : (t157.length : Int) = (wrap64 ((wrap64 ((wrap64 ((Int.tmod (Go.bits .and .i64 a0 65535) 29) + 2)) + (Go.bits .and .i64 a1 7))) + 1))
                                      · rw [if_pos c47] at H
                                        have c47b0 : ((t157.length : Int) == (wrap64 ((wrap64 ((wrap64 ((Int.tmod (Go.bits .and .i64 a0 65535) 29) + 2)) + (Go.bits .and .i64 a1 7))) + 1))) = true := beq_iff_eq.mpr c47
                                        have c47b1 : ((t157.length : Int) != (wrap64 ((wrap64 ((wrap64 ((Int.tmod (Go.bits .and .i64 a0 65535) 29) + 2)) + (Go.bits .and .i64 a1 7))) + 1))) = false := bne_eq_false_iff_eq.mpr c47
                                        clear c47
                                        replace H := Option.bind_eq_some_iff.mp H
                                        obtain ⟨t173, A480, H⟩ := H
                                        replace H : (if t173 = (wrap64 ((wrap64 ((wrap64 ((Int.tmod (Go.bits .and .i64 a0 65535) 29) + 2)) + (Go.bits .and .i64 a1 7))) + 1)) then ((ratlinelaw19_awake.f k6).bind fun t174 => (some t174)) else (some false)) = some r := H
                                        have A48 := Aside0.mk A480
                                        clear A480
                                        by_cases c49 : t173 = (wrap64 ((wrap64 ((wrap64 ((Int.tmod (Go.bits .and .i64 a0 65535) 29) + 2)) + (Go.bits .and .i64 a1 7))) + 1))
                                        · rw [if_pos c49] at H
                                          have c49b0 : (t173 == (wrap64 ((wrap64 ((wrap64 ((Int.tmod (Go.bits .and .i64 a0 65535) 29) + 2)) + (Go.bits .and .i64 a1 7))) + 1))) = true := beq_iff_eq.mpr c49
                                          have c49b1 : (t173 != (wrap64 ((wrap64 ((wrap64 ((Int.tmod (Go.bits .and .i64 a0 65535) 29) + 2)) + (Go.bits .and .i64 a1 7))) + 1))) = false := bne_eq_false_iff_eq.mpr c49
                                          clear c49
                                          replace H := Option.bind_eq_some_iff.mp H
                                          obtain ⟨t174, A500, H⟩ := H
                                          replace H : (some t174) = some r := H
                                          have A50 := Aside0.mk A500
                                          clear A500
                                          obtain rfl := Option.some.inj H
                                          go_wp2_with (first | (go_at_call 12; (with_reducible refine (moves_Cost.calls k6 _ _ x5_2 t173 _ ?side1 ?side2 A48.out).mono ?_); (case side1 => repeat (first | exact (Kd.R_reads' HO_5.out).2.2 | (with_reducible refine Kd.C_alloc ?_ _) | (with_reducible refine Kd.C_drewN ?_ _) | (with_reducible refine Kd.C_drew ?_))); (case side2 => exact (Kd.R_reads' HO_5.out).2.1); rintro e w51 ⟨rfl, hb⟩; have n0_ := Aside0.mk (Kd.R_below (by (with_reducible repeat (first | apply Kd.R_alloc | apply Kd.R_drewN | apply Kd.R_drew)); exact HO_5.out) hb); have n1_ := Aside0.mk (Kd.V_below (by (with_reducible repeat (first | apply Kd.V_alloc | apply Kd.V_drewN | apply Kd.V_drew)); exact HO_8.out) hb); have n2_ := Aside0.mk (Kd.R_below (by (with_reducible repeat (first | apply Kd.R_alloc | apply Kd.R_drewN | apply Kd.R_drew)); exact HO_13.out) hb); have n3_ := Aside0.mk (below_step (by repeat (first | (with_reducible first | exact HB.out | apply below_alloc | apply pw_below_drewN | apply below_drew1) | exact HB.out)) hb); clear HO_5; clear HO_8; clear HO_13; clear HB; have HO_5 := n0_; have HO_8 := n1_; have HO_13 := n2_; have HB := n3_; clear n0_ n1_ n2_ n3_; (try clear hb); (try clear hb2); (try clear hk); (try clear hi)) | (go_at_call 6; (with_reducible refine (ratlinelaw19_awake.calls k6  t174 _ A50.out).mono ?_); rintro e w52 ⟨rfl, hb⟩; have n0_ := Aside0.mk (Kd.R_below (by (with_reducible repeat (first | apply Kd.R_alloc | apply Kd.R_drewN | apply Kd.R_drew)); exact HO_5.out) hb); have n1_ := Aside0.mk (Kd.V_below (by (with_reducible repeat (first | apply Kd.V_alloc | apply Kd.V_drewN | apply Kd.V_drew)); exact HO_8.out) hb); have n2_ := Aside0.mk (Kd.R_below (by (with_reducible repeat (first | apply Kd.R_alloc | apply Kd.R_drewN | apply Kd.R_drew)); exact HO_13.out) hb); have n3_ := Aside0.mk (below_step (by repeat (first | (with_reducible first | exact HB.out | apply below_alloc | apply pw_below_drewN | apply below_drew1) | exact HB.out)) hb); clear HO_5; clear HO_8; clear HO_13; clear HB; have HO_5 := n0_; have HO_8 := n1_; have HO_13 := n2_; have HB := n3_; clear n0_ n1_ n2_ n3_; (try clear hb); (try clear hb2); (try clear hk); (try clear hi)))
                                          go_ret
                                          exact ⟨by first | rfl | (simp [errW_none, errW_some] <;> rfl) | (simp [*, errW_none, errW_some] <;> rfl), by repeat (first | (with_reducible first | exact HB.out | apply below_alloc | apply pw_below_drewN | apply below_drew1) | exact HB.out)⟩
                                        · rw [if_neg c49] at H
                                          exact absurd (Option.some.inj H) (by rw [hr.out]; decide)
                                      · rw [if_neg c47] at H
                                        exact absurd (Option.some.inj H) (by rw [hr.out]; decide)

/-- THE ONE PURE STATEMENT of ratlinelaw19_MovesCircles: yours. -/
def ratlinelaw19_MovesCircles.Pure : Prop := ∀ (a0 : Int) (a1 : Int), (Lit.int .i64 a0).wf = true → (Lit.int .i64 a1).wf = true → ∃ k, ratlinelaw19_MovesCircles.f k a0 a1 = some true
theorem ratlinelaw19_MovesCircles.walk (P : ratlinelaw19_MovesCircles.Pure) (a0 : Int) (a1 : Int) (w : World) (w0 : (Lit.int .i64 a0).wf = true) (w1 : (Lit.int .i64 a1).wf = true) :
    Calls Try.prog 4 #[.int .i64 a0, .int .i64 a1] w fun e w' => e = .returned (.bool true) ∧ Below w.heap.size w w' := by
  obtain ⟨k, h⟩ := P a0 a1 w0 w1
  refine (ratlinelaw19_MovesCircles.calls k a0 a1 true ⟨rfl⟩ w h).mono ?_
  rintro e w' ⟨rfl, hd⟩
  exact ⟨rfl, hd⟩

end Go.Proofs.Ytcfomfcalpnbcaa.PG
