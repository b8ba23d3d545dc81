-- By the session's own program out of the kit's print, with texts of the session's own for the functions that the print does not take.
import Derived.Test.YtjflddnmkajleaaPGx0
import Derived.Test.YtjflddnmkajleaaPGx2
import Derived.Test.YtjflddnmkajleaaPGx4
import Derived.Test.YtjflddnmkajleaaPGx5
namespace Go.Proofs.Ytjflddnmkajleaa.PG
open Go.RowKit Go.Proofs.YtjflddnmkajleaaW.PrintWords Go.Proofs.YtjflddnmkajleaaW.PrintLast Go.Proofs.YtjflddnmkajleaaW.PrintMore
attribute [local go_sem] max2_int min2_int max_two min_two max_three min_three max_four min_four   -- for this text's walks alone
set_option linter.unusedVariables false
set_option linter.unusedSimpArgs false

/-! ### graph_doms: function 26 -/
mutual
def graph_doms.l0 : Nat → List (List Int) → List Int → List Int → Int → Int → Option (List Int)
  | 0, _, _, _, _, _ => none
  | k + 1, x0, x3, x4, x23, x24 => if x24 < x23 then (if 0 ≤ x24 then (if x24 < (x3.length : Int) then (graph_doms.l0 k x0 (x3.set (x24 : Int).toNat (-1)) x4 x23 (wrap64 (x24 + 1))) else (none)) else (none)) else ((graph_order.f k x0).bind fun t152 => (graph_doms.l1 k x0 x3 x4 t152 t152 (t152.length : Int) 0))
def graph_doms.l1 : Nat → List (List Int) → List Int → List Int → List Int → List Int → Int → Int → Option (List Int)
  | 0, _, _, _, _, _, _, _ => none
  | k + 1, x0, x3, x4, x6, x33, x34, x35 => if x35 < x34 then (if 0 ≤ x35 then (if x35 < (x33.length : Int) then (if 0 ≤ (rd x33 x35) then (if (rd x33 x35) < (x4.length : Int) then (graph_doms.l1 k x0 x3 (x4.set ((rd x33 x35) : Int).toNat x35) x6 x33 x34 (wrap64 (x35 + 1))) else (none)) else (none)) else (none)) else (none)) else ((graph_preds.f k x0).bind fun t157 => (graph_doms.l2 k x3 x4 x6 t157 true))
def graph_doms.l2 : Nat → List Int → List Int → List Int → List (List Int) → Bool → Option (List Int)
  | 0, _, _, _, _, _ => none
  | k + 1, x3, x4, x6, x9, x10 => if x10 = true then (if 0 ≤ (mn 1 (x6.length : Int)) then (if (mn 1 (x6.length : Int)) ≤ (x6.length : Int) then ((some (x6.drop ((mn 1 (x6.length : Int)) : Int).toNat : List Int)).bind fun y160 => (graph_doms.l3 k x3 x4 x6 x9 false y160 (y160.length : Int) 0)) else (none)) else (none)) else (some x3)
def graph_doms.l3 : Nat → List Int → List Int → List Int → List (List Int) → Bool → List Int → Int → Int → Option (List Int)
  | 0, _, _, _, _, _, _, _, _ => none
  | k + 1, x3, x4, x6, x9, x10, x52, x53, x54 => if x54 < x53 then (if 0 ≤ x54 then (if x54 < (x52.length : Int) then (if 0 ≤ (rd x52 x54) then (if (rd x52 x54) < (x9.length : Int) then (graph_doms.l4 k x3 x4 x6 x9 x10 (rd x52 x54) (-1) x52 x53 x54 (rd_L1 x9 (rd x52 x54)) ((rd_L1 x9 (rd x52 x54)).length : Int) 0) else (none)) else (none)) else (none)) else (none)) else (graph_doms.l2 k x3 x4 x6 x9 x10)
def graph_doms.l4 : Nat → List Int → List Int → List Int → List (List Int) → Bool → Int → Int → List Int → Int → Int → List Int → Int → Int → Option (List Int)
  | 0, _, _, _, _, _, _, _, _, _, _, _, _, _ => none
  | k + 1, x3, x4, x6, x9, x10, x12, x13, x52, x53, x54, x61, x62, x63 => if x63 < x62 then (if 0 ≤ x63 then (if x63 < (x61.length : Int) then (if (rd x61 x63) = 0 then (graph_doms.j5 k x3 x4 x6 x9 x10 x12 x13 (rd x61 x63) x52 x53 x54 x61 x62 x63 false) else (if 0 ≤ (rd x61 x63) then (if (rd x61 x63) < (x3.length : Int) then (graph_doms.j5 k x3 x4 x6 x9 x10 x12 x13 (rd x61 x63) x52 x53 x54 x61 x62 x63 (decide ((rd x3 (rd x61 x63)) < 0))) else (none)) else (none))) else (none)) else (none)) else (if 0 ≤ x12 then (if x12 < (x3.length : Int) then (if (rd x3 x12) = x13 then (graph_doms.l3 k x3 x4 x6 x9 x10 x52 x53 (wrap64 (x54 + 1))) else (graph_doms.l3 k (x3.set (x12 : Int).toNat x13) x4 x6 x9 true x52 x53 (wrap64 (x54 + 1)))) else (none)) else (none))
def graph_doms.j5 : Nat → List Int → List Int → List Int → List (List Int) → Bool → Int → Int → Int → List Int → Int → Int → List Int → Int → Int → Bool → Option (List Int)
  | 0, _, _, _, _, _, _, _, _, _, _, _, _, _, _, _ => none
  | k + 1, x3, x4, x6, x9, x10, x12, x13, x15, x52, x53, x54, x61, x62, x63, x72 => if x72 = true then (graph_doms.l4 k x3 x4 x6 x9 x10 x12 x13 x52 x53 x54 x61 x62 (wrap64 (x63 + 1))) else (if x13 < 0 then (graph_doms.l4 k x3 x4 x6 x9 x10 x12 x15 x52 x53 x54 x61 x62 (wrap64 (x63 + 1))) else ((graph_meet.f k x3 x4 x13 x15).bind fun t170 => (graph_doms.l4 k x3 x4 x6 x9 x10 x12 t170 x52 x53 x54 x61 x62 (wrap64 (x63 + 1)))))
end
def graph_doms.f (k : Nat) (l0 : List (List Int)) : Option (List Int) := if 0 ≤ (l0.length : Int) then (if ((l0.length : Int) : Int).toNat ≤ 35184372088832 then ((some (List.replicate ((l0.length : Int) : Int).toNat 0 : List Int)).bind fun y145 => (graph_doms.l0 k l0 y145 (List.replicate ((l0.length : Int) : Int).toNat 0) (y145.length : Int) 0)) else (none)) else (none)
theorem graph_doms.mono_l : ∀ k, (∀ y0 y1 y2 y3 y4, LeO (graph_doms.l0 k y0 y1 y2 y3 y4) (graph_doms.l0 (k + 1) y0 y1 y2 y3 y4)) ∧ (∀ y0 y1 y2 y3 y4 y5 y6, LeO (graph_doms.l1 k y0 y1 y2 y3 y4 y5 y6) (graph_doms.l1 (k + 1) y0 y1 y2 y3 y4 y5 y6)) ∧ (∀ y0 y1 y2 y3 y4, LeO (graph_doms.l2 k y0 y1 y2 y3 y4) (graph_doms.l2 (k + 1) y0 y1 y2 y3 y4)) ∧ (∀ y0 y1 y2 y3 y4 y5 y6 y7, LeO (graph_doms.l3 k y0 y1 y2 y3 y4 y5 y6 y7) (graph_doms.l3 (k + 1) y0 y1 y2 y3 y4 y5 y6 y7)) ∧ (∀ y0 y1 y2 y3 y4 y5 y6 y7 y8 y9 y10 y11 y12, LeO (graph_doms.l4 k y0 y1 y2 y3 y4 y5 y6 y7 y8 y9 y10 y11 y12) (graph_doms.l4 (k + 1) y0 y1 y2 y3 y4 y5 y6 y7 y8 y9 y10 y11 y12)) ∧ (∀ y0 y1 y2 y3 y4 y5 y6 y7 y8 y9 y10 y11 y12 y13 y14, LeO (graph_doms.j5 k y0 y1 y2 y3 y4 y5 y6 y7 y8 y9 y10 y11 y12 y13 y14) (graph_doms.j5 (k + 1) y0 y1 y2 y3 y4 y5 y6 y7 y8 y9 y10 y11 y12 y13 y14))
  | 0 => ⟨fun _ _ _ _ _ r h => by simp [graph_doms.l0] at h, fun _ _ _ _ _ _ _ r h => by simp [graph_doms.l1] at h, fun _ _ _ _ _ r h => by simp [graph_doms.l2] at h, fun _ _ _ _ _ _ _ _ r h => by simp [graph_doms.l3] at h, fun _ _ _ _ _ _ _ _ _ _ _ _ _ r h => by simp [graph_doms.l4] at h, fun _ _ _ _ _ _ _ _ _ _ _ _ _ _ _ r h => by simp [graph_doms.j5] at h⟩
  | k + 1 => by
    obtain ⟨ih0, ih1, ih2, ih3, ih4, ih5⟩ := graph_doms.mono_l k
    refine ⟨?_, ?_, ?_, ?_, ?_, ?_⟩
    · intro y0 y1 y2 y3 y4
      unfold graph_doms.l0
      repeat' first
      | (with_reducible exact ih0 _ _ _ _ _)
      | (with_reducible exact ih1 _ _ _ _ _ _ _)
      | (with_reducible exact ih2 _ _ _ _ _)
      | (with_reducible exact ih3 _ _ _ _ _ _ _ _)
      | (with_reducible exact ih4 _ _ _ _ _ _ _ _ _ _ _ _ _)
      | (with_reducible exact ih5 _ _ _ _ _ _ _ _ _ _ _ _ _ _ _)
      | (with_reducible exact graph_meet.mono _ _ _ _ _)
      | (with_reducible exact graph_order.mono _ _)
      | (with_reducible exact graph_preds.mono _ _)
      | (with_reducible exact LeO.refl _)
      | (with_reducible exact LeO.none _)
      | (with_reducible refine LeO.ite ?_ ?_)
      | (with_reducible refine LeO.bind ?_ (fun _ => ?_))
      | exact ih0 _ _ _ _ _
      | exact ih1 _ _ _ _ _ _ _
      | exact ih2 _ _ _ _ _
      | exact ih3 _ _ _ _ _ _ _ _
      | exact ih4 _ _ _ _ _ _ _ _ _ _ _ _ _
      | exact ih5 _ _ _ _ _ _ _ _ _ _ _ _ _ _ _
      | exact graph_meet.mono _ _ _ _ _
      | exact graph_order.mono _ _
      | exact graph_preds.mono _ _
      | exact LeO.none _
      | refine LeO.ite ?_ ?_
      | refine LeO.bind ?_ (fun _ => ?_)
    · intro y0 y1 y2 y3 y4 y5 y6
      unfold graph_doms.l1
      repeat' first
      | (with_reducible exact ih0 _ _ _ _ _)
      | (with_reducible exact ih1 _ _ _ _ _ _ _)
      | (with_reducible exact ih2 _ _ _ _ _)
      | (with_reducible exact ih3 _ _ _ _ _ _ _ _)
      | (with_reducible exact ih4 _ _ _ _ _ _ _ _ _ _ _ _ _)
      | (with_reducible exact ih5 _ _ _ _ _ _ _ _ _ _ _ _ _ _ _)
      | (with_reducible exact graph_meet.mono _ _ _ _ _)
      | (with_reducible exact graph_order.mono _ _)
      | (with_reducible exact graph_preds.mono _ _)
      | (with_reducible exact LeO.refl _)
      | (with_reducible exact LeO.none _)
      | (with_reducible refine LeO.ite ?_ ?_)
      | (with_reducible refine LeO.bind ?_ (fun _ => ?_))
      | exact ih0 _ _ _ _ _
      | exact ih1 _ _ _ _ _ _ _
      | exact ih2 _ _ _ _ _
      | exact ih3 _ _ _ _ _ _ _ _
      | exact ih4 _ _ _ _ _ _ _ _ _ _ _ _ _
      | exact ih5 _ _ _ _ _ _ _ _ _ _ _ _ _ _ _
      | exact graph_meet.mono _ _ _ _ _
      | exact graph_order.mono _ _
      | exact graph_preds.mono _ _
      | exact LeO.none _
      | refine LeO.ite ?_ ?_
      | refine LeO.bind ?_ (fun _ => ?_)
    · intro y0 y1 y2 y3 y4
      unfold graph_doms.l2
      repeat' first
      | (with_reducible exact ih0 _ _ _ _ _)
      | (with_reducible exact ih1 _ _ _ _ _ _ _)
      | (with_reducible exact ih2 _ _ _ _ _)
      | (with_reducible exact ih3 _ _ _ _ _ _ _ _)
      | (with_reducible exact ih4 _ _ _ _ _ _ _ _ _ _ _ _ _)
      | (with_reducible exact ih5 _ _ _ _ _ _ _ _ _ _ _ _ _ _ _)
      | (with_reducible exact graph_meet.mono _ _ _ _ _)
      | (with_reducible exact graph_order.mono _ _)
      | (with_reducible exact graph_preds.mono _ _)
      | (with_reducible exact LeO.refl _)
      | (with_reducible exact LeO.none _)
      | (with_reducible refine LeO.ite ?_ ?_)
      | (with_reducible refine LeO.bind ?_ (fun _ => ?_))
      | exact ih0 _ _ _ _ _
      | exact ih1 _ _ _ _ _ _ _
      | exact ih2 _ _ _ _ _
      | exact ih3 _ _ _ _ _ _ _ _
      | exact ih4 _ _ _ _ _ _ _ _ _ _ _ _ _
      | exact ih5 _ _ _ _ _ _ _ _ _ _ _ _ _ _ _
      | exact graph_meet.mono _ _ _ _ _
      | exact graph_order.mono _ _
      | exact graph_preds.mono _ _
      | exact LeO.none _
      | refine LeO.ite ?_ ?_
      | refine LeO.bind ?_ (fun _ => ?_)
    · intro y0 y1 y2 y3 y4 y5 y6 y7
      unfold graph_doms.l3
      repeat' first
      | (with_reducible exact ih0 _ _ _ _ _)
      | (with_reducible exact ih1 _ _ _ _ _ _ _)
      | (with_reducible exact ih2 _ _ _ _ _)
      | (with_reducible exact ih3 _ _ _ _ _ _ _ _)
      | (with_reducible exact ih4 _ _ _ _ _ _ _ _ _ _ _ _ _)
      | (with_reducible exact ih5 _ _ _ _ _ _ _ _ _ _ _ _ _ _ _)
      | (with_reducible exact graph_meet.mono _ _ _ _ _)
      | (with_reducible exact graph_order.mono _ _)
      | (with_reducible exact graph_preds.mono _ _)
      | (with_reducible exact LeO.refl _)
      | (with_reducible exact LeO.none _)
      | (with_reducible refine LeO.ite ?_ ?_)
      | (with_reducible refine LeO.bind ?_ (fun _ => ?_))
      | exact ih0 _ _ _ _ _
      | exact ih1 _ _ _ _ _ _ _
      | exact ih2 _ _ _ _ _
      | exact ih3 _ _ _ _ _ _ _ _
      | exact ih4 _ _ _ _ _ _ _ _ _ _ _ _ _
      | exact ih5 _ _ _ _ _ _ _ _ _ _ _ _ _ _ _
      | exact graph_meet.mono _ _ _ _ _
      | exact graph_order.mono _ _
      | exact graph_preds.mono _ _
      | exact LeO.none _
      | refine LeO.ite ?_ ?_
      | refine LeO.bind ?_ (fun _ => ?_)
    · intro y0 y1 y2 y3 y4 y5 y6 y7 y8 y9 y10 y11 y12
      unfold graph_doms.l4
      repeat' first
      | (with_reducible exact ih0 _ _ _ _ _)
      | (with_reducible exact ih1 _ _ _ _ _ _ _)
      | (with_reducible exact ih2 _ _ _ _ _)
      | (with_reducible exact ih3 _ _ _ _ _ _ _ _)
      | (with_reducible exact ih4 _ _ _ _ _ _ _ _ _ _ _ _ _)
      | (with_reducible exact ih5 _ _ _ _ _ _ _ _ _ _ _ _ _ _ _)
      | (with_reducible exact graph_meet.mono _ _ _ _ _)
      | (with_reducible exact graph_order.mono _ _)
      | (with_reducible exact graph_preds.mono _ _)
      | (with_reducible exact LeO.refl _)
      | (with_reducible exact LeO.none _)
      | (with_reducible refine LeO.ite ?_ ?_)
      | (with_reducible refine LeO.bind ?_ (fun _ => ?_))
      | exact ih0 _ _ _ _ _
      | exact ih1 _ _ _ _ _ _ _
      | exact ih2 _ _ _ _ _
      | exact ih3 _ _ _ _ _ _ _ _
      | exact ih4 _ _ _ _ _ _ _ _ _ _ _ _ _
      | exact ih5 _ _ _ _ _ _ _ _ _ _ _ _ _ _ _
      | exact graph_meet.mono _ _ _ _ _
      | exact graph_order.mono _ _
      | exact graph_preds.mono _ _
      | exact LeO.none _
      | refine LeO.ite ?_ ?_
      | refine LeO.bind ?_ (fun _ => ?_)
    · intro y0 y1 y2 y3 y4 y5 y6 y7 y8 y9 y10 y11 y12 y13 y14
      unfold graph_doms.j5
      repeat' first
      | (with_reducible exact ih0 _ _ _ _ _)
      | (with_reducible exact ih1 _ _ _ _ _ _ _)
      | (with_reducible exact ih2 _ _ _ _ _)
      | (with_reducible exact ih3 _ _ _ _ _ _ _ _)
      | (with_reducible exact ih4 _ _ _ _ _ _ _ _ _ _ _ _ _)
      | (with_reducible exact ih5 _ _ _ _ _ _ _ _ _ _ _ _ _ _ _)
      | (with_reducible exact graph_meet.mono _ _ _ _ _)
      | (with_reducible exact graph_order.mono _ _)
      | (with_reducible exact graph_preds.mono _ _)
      | (with_reducible exact LeO.refl _)
      | (with_reducible exact LeO.none _)
      | (with_reducible refine LeO.ite ?_ ?_)
      | (with_reducible refine LeO.bind ?_ (fun _ => ?_))
      | exact ih0 _ _ _ _ _
      | exact ih1 _ _ _ _ _ _ _
      | exact ih2 _ _ _ _ _
      | exact ih3 _ _ _ _ _ _ _ _
      | exact ih4 _ _ _ _ _ _ _ _ _ _ _ _ _
      | exact ih5 _ _ _ _ _ _ _ _ _ _ _ _ _ _ _
      | exact graph_meet.mono _ _ _ _ _
      | exact graph_order.mono _ _
      | exact graph_preds.mono _ _
      | exact LeO.none _
      | refine LeO.ite ?_ ?_
      | refine LeO.bind ?_ (fun _ => ?_)
theorem graph_doms.mono : ∀ a0 k, LeO (graph_doms.f k a0) (graph_doms.f (k + 1) a0) := by
  intro a0 k
  obtain ⟨ih0, ih1, ih2, ih3, ih4, ih5⟩ := graph_doms.mono_l k
  unfold graph_doms.f
  repeat' first
      | (with_reducible exact ih0 _ _ _ _ _)
      | (with_reducible exact ih1 _ _ _ _ _ _ _)
      | (with_reducible exact ih2 _ _ _ _ _)
      | (with_reducible exact ih3 _ _ _ _ _ _ _ _)
      | (with_reducible exact ih4 _ _ _ _ _ _ _ _ _ _ _ _ _)
      | (with_reducible exact ih5 _ _ _ _ _ _ _ _ _ _ _ _ _ _ _)
      | (with_reducible exact graph_meet.mono _ _ _ _ _)
      | (with_reducible exact graph_order.mono _ _)
      | (with_reducible exact graph_preds.mono _ _)
      | (with_reducible exact LeO.refl _)
      | (with_reducible exact LeO.none _)
      | (with_reducible refine LeO.ite ?_ ?_)
      | (with_reducible refine LeO.bind ?_ (fun _ => ?_))
      | exact ih0 _ _ _ _ _
      | exact ih1 _ _ _ _ _ _ _
      | exact ih2 _ _ _ _ _
      | exact ih3 _ _ _ _ _ _ _ _
      | exact ih4 _ _ _ _ _ _ _ _ _ _ _ _ _
      | exact ih5 _ _ _ _ _ _ _ _ _ _ _ _ _ _ _
      | exact graph_meet.mono _ _ _ _ _
      | exact graph_order.mono _ _
      | exact graph_preds.mono _ _
      | exact LeO.none _
      | refine LeO.ite ?_ ?_
      | refine LeO.bind ?_ (fun _ => ?_)
set_option maxHeartbeats 8000000 in
set_option maxRecDepth 100000 in
theorem graph_doms.calls (k : Nat) (A0 : Option Addr) (c0 : Nat) (l0 : List (List Int)) (r : List Int) (w : World) (hr0 : Kd.C (Kd.slice 3 (Kd.int .i64)) w A0 l0.length l0) (hc0 : l0.length ≤ c0) (h : graph_doms.f k l0 = some r) :
    Calls Try.prog 26 #[.slice A0 l0.length c0] w fun e w' => ∃ v0_ : Value, e = .returned (v0_) ∧ Kd.R (Kd.int .i64) 3 w' w.heap.size (fun _ => True) v0_ r ∧ Below w.heap.size w w' := by
  have HR0 := Aside0.mk hr0
  have HC0 := Aside0.mk hc0
  clear hr0 hc0
  have HB := Aside0.mk (Below.refl w.heap.size w)
  have H : (if 0 ≤ (l0.length : Int) then (if ((l0.length : Int) : Int).toNat ≤ 35184372088832 then ((some (List.replicate ((l0.length : Int) : Int).toNat 0 : List Int)).bind fun y145 => (graph_doms.l0 k l0 y145 (List.replicate ((l0.length : Int) : Int).toNat 0) (y145.length : Int) 0)) else (none)) else (none)) = some r := h
  clear h
  by_cases c2 : 0 ≤ (l0.length : Int)
  · rw [if_pos c2] at H
    have c2b0 := eq_true c2
    have c2b1 : decide (0 ≤ (l0.length : Int)) = true := decide_eq_true c2
    clear c2
    by_cases c3 : ((l0.length : Int) : Int).toNat ≤ 35184372088832
    · rw [if_pos c3] at H
      have c3b0 := eq_true c3
      have c3b1 : decide (((l0.length : Int) : Int).toNat ≤ 35184372088832) = true := decide_eq_true c3
      clear c3
      obtain ⟨y145, hy145⟩ : ∃ y_ : List Int, y_ = (List.replicate ((l0.length : Int) : Int).toNat 0) := ⟨_, rfl⟩
      replace H : (graph_doms.l0 k l0 y145 (List.replicate ((l0.length : Int) : Int).toNat 0) (y145.length : Int) 0) = some r := by first | (rw [hy145]; with_reducible exact H) | (have H2_ := (Option.bind_some _ _).symm.trans H; rw [hy145]; with_reducible exact H2_) | (have H2_ := (Option.bind_some _ _).symm.trans H; with_reducible exact H2_) | with_reducible exact H | (rw [hy145]; exact H) | exact H
      have Ny145 := Aside0.mk hy145
      clear hy145
      obtain ⟨y148, hy148⟩ : ∃ y_ : List Int, y_ = (List.replicate ((l0.length : Int) : Int).toNat 0) := ⟨_, rfl⟩
      replace H : (graph_doms.l0 k l0 y145 y148 (y145.length : Int) 0) = some r := by first | (rw [hy148]; with_reducible exact H) | (have H2_ := (Option.bind_some _ _).symm.trans H; rw [hy148]; with_reducible exact H2_) | (have H2_ := (Option.bind_some _ _).symm.trans H; with_reducible exact H2_) | with_reducible exact H | (rw [hy148]; exact H) | exact H
      have Ny148 := Aside0.mk hy148
      clear hy148
      have H' := Aside0.mk H
      clear H
      go_enter Try.func26, Try.ntmps26
      go_wp2_with (first | ((with_reducible refine gate_dst (N := 18) rfl ?_); refine Kd.R_make (Kd.int .i64) _ 3 rfl (N := 18) rfl 25 _ _ rfl (l0.length : Int) rfl rfl Try.underlying25 (.int .i64 0) 8 info3 rfl (by decide) (by omega) 0 (ok := fun _ => True) (okp := fun _ => True) rfl (fun _ hk => hk) trivial (of_decide_eq_true (by first | (with_reducible assumption) | assumption)) (Nat.le_trans (Nat.mul_le_mul_right _ (of_decide_eq_true (by first | (with_reducible assumption) | assumption) : (l0.length : Int).toNat ≤ 35184372088832)) (by omega)) (Below.refl _ _) (Nat.le_refl _) ?_; intro v146 w4 ho5 hb hg_ hnew_; clear hg_ hnew_; (first | rw [← Ny145.out] at ho5 | (simp only [Int.reduceToNat] at ho5; rw [← Ny145.out] at ho5)); have n0_ := Aside0.mk (Kd.R_lower ho5 (below_size (by repeat (first | (with_reducible first | exact HB.out | apply below_alloc | apply pw_below_drewN | apply below_drew1) | exact HB.out)))); have n1_ := Aside0.mk (below_step (by repeat (first | (with_reducible first | exact HB.out | apply below_alloc | apply pw_below_drewN | apply below_drew1) | exact HB.out)) hb); clear HB; have HO147 := n0_; have HB := n1_; clear n0_ n1_; clear hb ho5) | ((with_reducible refine gate_dst (N := 21) rfl ?_); refine Kd.R_make (Kd.int .i64) _ 3 rfl (N := 21) rfl 25 _ _ rfl (l0.length : Int) rfl rfl Try.underlying25 (.int .i64 0) 8 info3 rfl (by decide) (by omega) 0 (ok := fun _ => True) (okp := fun _ => True) rfl (fun _ hk => hk) trivial (of_decide_eq_true (by first | (with_reducible assumption) | assumption)) (Nat.le_trans (Nat.mul_le_mul_right _ (of_decide_eq_true (by first | (with_reducible assumption) | assumption) : (l0.length : Int).toNat ≤ 35184372088832)) (by omega)) (Below.refl _ _) (Nat.le_refl _) ?_; intro v149 w6 ho7 hb hg_ hnew_; clear hg_ hnew_; (first | rw [← Ny148.out] at ho7 | (simp only [Int.reduceToNat] at ho7; rw [← Ny148.out] at ho7)); have n0_ := Aside0.mk (Kd.R_elder' (by (with_reducible repeat (first | apply Kd.R_alloc | apply Kd.R_drewN | apply Kd.R_drew)); exact HO147.out) (Kd.R_base ho7) hb); have n1_ := Aside0.mk (Kd.R_lower (Kd.R_new' ho7 (Kd.R_lt (by (with_reducible repeat (first | apply Kd.R_alloc | apply Kd.R_drewN | apply Kd.R_drew)); exact HO147.out))) (below_size (by repeat (first | (with_reducible first | exact HB.out | apply below_alloc | apply pw_below_drewN | apply below_drew1) | exact HB.out)))); have n2_ := Aside0.mk (below_step (by repeat (first | (with_reducible first | exact HB.out | apply below_alloc | apply pw_below_drewN | apply below_drew1) | exact HB.out)) hb); clear HO147; clear HB; have HO147 := n0_; have HO150 := n1_; have HB := n2_; clear n0_ n1_ n2_; clear hb ho7; obtain ⟨Ao8, co8, eo8⟩ := Kd.R_slice HO147.out; subst eo8))
      go_loopg [24] k (fun kq v24 w' => ∃ (x3_1 : List Int) (x24_1 : Int), v24 = .int .i64 x24_1 ∧ Aside0 (graph_doms.l0 kq l0 x3_1 y148 (y145.length : Int) x24_1 = some r) ∧ Aside0 (kq ≤ k) ∧ Aside0 (Kd.R (Kd.int .i64) 3 w' w.heap.size (fun k_ => some k_ ≠ (v149 : Value).ownBlock) (.slice Ao8 y145.length co8) x3_1) ∧ Aside0 (Kd.R (Kd.int .i64) 3 w' w.heap.size (fun k_ => some k_ ≠ ((.slice Ao8 y145.length co8) : Value).ownBlock) v149 y148) ∧ Aside0 (Below w.heap.size w w'))
      case atStart => exact ⟨(y145), (0), (by first | rfl | (simp; done) | (simp [*]; done)), H', ⟨Nat.le_refl _⟩, ⟨by (with_reducible repeat (first | apply Kd.R_alloc | apply Kd.R_drewN | apply Kd.R_drew)); exact Kd.R_mono HO147.out (fun _ hk => hk.2)⟩, ⟨by (with_reducible repeat (first | apply Kd.R_alloc | apply Kd.R_drewN | apply Kd.R_drew)); exact Kd.R_mono HO150.out (fun _ hk => hk.2)⟩, ⟨by repeat (first | (with_reducible first | exact HB.out | apply below_alloc | apply pw_below_drewN | apply below_drew1) | exact HB.out)⟩⟩
      case round =>
        clear H'
        try clear c2
        try clear c2b0
        try clear c2b1
        try clear p2
        try clear c3
        try clear c3b0
        try clear c3b1
        obtain ⟨x3_1, x24_1, rfl, HA, HK1, HO_3, HO_4, HB⟩ := hrel
        have hl3_1 := (Kd.R_reads' HO_3.out).1
        rw [hl3_1] at HO_3
        (try simp only [hl3_1])
        (try simp only [hl3_1] at HO_4)
        cases gk with
        | zero => exact absurd HA.out (by simp [graph_doms.l0])
        | succ k1 =>
          have H := HA.out
          clear HA
          simp only [graph_doms.l0] at H
          by_cases c9 : x24_1 < (y145.length : Int)
          · rw [if_pos c9] at H
            have c9b0 : decide (x24_1 < (y145.length : Int)) = true := decide_eq_true c9
            clear c9
            by_cases c10 : 0 ≤ x24_1
            · rw [if_pos c10] at H
              have c10b0 : decide (0 ≤ x24_1) = true := decide_eq_true c10
              clear c10
              by_cases c11 : x24_1 < (x3_1.length : Int)
              · rw [if_pos c11] at H
                have c11b0 : decide (x24_1 < (x3_1.length : Int)) = true := decide_eq_true c11
                clear c11
                obtain ⟨y151, hy151⟩ : ∃ y_ : List Int, y_ = (x3_1.set (x24_1 : Int).toNat (-1)) := ⟨_, rfl⟩
                replace H : (graph_doms.l0 k1 l0 y151 y148 (y145.length : Int) (wrap64 (x24_1 + 1))) = some r := by first | (rw [hy151]; with_reducible exact H) | (have H2_ := (Option.bind_some _ _).symm.trans H; rw [hy151]; with_reducible exact H2_) | (have H2_ := (Option.bind_some _ _).symm.trans H; with_reducible exact H2_) | with_reducible exact H | (rw [hy151]; exact H) | exact H
                have Ny151 := Aside0.mk hy151
                clear hy151
                have H' := Aside0.mk H
                clear H
                have p12 : 0 ≤ (x24_1 : Int) := of_decide_eq_true (by first | (with_reducible assumption) | assumption)
                have q12 : (x24_1 : Int) < ((x3_1.length : Int) : Int) := of_decide_eq_true (by first | (with_reducible assumption) | assumption)
                obtain ⟨go12, co12, eo12, gb12, gl12, cl12, HG12⟩ := Kd.R_form HO_3.out (by omega)
                (first | cases eo12 | (injection eo12 with ea_ en_ ec_; (first | subst ea_ | (injection ea_ with ea_; subst ea_)); subst ec_; clear en_))
                have GB12 := Aside0.mk gb12
                have GG12 := Aside0.mk HG12
                clear gb12 gl12 HG12
                obtain ⟨hx12_0, hf12_0⟩ := Kd.R_celln 0 HO_3.out (x24_1 : Int) p12 q12
                replace p12 := eq_true p12
                replace q12 := eq_true q12
                have HP13 := Kd.R_putg HO_3.out (x24_1 : Int) (-1)
                go_wp2_with (first | ((with_reducible refine gate_store (t := 3) (p := 29) rfl ?_); refine store_event (t := 3) (p := 29) (v := ?vo_w14) (w1 := (wr.setCell ⟨go12, (x24_1 : Int).toNat, none⟩ (.int .i64 (-1)))) ?hg ?ho ?hn ?hr ?_; (case ho => rfl); (case hg => rfl); (case hn => rfl); (case hr => first | (go_simp; done) | (go_simp; rfl)); intro w14 hw; have hg : wr.grownBy w14 (some go12) := (by rw [hw]; exact HP13.2); have hp_ : Kd.R (Kd.int .i64) 3 w14 w.heap.size (fun k_ => some k_ ≠ (v149 : Value).ownBlock) (.slice (some ⟨go12, 0, none⟩) x3_1.length co8) y151 := (by rw [hw, Ny151.out]; exact HP13.1); clear HP13; have n0_ := Aside0.mk (hp_); have n1_ := Aside0.mk (Kd.R_after (v := (.slice (some ⟨go12, 0, none⟩) x3_1.length co8)) (v1 := (.slice (some ⟨go12, 0, none⟩) x3_1.length co8)) (ok := (fun _ => True)) (by (with_reducible repeat (first | apply Kd.R_alloc | apply Kd.R_drewN | apply Kd.R_drew)); exact Kd.R_mono HO_4.out (fun _ hk => ⟨trivial, hk⟩)) hg (.inl rfl)); have n2_ := Aside0.mk ((by rw [hw]; exact below_set (HB.out) GB12.out : Below w.heap.size w w14)); clear HO_3; clear HO_4; clear HB; have HO_3 := n0_; have HO_4 := n1_; have HB := n2_; clear n0_ n1_ n2_; clear hg hw hp_))
                (try simp only [← hl3_1])
                go_roundg k1
                case measure => have := HK1.out; omega
                case rel => exact ⟨(y151), (wrap64 (x24_1 + 1)), (by first | rfl | (simp; done) | (simp [*]; done)), H', ⟨by have := HK1.out; omega⟩, ⟨by (try simp only [hl3_1]); (with_reducible repeat (first | apply Kd.R_alloc | apply Kd.R_drewN | apply Kd.R_drew)); exact HO_3.out⟩, ⟨by (try simp only [hl3_1]); (with_reducible repeat (first | apply Kd.R_alloc | apply Kd.R_drewN | apply Kd.R_drew)); exact Kd.R_mono HO_4.out (fun _ hk => hk.2)⟩, ⟨by repeat (first | (with_reducible first | exact HB.out | apply below_alloc | apply pw_below_drewN | apply below_drew1) | exact HB.out)⟩⟩
              · rw [if_neg c11] at H
                exact absurd H (by simp)
            · rw [if_neg c10] at H
              exact absurd H (by simp)
          · rw [if_neg c9] at H
            have c9b0 : decide (x24_1 < (y145.length : Int)) = false := decide_eq_false c9
            have c9b2 : decide (x24_1 < (x3_1.length : Int)) = false := by rw [← hl3_1]; exact c9b0
            clear c9
            replace H := Option.bind_eq_some_iff.mp H
            obtain ⟨t152, A150, H⟩ := H
            replace H : (graph_doms.l1 k1 l0 x3_1 y148 t152 t152 (t152.length : Int) 0) = some r := H
            have A15 := Aside0.mk A150
            clear A150
            have H' := Aside0.mk H
            clear H
            go_wp2_with (first | ((with_reducible refine gate_callee (f := 36) rfl ?_); refine goesL_ (some 32) rfl rfl Try.func36 (by kernel_rfl) rfl #[.slice A0 l0.length c0] rfl (by (try simp only [List.map_toArray, List.map_cons, List.map_nil]); first | done | rfl | (simp only [List.length_drop, List.length_take]; rfl)) ?_; (with_reducible refine (graph_order.calls k1 _ _ l0 t152 _ ?side1 ?side2 A15.out).mono ?_); (case side1 => repeat (first | exact (Kd.C_below HR0.out HB.out) | (with_reducible refine Kd.C_alloc ?_ _) | (with_reducible refine Kd.C_drewN ?_ _) | (with_reducible refine Kd.C_drew ?_))); (case side2 => exact HC0.out); rintro e w16 ⟨v153, rfl, ho0, hb⟩; refine ⟨_, rfl, ?_⟩; have n0_ := Aside0.mk (Kd.R_elder' (by (with_reducible repeat (first | apply Kd.R_alloc | apply Kd.R_drewN | apply Kd.R_drew)); exact HO_3.out) (Kd.R_base ho0) hb); have n1_ := Aside0.mk (Kd.R_elder' (by (with_reducible repeat (first | apply Kd.R_alloc | apply Kd.R_drewN | apply Kd.R_drew)); exact HO_4.out) (Kd.R_base ho0) hb); have n2_ := Aside0.mk (Kd.R_lower (Kd.R_new' (Kd.R_new' ho0 (Kd.R_lt (by (with_reducible repeat (first | apply Kd.R_alloc | apply Kd.R_drewN | apply Kd.R_drew)); exact HO_3.out))) (Kd.R_lt (by (with_reducible repeat (first | apply Kd.R_alloc | apply Kd.R_drewN | apply Kd.R_drew)); exact HO_4.out))) (below_size (by repeat (first | (with_reducible first | exact HB.out | apply below_alloc | apply pw_below_drewN | apply below_drew1) | exact HB.out)))); have n3_ := Aside0.mk (below_step (by repeat (first | (with_reducible first | exact HB.out | apply below_alloc | apply pw_below_drewN | apply below_drew1) | exact HB.out)) hb); clear HO_3; clear HO_4; clear HB; have HO_3 := n0_; have HO_4 := n1_; have HO154 := n2_; have HB := n3_; clear n0_ n1_ n2_ n3_; (try clear hb); (try clear hb2); (try clear hk); (try clear hi); (try clear ho0); obtain ⟨Ao17, co17, eo17⟩ := Kd.R_slice HO154.out; subst eo17))
            go_loopg [35] k1 (fun kq v35 w' => ∃ (x4_2 : List Int) (x35_2 : Int), v35 = .int .i64 x35_2 ∧ Aside0 (graph_doms.l1 kq l0 x3_1 x4_2 t152 t152 (t152.length : Int) x35_2 = some r) ∧ Aside0 (kq ≤ k1) ∧ Aside0 (Kd.R (Kd.int .i64) 3 w' w.heap.size (fun k_ => some k_ ≠ (v149 : Value).ownBlock ∧ some k_ ≠ ((.slice Ao17 t152.length co17) : Value).ownBlock ∧ some k_ ≠ ((.slice Ao17 t152.length co17) : Value).ownBlock) (.slice Ao8 x3_1.length co8) x3_1) ∧ Aside0 (Kd.R (Kd.int .i64) 3 w' w.heap.size (fun k_ => some k_ ≠ ((.slice Ao8 x3_1.length co8) : Value).ownBlock ∧ some k_ ≠ ((.slice Ao17 t152.length co17) : Value).ownBlock ∧ some k_ ≠ ((.slice Ao17 t152.length co17) : Value).ownBlock) v149 x4_2) ∧ Aside0 (Kd.R (Kd.int .i64) 3 w' w.heap.size (fun k_ => some k_ ≠ ((.slice Ao8 x3_1.length co8) : Value).ownBlock ∧ some k_ ≠ (v149 : Value).ownBlock) (.slice Ao17 t152.length co17) t152) ∧ Aside0 (Kd.R (Kd.int .i64) 3 w' w.heap.size (fun k_ => some k_ ≠ ((.slice Ao8 x3_1.length co8) : Value).ownBlock ∧ some k_ ≠ (v149 : Value).ownBlock) (.slice Ao17 t152.length co17) t152) ∧ Aside0 (Below w.heap.size w w'))
            case atStart => exact ⟨(y148), (0), (by first | rfl | (simp; done) | (simp [*]; done)), H', ⟨Nat.le_refl _⟩, ⟨by (try simp only [hl3_1]); (with_reducible repeat (first | apply Kd.R_alloc | apply Kd.R_drewN | apply Kd.R_drew)); exact Kd.R_mono HO_3.out (fun _ hk => ⟨hk.1, ⟨hk.2, hk.2⟩⟩)⟩, ⟨by (try simp only [hl3_1]); (with_reducible repeat (first | apply Kd.R_alloc | apply Kd.R_drewN | apply Kd.R_drew)); exact Kd.R_mono HO_4.out (fun _ hk => ⟨hk.1, ⟨hk.2, hk.2⟩⟩)⟩, ⟨by (try simp only [hl3_1]); (with_reducible repeat (first | apply Kd.R_alloc | apply Kd.R_drewN | apply Kd.R_drew)); exact Kd.R_mono HO154.out (fun _ hk => ⟨hk.1.2, hk.2⟩)⟩, ⟨by (try simp only [hl3_1]); (with_reducible repeat (first | apply Kd.R_alloc | apply Kd.R_drewN | apply Kd.R_drew)); exact Kd.R_mono HO154.out (fun _ hk => ⟨hk.1.2, hk.2⟩)⟩, ⟨by repeat (first | (with_reducible first | exact HB.out | apply below_alloc | apply pw_below_drewN | apply below_drew1) | exact HB.out)⟩⟩
            case round =>
              clear H'
              try clear c1
              try clear p1
              try clear q1
              try clear hx1
              try clear hf1
              try clear c2
              try clear c2b0
              try clear c2b1
              try clear p2
              try clear c3
              try clear c3b0
              try clear c3b1
              try clear p6
              try clear c9
              try clear c9b0
              try clear c10
              try clear c10b0
              try clear c11
              try clear c11b0
              try clear p12
              try clear q12
              try clear hx12
              try clear hf12
              try clear hx12_0
              try clear p12
              try clear p2
              try clear q12
              obtain ⟨x4_2, x35_2, rfl, HA, HK2, HO_3, HO_4, HO_6, HO_33, HB⟩ := hrel
              cases gk with
              | zero => exact absurd HA.out (by simp [graph_doms.l1])
              | succ k2 =>
                have H := HA.out
                clear HA
                simp only [graph_doms.l1] at H
                by_cases c18 : x35_2 < (t152.length : Int)
                · rw [if_pos c18] at H
                  have c18b0 : decide (x35_2 < (t152.length : Int)) = true := decide_eq_true c18
                  clear c18
                  by_cases c19 : 0 ≤ x35_2
                  · rw [if_pos c19] at H
                    have c19b0 : decide (0 ≤ x35_2) = true := decide_eq_true c19
                    clear c19
                    by_cases c20 : x35_2 < (t152.length : Int)
                    · rw [if_pos c20] at H
                      have c20b0 : decide (x35_2 < (t152.length : Int)) = true := decide_eq_true c20
                      clear c20
                      by_cases c21 : 0 ≤ (rd t152 x35_2)
                      · rw [if_pos c21] at H
                        have c21b0 : decide (0 ≤ (rd t152 x35_2)) = true := decide_eq_true c21
                        clear c21
                        by_cases c22 : (rd t152 x35_2) < (x4_2.length : Int)
                        · rw [if_pos c22] at H
                          have c22b0 : decide ((rd t152 x35_2) < (x4_2.length : Int)) = true := decide_eq_true c22
                          clear c22
                          obtain ⟨y156, hy156⟩ : ∃ y_ : List Int, y_ = (x4_2.set ((rd t152 x35_2) : Int).toNat x35_2) := ⟨_, rfl⟩
                          replace H : (graph_doms.l1 k2 l0 x3_1 y156 t152 t152 (t152.length : Int) (wrap64 (x35_2 + 1))) = some r := by first | (rw [hy156]; with_reducible exact H) | (have H2_ := (Option.bind_some _ _).symm.trans H; rw [hy156]; with_reducible exact H2_) | (have H2_ := (Option.bind_some _ _).symm.trans H; with_reducible exact H2_) | with_reducible exact H | (rw [hy156]; exact H) | exact H
                          have Ny156 := Aside0.mk hy156
                          clear hy156
                          have H' := Aside0.mk H
                          clear H
                          have p155 : 0 ≤ (x35_2 : Int) := of_decide_eq_true (by first | (with_reducible assumption) | assumption)
                          have q155 : x35_2 < (t152.length : Int) := of_decide_eq_true (by first | (with_reducible assumption) | assumption)
                          obtain ⟨ad155, e155, hx155_0⟩ := Kd.at_int (Kd.R_reads' HO_33.out).2.2 x35_2 p155 q155
                          cases e155
                          replace p155 := eq_true p155
                          replace q155 := eq_true q155
                          have p23 : 0 ≤ ((rd t152 x35_2) : Int) := of_decide_eq_true (by first | (with_reducible assumption) | assumption)
                          have q23 : ((rd t152 x35_2) : Int) < ((x4_2.length : Int) : Int) := of_decide_eq_true (by first | (with_reducible assumption) | assumption)
                          obtain ⟨go23, co23, eo23, gb23, gl23, cl23, HG23⟩ := Kd.R_form HO_4.out (by omega)
                          (first | cases eo23 | (injection eo23 with ea_ en_ ec_; (first | subst ea_ | (injection ea_ with ea_; subst ea_)); subst ec_; clear en_))
                          have GB23 := Aside0.mk gb23
                          have GG23 := Aside0.mk HG23
                          clear gb23 gl23 HG23
                          obtain ⟨hx23_0, hf23_0⟩ := Kd.R_celln 0 HO_4.out ((rd t152 x35_2) : Int) p23 q23
                          replace p23 := eq_true p23
                          replace q23 := eq_true q23
                          have HP24 := Kd.R_putg HO_4.out ((rd t152 x35_2) : Int) x35_2
                          go_wp2_with (first | ((with_reducible refine gate_store (t := 3) (p := 43) rfl ?_); refine store_event (t := 3) (p := 43) (v := ?vo_w25) (w1 := (wr.setCell ⟨go23, ((rd t152 x35_2) : Int).toNat, none⟩ (.int .i64 x35_2))) ?hg ?ho ?hn ?hr ?_; (case ho => rfl); (case hg => rfl); (case hn => rfl); (case hr => first | (go_simp; done) | (go_simp; rfl)); intro w25 hw; have hg : wr.grownBy w25 (some go23) := (by rw [hw]; exact HP24.2); have hp_ : Kd.R (Kd.int .i64) 3 w25 w.heap.size (fun k_ => some k_ ≠ (.slice Ao8 x3_1.length co8 : Value).ownBlock ∧ some k_ ≠ (.slice (some ad155) t152.length co17 : Value).ownBlock ∧ some k_ ≠ (.slice (some ad155) t152.length co17 : Value).ownBlock) (.slice (some ⟨go23, 0, none⟩) x4_2.length co23) y156 := (by rw [hw, Ny156.out]; exact HP24.1); clear HP24; have n0_ := Aside0.mk (Kd.R_after (v := (.slice (some ⟨go23, 0, none⟩) x4_2.length co23)) (v1 := (.slice (some ⟨go23, 0, none⟩) x4_2.length co23)) (ok := (fun k_ => some k_ ≠ (.slice (some ad155) t152.length co17 : Value).ownBlock ∧ some k_ ≠ (.slice (some ad155) t152.length co17 : Value).ownBlock)) (by (with_reducible repeat (first | apply Kd.R_alloc | apply Kd.R_drewN | apply Kd.R_drew)); exact Kd.R_mono HO_3.out (fun _ hk => ⟨⟨hk.2.1, hk.2.2⟩, hk.1⟩)) hg (.inl rfl)); have n1_ := Aside0.mk (hp_); have n2_ := Aside0.mk (Kd.R_after (v := (.slice (some ⟨go23, 0, none⟩) x4_2.length co23)) (v1 := (.slice (some ⟨go23, 0, none⟩) x4_2.length co23)) (ok := (fun k_ => some k_ ≠ (.slice Ao8 x3_1.length co8 : Value).ownBlock)) (by (with_reducible repeat (first | apply Kd.R_alloc | apply Kd.R_drewN | apply Kd.R_drew)); exact HO_6.out) hg (.inl rfl)); have n3_ := Aside0.mk (Kd.R_after (v := (.slice (some ⟨go23, 0, none⟩) x4_2.length co23)) (v1 := (.slice (some ⟨go23, 0, none⟩) x4_2.length co23)) (ok := (fun k_ => some k_ ≠ (.slice Ao8 x3_1.length co8 : Value).ownBlock)) (by (with_reducible repeat (first | apply Kd.R_alloc | apply Kd.R_drewN | apply Kd.R_drew)); exact HO_33.out) hg (.inl rfl)); have n4_ := Aside0.mk ((by rw [hw]; exact below_set (HB.out) GB23.out : Below w.heap.size w w25)); clear HO_3; clear HO_4; clear HO_6; clear HO_33; clear HB; have HO_3 := n0_; have HO_4 := n1_; have HO_6 := n2_; have HO_33 := n3_; have HB := n4_; clear n0_ n1_ n2_ n3_ n4_; clear hg hw hp_))
                          go_roundg k2
                          case measure => have := HK1.out; have := HK2.out; omega
                          case rel => exact ⟨(y156), (wrap64 (x35_2 + 1)), (by first | rfl | (simp; done) | (simp [*]; done)), H', ⟨by have := HK1.out; have := HK2.out; omega⟩, ⟨by (try simp only [hl3_1]); (with_reducible repeat (first | apply Kd.R_alloc | apply Kd.R_drewN | apply Kd.R_drew)); exact Kd.R_mono HO_3.out (fun _ hk => ⟨hk.2, ⟨hk.1.1, hk.1.2⟩⟩)⟩, ⟨by (try simp only [hl3_1]); (with_reducible repeat (first | apply Kd.R_alloc | apply Kd.R_drewN | apply Kd.R_drew)); exact HO_4.out⟩, ⟨by (try simp only [hl3_1]); (with_reducible repeat (first | apply Kd.R_alloc | apply Kd.R_drewN | apply Kd.R_drew)); exact HO_6.out⟩, ⟨by (try simp only [hl3_1]); (with_reducible repeat (first | apply Kd.R_alloc | apply Kd.R_drewN | apply Kd.R_drew)); exact HO_33.out⟩, ⟨by repeat (first | (with_reducible first | exact HB.out | apply below_alloc | apply pw_below_drewN | apply below_drew1) | exact HB.out)⟩⟩
                        · rw [if_neg c22] at H
                          exact absurd H (by simp)
                      · rw [if_neg c21] at H
                        exact absurd H (by simp)
                    · rw [if_neg c20] at H
                      exact absurd H (by simp)
                  · rw [if_neg c19] at H
                    exact absurd H (by simp)
                · rw [if_neg c18] at H
                  have c18b0 : decide (x35_2 < (t152.length : Int)) = false := decide_eq_false c18
                  clear c18
                  replace H := Option.bind_eq_some_iff.mp H
                  obtain ⟨t157, A260, H⟩ := H
                  replace H : (graph_doms.l2 k2 x3_1 x4_2 t152 t157 true) = some r := H
                  have A26 := Aside0.mk A260
                  clear A260
                  have H' := Aside0.mk H
                  clear H
                  go_wp2_with (first | ((with_reducible refine gate_callee (f := 31) rfl ?_); refine goesL_ (some 46) rfl rfl Try.func31 (by kernel_rfl) rfl #[.slice A0 l0.length c0] rfl (by (try simp only [List.map_toArray, List.map_cons, List.map_nil]); first | done | rfl | (simp only [List.length_drop, List.length_take]; rfl)) ?_; (with_reducible refine (graph_preds.calls k2 _ _ l0 t157 _ ?side1 ?side2 A26.out).mono ?_); (case side1 => repeat (first | exact (Kd.C_below HR0.out HB.out) | (with_reducible refine Kd.C_alloc ?_ _) | (with_reducible refine Kd.C_drewN ?_ _) | (with_reducible refine Kd.C_drew ?_))); (case side2 => exact HC0.out); rintro e w27 ⟨v158, rfl, ho0, hb⟩; refine ⟨_, rfl, ?_⟩; have n0_ := Aside0.mk (Kd.R_below (by (with_reducible repeat (first | apply Kd.R_alloc | apply Kd.R_drewN | apply Kd.R_drew)); exact HO_3.out) hb); have n1_ := Aside0.mk (Kd.R_below (by (with_reducible repeat (first | apply Kd.R_alloc | apply Kd.R_drewN | apply Kd.R_drew)); exact HO_4.out) hb); have n2_ := Aside0.mk (Kd.R_below (by (with_reducible repeat (first | apply Kd.R_alloc | apply Kd.R_drewN | apply Kd.R_drew)); exact HO_6.out) hb); have n3_ := Aside0.mk (Kd.R_below (by (with_reducible repeat (first | apply Kd.R_alloc | apply Kd.R_drewN | apply Kd.R_drew)); exact HO_33.out) hb); have n4_ := Aside0.mk (Kd.S_lower (Kd.S_new' (Kd.S_new' (Kd.S_new' (Kd.S_new' ho0 (Kd.R_lt (by (with_reducible repeat (first | apply Kd.R_alloc | apply Kd.R_drewN | apply Kd.R_drew)); exact HO_3.out))) (Kd.R_lt (by (with_reducible repeat (first | apply Kd.R_alloc | apply Kd.R_drewN | apply Kd.R_drew)); exact HO_4.out))) (Kd.R_lt (by (with_reducible repeat (first | apply Kd.R_alloc | apply Kd.R_drewN | apply Kd.R_drew)); exact HO_6.out))) (Kd.R_lt (by (with_reducible repeat (first | apply Kd.R_alloc | apply Kd.R_drewN | apply Kd.R_drew)); exact HO_33.out))) (below_size (by repeat (first | (with_reducible first | exact HB.out | apply below_alloc | apply pw_below_drewN | apply below_drew1) | exact HB.out)))); have n5_ := Aside0.mk (below_step (by repeat (first | (with_reducible first | exact HB.out | apply below_alloc | apply pw_below_drewN | apply below_drew1) | exact HB.out)) hb); clear HO_3; clear HO_4; clear HO_6; clear HO_33; clear HB; have HO_3 := n0_; have HO_4 := n1_; have HO_6 := n2_; have HO_33 := n3_; have HO159 := n4_; have HB := n5_; clear n0_ n1_ n2_ n3_ n4_ n5_; (try clear hb); (try clear hb2); (try clear hk); (try clear hi); (try clear ho0)))
                  go_loopg [10] k2 (fun kq v10 w' => ∃ (x3_3 : List Int) (x10_3 : Bool), v10 = .bool x10_3 ∧ Aside0 (graph_doms.l2 kq x3_3 x4_2 t152 t157 x10_3 = some r) ∧ Aside0 (kq ≤ k2) ∧ Aside0 (Kd.R (Kd.int .i64) 3 w' w.heap.size (fun k_ => some k_ ≠ (v149 : Value).ownBlock ∧ some k_ ≠ ((.slice Ao17 t152.length co17) : Value).ownBlock) (.slice Ao8 x3_1.length co8) x3_3) ∧ Aside0 (Kd.R (Kd.int .i64) 3 w' w.heap.size (fun k_ => some k_ ≠ ((.slice Ao8 x3_1.length co8) : Value).ownBlock ∧ some k_ ≠ ((.slice Ao17 t152.length co17) : Value).ownBlock) v149 x4_2) ∧ Aside0 (Kd.R (Kd.int .i64) 3 w' w.heap.size (fun k_ => some k_ ≠ ((.slice Ao8 x3_1.length co8) : Value).ownBlock ∧ some k_ ≠ (v149 : Value).ownBlock) (.slice Ao17 t152.length co17) t152) ∧ Aside0 (Kd.S (Kd.slice 3 (Kd.int .i64)) 25 w' w.heap.size (fun k_ => some k_ ≠ ((.slice Ao8 x3_1.length co8) : Value).ownBlock ∧ some k_ ≠ (v149 : Value).ownBlock ∧ some k_ ≠ ((.slice Ao17 t152.length co17) : Value).ownBlock) v158 t157) ∧ Aside0 (Below w.heap.size w w'))
                  case atStart => exact ⟨(x3_1), (true), (by first | rfl | (simp; done) | (simp [*]; done)), H', ⟨Nat.le_refl _⟩, ⟨by (try simp only [hl3_1]); (with_reducible repeat (first | apply Kd.R_alloc | apply Kd.R_drewN | apply Kd.R_drew)); exact Kd.R_mono HO_3.out (fun _ hk => ⟨hk.1, hk.2.1⟩)⟩, ⟨by (try simp only [hl3_1]); (with_reducible repeat (first | apply Kd.R_alloc | apply Kd.R_drewN | apply Kd.R_drew)); exact Kd.R_mono HO_4.out (fun _ hk => ⟨hk.1, hk.2.1⟩)⟩, ⟨by (try simp only [hl3_1]); (with_reducible repeat (first | apply Kd.R_alloc | apply Kd.R_drewN | apply Kd.R_drew)); exact HO_6.out⟩, ⟨by (try simp only [hl3_1]); (with_reducible repeat (first | apply Kd.S_alloc | apply Kd.S_drewN | apply Kd.S_drew)); exact Kd.S_mono HO159.out (fun _ hk => ⟨hk.1.1.1.2, ⟨hk.1.1.2, hk.1.2⟩⟩)⟩, ⟨by repeat (first | (with_reducible first | exact HB.out | apply below_alloc | apply pw_below_drewN | apply below_drew1) | exact HB.out)⟩⟩
                  case round =>
                    clear H'
                    try clear c1
                    try clear p1
                    try clear q1
                    try clear hx1
                    try clear hf1
                    try clear c2
                    try clear c2b0
                    try clear c2b1
                    try clear p2
                    try clear q2
                    try clear hx2
                    try clear hf2
                    try clear c3
                    try clear c3b0
                    try clear c3b1
                    try clear p6
                    try clear c9
                    try clear c9b0
                    try clear c10
                    try clear c10b0
                    try clear c11
                    try clear c11b0
                    try clear p12
                    try clear q12
                    try clear hx12
                    try clear hf12
                    try clear p15
                    try clear q15
                    try clear hx15
                    try clear c18
                    try clear c18b0
                    try clear c19
                    try clear c19b0
                    try clear c20
                    try clear c20b0
                    try clear c21
                    try clear c21b0
                    try clear c22
                    try clear c22b0
                    try clear p23
                    try clear q23
                    try clear hx23
                    try clear hf23
                    try clear c26
                    try clear hx12_0
                    try clear hx155_0
                    try clear hx23_0
                    try clear p1
                    try clear p12
                    try clear p155
                    try clear p2
                    try clear p23
                    try clear p6
                    try clear q1
                    try clear q12
                    try clear q155
                    try clear q23
                    obtain ⟨x3_3, x10_3, rfl, HA, HK3, HO_3, HO_4, HO_6, HO_9, HB⟩ := hrel
                    have hl3_3 := (Kd.R_reads' HO_3.out).1
                    rw [hl3_3] at HO_3
                    (try simp only [hl3_3])
                    (try simp only [hl3_3] at HO_4)
                    (try simp only [hl3_3] at HO_6)
                    (try simp only [hl3_3] at HO_9)
                    cases gk with
                    | zero => exact absurd HA.out (by simp [graph_doms.l2])
                    | succ k3 =>
                      have H := HA.out
                      clear HA
                      simp only [graph_doms.l2] at H
                      by_cases c28 : x10_3 = true
                      · subst c28
                        have H1 : (if 0 ≤ (mn 1 (t152.length : Int)) then (if (mn 1 (t152.length : Int)) ≤ (t152.length : Int) then ((some (t152.drop ((mn 1 (t152.length : Int)) : Int).toNat : List Int)).bind fun y160 => (graph_doms.l3 k3 x3_3 x4_2 t152 t157 false y160 (y160.length : Int) 0)) else (none)) else (none)) = some r := by rw [if_pos rfl] at H; exact H
                        clear H
                        have H := H1
                        clear H1
                        obtain ⟨ji29, hji29⟩ : ∃ j_ : Int, (mn 1 (t152.length : Int)) = j_ := ⟨_, rfl⟩
                        replace H : (if 0 ≤ (ji29) then (if (ji29) ≤ (t152.length : Int) then ((some (t152.drop ((ji29) : Int).toNat : List Int)).bind fun y160 => (graph_doms.l3 k3 x3_3 x4_2 t152 t157 false y160 (y160.length : Int) 0)) else (none)) else (none)) = some r := by first | (rw [hji29] at H; exact H) | (simp only [hji29] at H ⊢; exact H)
                        have hji29_ : (if (t152.length : Int) < 1 then (t152.length : Int) else 1) = ji29 := hji29
                        by_cases c30 : 0 ≤ (ji29)
                        · rw [if_pos c30] at H
                          have c30b0 := eq_true c30
                          have c30b1 : decide (0 ≤ (ji29)) = true := decide_eq_true c30
                          clear c30
                          by_cases c31 : (ji29) ≤ (t152.length : Int)
                          · rw [if_pos c31] at H
                            have c31b0 := eq_true c31
                            have c31b1 : decide ((ji29) ≤ (t152.length : Int)) = true := decide_eq_true c31
                            clear c31
                            obtain ⟨y160, hy160⟩ : ∃ y_ : List Int, y_ = (t152.drop ((ji29) : Int).toNat) := ⟨_, rfl⟩
                            replace H : (graph_doms.l3 k3 x3_3 x4_2 t152 t157 false y160 (y160.length : Int) 0) = some r := by first | (rw [hy160]; with_reducible exact H) | (have H2_ := (Option.bind_some _ _).symm.trans H; rw [hy160]; with_reducible exact H2_) | (have H2_ := (Option.bind_some _ _).symm.trans H; with_reducible exact H2_) | with_reducible exact H | (rw [hy160]; exact H) | exact H
                            have Ny160 := Aside0.mk hy160
                            clear hy160
                            have H' := Aside0.mk H
                            clear H
                            have q32 : ((ji29) : Int) ≤ ((t152.length : Int) : Int) := of_decide_eq_true (by first | (with_reducible assumption) | assumption)
                            obtain ⟨i032, hi032, _, hsz32, _⟩ := info_parts info3
                            have hroom32 : t152.length ≤ co17 := (Kd.R_reads' HO_6.out).2.1
                            have hC32 : Kd.C (Kd.int .i64) _ Ao17 t152.length t152 := (Kd.R_reads' HO_6.out).2.2
                            have q032 : (0 : Int) ≤ ((ji29) : Int) := of_decide_eq_true (by first | (with_reducible assumption) | assumption)
                            have hcut32 := cut_from (P := Try.prog) 25 3 .i64 Try.underlying25 hi032 1 hsz32 Ao17 t152.length co17 (ji29) q032 q32
                            have hr32 := Kd.C_drop (m := ((ji29) : Int).toNat) (c := co17) hC32 (by omega) hroom32
                            obtain ⟨A32, hA32⟩ : ∃ A1, A1 = (if co17 = ((ji29) : Int).toNat then Ao17 else (Ao17 : Option Addr).map (·.add (((ji29) : Int).toNat * 1))) := ⟨_, rfl⟩
                            obtain ⟨c32, hc32⟩ : ∃ c1, c1 = co17 - ((ji29) : Int).toNat := ⟨_, rfl⟩
                            have hy32 : y160.length = t152.length - ((ji29) : Int).toNat := (by rw [Ny160.out, List.length_drop] <;> omega)
                            rw [show (t152).drop ((ji29) : Int).toNat = y160 from Ny160.out.symm] at hr32
                            replace hr32 : Kd.C (Kd.int .i64) _ A32 y160.length y160 := (by rw [hA32]; exact hr32)
                            rw [← hy32, ← hA32, ← hc32] at hcut32
                            have HR163 := Aside0.mk hr32
                            have HC163 := Aside0.mk (show y160.length ≤ c32 from by rw [hy32, hc32]; exact Nat.sub_le_sub_right hroom32 _)
                            clear hr32 hC32 hroom32 hi032 hsz32 hc32
                            have KY32 := Aside0.mk hy32
                            have KA32 := Aside0.mk hA32
                            clear hy32 hA32
                            have KL32 := Aside0.mk (show ((ji29) : Int).toNat ≤ t152.length from by omega)
                            replace q32 := eq_true q32
                            go_wp2
                            go_loopg [10, 54] k3 (fun kq v10 v54 w' => ∃ (x3_4 : List Int) (x10_4 : Bool) (x54_4 : Int), v10 = .bool x10_4 ∧ v54 = .int .i64 x54_4 ∧ Aside0 (graph_doms.l3 kq x3_4 x4_2 t152 t157 x10_4 y160 (y160.length : Int) x54_4 = some r) ∧ Aside0 (kq ≤ k3) ∧ Aside0 (Kd.R (Kd.int .i64) 3 w' w.heap.size (fun k_ => some k_ ≠ (v149 : Value).ownBlock ∧ some k_ ≠ ((.slice Ao17 t152.length co17) : Value).ownBlock) (.slice Ao8 x3_3.length co8) x3_4) ∧ Aside0 (Kd.R (Kd.int .i64) 3 w' w.heap.size (fun k_ => some k_ ≠ ((.slice Ao8 x3_3.length co8) : Value).ownBlock ∧ some k_ ≠ ((.slice Ao17 t152.length co17) : Value).ownBlock) v149 x4_2) ∧ Aside0 (Kd.R (Kd.int .i64) 3 w' w.heap.size (fun k_ => some k_ ≠ ((.slice Ao8 x3_3.length co8) : Value).ownBlock ∧ some k_ ≠ (v149 : Value).ownBlock) (.slice Ao17 t152.length co17) t152) ∧ Aside0 (Kd.S (Kd.slice 3 (Kd.int .i64)) 25 w' w.heap.size (fun k_ => some k_ ≠ ((.slice Ao8 x3_3.length co8) : Value).ownBlock ∧ some k_ ≠ (v149 : Value).ownBlock ∧ some k_ ≠ ((.slice Ao17 t152.length co17) : Value).ownBlock) v158 t157) ∧ Aside0 (Kd.C (Kd.int .i64) w' A32 y160.length y160) ∧ Aside0 (Below w.heap.size w w'))
                            case atStart => exact ⟨(x3_3), (false), (0), (by first | rfl | (simp; done) | (simp [*]; done)), (by first | rfl | (simp; done) | (simp [*]; done)), H', ⟨Nat.le_refl _⟩, ⟨by (try simp only [hl3_1]); (try simp only [hl3_3]); (with_reducible repeat (first | apply Kd.R_alloc | apply Kd.R_drewN | apply Kd.R_drew)); exact HO_3.out⟩, ⟨by (try simp only [hl3_1]); (try simp only [hl3_3]); (with_reducible repeat (first | apply Kd.R_alloc | apply Kd.R_drewN | apply Kd.R_drew)); exact HO_4.out⟩, ⟨by (try simp only [hl3_1]); (try simp only [hl3_3]); (with_reducible repeat (first | apply Kd.R_alloc | apply Kd.R_drewN | apply Kd.R_drew)); exact HO_6.out⟩, ⟨by (try simp only [hl3_1]); (try simp only [hl3_3]); (with_reducible repeat (first | apply Kd.S_alloc | apply Kd.S_drewN | apply Kd.S_drew)); exact HO_9.out⟩, ⟨by repeat (first | (with_reducible exact HR163.out) | (with_reducible refine Kd.C_alloc ?_ _) | (with_reducible refine Kd.C_drewN ?_ _) | (with_reducible refine Kd.C_drew ?_) | exact HR163.out)⟩, ⟨by repeat (first | (with_reducible first | exact HB.out | apply below_alloc | apply pw_below_drewN | apply below_drew1) | exact HB.out)⟩⟩
                            case round =>
                              clear H'
                              try clear c1
                              try clear p1
                              try clear q1
                              try clear hx1
                              try clear hf1
                              try clear c2
                              try clear c2b0
                              try clear c2b1
                              try clear p2
                              try clear q2
                              try clear hx2
                              try clear hf2
                              try clear c3
                              try clear c3b0
                              try clear c3b1
                              try clear q3
                              try clear p6
                              try clear c9
                              try clear c9b0
                              try clear c10
                              try clear c10b0
                              try clear c11
                              try clear c11b0
                              try clear p12
                              try clear q12
                              try clear hx12
                              try clear hf12
                              try clear p15
                              try clear q15
                              try clear hx15
                              try clear c18
                              try clear c18b0
                              try clear c19
                              try clear c19b0
                              try clear c20
                              try clear c20b0
                              try clear c21
                              try clear c21b0
                              try clear c22
                              try clear c22b0
                              try clear p23
                              try clear q23
                              try clear hx23
                              try clear hf23
                              try clear c26
                              try clear c28
                              try clear c30
                              try clear c30b0
                              try clear c30b1
                              try clear c31
                              try clear c31b0
                              try clear c31b1
                              try clear c32
                              try clear q32
                              try clear hx12_0
                              try clear hx155_0
                              try clear hx23_0
                              try clear p1
                              try clear p12
                              try clear p15
                              try clear p155
                              try clear p2
                              try clear p23
                              try clear p6
                              try clear q032
                              try clear q1
                              try clear q12
                              try clear q15
                              try clear q155
                              try clear q2
                              try clear q23
                              try clear q32
                              obtain ⟨x3_4, x10_4, x54_4, rfl, rfl, HA, HK4, HO_3, HO_4, HO_6, HO_9, HR163, HB⟩ := hrel
                              have hl3_4 := (Kd.R_reads' HO_3.out).1
                              rw [hl3_4] at HO_3
                              (try simp only [hl3_4])
                              (try simp only [hl3_4] at HO_4)
                              (try simp only [hl3_4] at HO_6)
                              (try simp only [hl3_4] at HO_9)
                              cases gk with
                              | zero => exact absurd HA.out (by simp [graph_doms.l3])
                              | succ k4 =>
                                have H := HA.out
                                clear HA
                                simp only [graph_doms.l3] at H
                                by_cases c33 : x54_4 < (y160.length : Int)
                                · rw [if_pos c33] at H
                                  have c33b0 : decide (x54_4 < (y160.length : Int)) = true := decide_eq_true c33
                                  clear c33
                                  by_cases c34 : 0 ≤ x54_4
                                  · rw [if_pos c34] at H
                                    have c34b0 : decide (0 ≤ x54_4) = true := decide_eq_true c34
                                    clear c34
                                    by_cases c35 : x54_4 < (y160.length : Int)
                                    · rw [if_pos c35] at H
                                      have c35b0 : decide (x54_4 < (y160.length : Int)) = true := decide_eq_true c35
                                      clear c35
                                      by_cases c36 : 0 ≤ (rd y160 x54_4)
                                      · rw [if_pos c36] at H
                                        have c36b0 : decide (0 ≤ (rd y160 x54_4)) = true := decide_eq_true c36
                                        clear c36
                                        by_cases c37 : (rd y160 x54_4) < (t157.length : Int)
                                        · rw [if_pos c37] at H
                                          have c37b0 : decide ((rd y160 x54_4) < (t157.length : Int)) = true := decide_eq_true c37
                                          clear c37
                                          have H' := Aside0.mk H
                                          clear H
                                          have p164 : 0 ≤ (x54_4 : Int) := of_decide_eq_true (by first | (with_reducible assumption) | assumption)
                                          have q164 : x54_4 < (y160.length : Int) := of_decide_eq_true (by first | (with_reducible assumption) | assumption)
                                          obtain ⟨ad164, e164, hx164_0⟩ := Kd.at_int HR163.out x54_4 p164 q164
                                          cases e164
                                          replace p164 := eq_true p164
                                          replace q164 := eq_true q164
                                          obtain ⟨Ao38, co38, eo38⟩ := Kd.S_slice HO_9.out
                                          subst eo38
                                          have p165 : 0 ≤ ((rd y160 x54_4) : Int) := of_decide_eq_true (by first | (with_reducible assumption) | assumption)
                                          have q165 : (rd y160 x54_4) < (t157.length : Int) := of_decide_eq_true (by first | (with_reducible assumption) | assumption)
                                          obtain ⟨ad165, A165_0, c165_0, e165, hx165_0, hl165_0, hi165_0⟩ := at_L1 (Kd.S_reads' HO_9.out).2.2 (rd y160 x54_4) p165 q165
                                          cases e165
                                          obtain ⟨ce165, hce165, hMe165, hcc165⟩ := Kd.S_get HO_9.out [] (rd y160 x54_4) p165 (by first | exact q165 | exact of_decide_eq_true (by first | (with_reducible assumption) | assumption) | (have e_ := (Kd.S_reads' HO_9.out).1; omega))
                                          obtain ⟨ve165_0, rfl, ge165_0⟩ := hMe165
                                          have hv165_0 := hcc165 0 _ rfl
                                          rw [Nat.add_zero, show ((Kd.slice 3 (Kd.int .i64))).sz = 1 from rfl, Nat.mul_one] at hv165_0
                                          replace hv165_0 := Option.some.inj (hv165_0.symm.trans hx165_0)
                                          rw [hv165_0] at ge165_0
                                          have HL165_0 := Aside0.mk (show Kd.R (Kd.int .i64) 3 _ _ _ _ (rd_L1 t157 (rd y160 x54_4)) from ge165_0)
                                          clear hv165_0 ge165_0
                                          clear hcc165 hce165
                                          have HR165_0 := Aside0.mk hi165_0
                                          have HC165_0 := Aside0.mk hl165_0
                                          clear hi165_0 hl165_0
                                          replace p165 := eq_true p165
                                          replace q165 := eq_true q165
                                          go_wp2
                                          go_loopg [13, 63] k4 (fun kq v13 v63 w' => ∃ (x13_5 : Int) (x63_5 : Int), v13 = .int .i64 x13_5 ∧ v63 = .int .i64 x63_5 ∧ Aside0 (graph_doms.l4 kq x3_4 x4_2 t152 t157 x10_4 (rd y160 x54_4) x13_5 y160 (y160.length : Int) x54_4 (rd_L1 t157 (rd y160 x54_4)) ((rd_L1 t157 (rd y160 x54_4)).length : Int) x63_5 = some r) ∧ Aside0 (kq ≤ k4) ∧ Aside0 (Kd.R (Kd.int .i64) 3 w' w.heap.size (fun k_ => some k_ ≠ (v149 : Value).ownBlock ∧ some k_ ≠ ((.slice Ao17 t152.length co17) : Value).ownBlock) (.slice Ao8 x3_4.length co8) x3_4) ∧ Aside0 (Kd.R (Kd.int .i64) 3 w' w.heap.size (fun k_ => some k_ ≠ ((.slice Ao8 x3_4.length co8) : Value).ownBlock ∧ some k_ ≠ ((.slice Ao17 t152.length co17) : Value).ownBlock) v149 x4_2) ∧ Aside0 (Kd.R (Kd.int .i64) 3 w' w.heap.size (fun k_ => some k_ ≠ ((.slice Ao8 x3_4.length co8) : Value).ownBlock ∧ some k_ ≠ (v149 : Value).ownBlock) (.slice Ao17 t152.length co17) t152) ∧ Aside0 (Kd.S (Kd.slice 3 (Kd.int .i64)) 25 w' w.heap.size (fun k_ => some k_ ≠ ((.slice Ao8 x3_4.length co8) : Value).ownBlock ∧ some k_ ≠ (v149 : Value).ownBlock ∧ some k_ ≠ ((.slice Ao17 t152.length co17) : Value).ownBlock) (.slice (some ad165) t157.length co38) t157) ∧ Aside0 (Kd.C (Kd.int .i64) w' (some ad164) y160.length y160) ∧ Aside0 (Kd.C (Kd.int .i64) w' A165_0 (rd_L1 t157 (rd y160 x54_4)).length (rd_L1 t157 (rd y160 x54_4))) ∧ Aside0 (Below w.heap.size w w'))
                                          case atStart => exact ⟨((-1)), (0), (by first | rfl | (simp; done) | (simp [*]; done)), (by first | rfl | (simp; done) | (simp [*]; done)), H', ⟨Nat.le_refl _⟩, ⟨by (try simp only [hl3_1]); (try simp only [hl3_3]); (try simp only [hl3_4]); (with_reducible repeat (first | apply Kd.R_alloc | apply Kd.R_drewN | apply Kd.R_drew)); exact HO_3.out⟩, ⟨by (try simp only [hl3_1]); (try simp only [hl3_3]); (try simp only [hl3_4]); (with_reducible repeat (first | apply Kd.R_alloc | apply Kd.R_drewN | apply Kd.R_drew)); exact HO_4.out⟩, ⟨by (try simp only [hl3_1]); (try simp only [hl3_3]); (try simp only [hl3_4]); (with_reducible repeat (first | apply Kd.R_alloc | apply Kd.R_drewN | apply Kd.R_drew)); exact HO_6.out⟩, ⟨by (try simp only [hl3_1]); (try simp only [hl3_3]); (try simp only [hl3_4]); (with_reducible repeat (first | apply Kd.S_alloc | apply Kd.S_drewN | apply Kd.S_drew)); exact HO_9.out⟩, ⟨by repeat (first | (with_reducible exact HR163.out) | (with_reducible refine Kd.C_alloc ?_ _) | (with_reducible refine Kd.C_drewN ?_ _) | (with_reducible refine Kd.C_drew ?_) | exact HR163.out)⟩, ⟨by repeat (first | (with_reducible exact HR165_0.out) | (with_reducible refine Kd.C_alloc ?_ _) | (with_reducible refine Kd.C_drewN ?_ _) | (with_reducible refine Kd.C_drew ?_) | exact HR165_0.out)⟩, ⟨by repeat (first | (with_reducible first | exact HB.out | apply below_alloc | apply pw_below_drewN | apply below_drew1) | exact HB.out)⟩⟩
                                          case round =>
                                            clear H'
                                            try clear c1
                                            try clear p1
                                            try clear q1
                                            try clear hx1
                                            try clear hf1
                                            try clear c2
                                            try clear c2b0
                                            try clear c2b1
                                            try clear p2
                                            try clear q2
                                            try clear hx2
                                            try clear hf2
                                            try clear c3
                                            try clear c3b0
                                            try clear c3b1
                                            try clear q3
                                            try clear p6
                                            try clear c9
                                            try clear c9b0
                                            try clear c10
                                            try clear c10b0
                                            try clear c11
                                            try clear c11b0
                                            try clear p12
                                            try clear q12
                                            try clear hx12
                                            try clear hf12
                                            try clear p15
                                            try clear q15
                                            try clear hx15
                                            try clear c16
                                            try clear p16
                                            try clear q16
                                            try clear hx16
                                            try clear c18
                                            try clear c18b0
                                            try clear c19
                                            try clear c19b0
                                            try clear c20
                                            try clear c20b0
                                            try clear c21
                                            try clear c21b0
                                            try clear c22
                                            try clear c22b0
                                            try clear p23
                                            try clear q23
                                            try clear hx23
                                            try clear hf23
                                            try clear c26
                                            try clear c28
                                            try clear c30
                                            try clear c30b0
                                            try clear c30b1
                                            try clear c31
                                            try clear c31b0
                                            try clear c31b1
                                            try clear c32
                                            try clear q32
                                            try clear c33
                                            try clear c33b0
                                            try clear c34
                                            try clear c34b0
                                            try clear c35
                                            try clear c35b0
                                            try clear c36
                                            try clear c36b0
                                            try clear c37
                                            try clear c37b0
                                            try clear hx12_0
                                            try clear hx155_0
                                            try clear hx164_0
                                            try clear hx165_0
                                            try clear hx23_0
                                            try clear p1
                                            try clear p12
                                            try clear p15
                                            try clear p155
                                            try clear p164
                                            try clear p165
                                            try clear p2
                                            try clear p23
                                            try clear p6
                                            try clear q032
                                            try clear q1
                                            try clear q12
                                            try clear q15
                                            try clear q155
                                            try clear q164
                                            try clear q165
                                            try clear q2
                                            try clear q23
                                            try clear q3
                                            try clear q32
                                            obtain ⟨x13_5, x63_5, rfl, rfl, HA, HK5, HO_3, HO_4, HO_6, HO_9, HR163, HR165_0, HB⟩ := hrel
                                            cases gk with
                                            | zero => exact absurd HA.out (by simp [graph_doms.l4])
                                            | succ k5 =>
                                              have H := HA.out
                                              clear HA
                                              simp only [graph_doms.l4] at H
                                              by_cases c39 : x63_5 < ((rd_L1 t157 (rd y160 x54_4)).length : Int)
                                              · rw [if_pos c39] at H
                                                have c39b0 : decide (x63_5 < ((rd_L1 t157 (rd y160 x54_4)).length : Int)) = true := decide_eq_true c39
                                                clear c39
                                                by_cases c40 : 0 ≤ x63_5
                                                · rw [if_pos c40] at H
                                                  have c40b0 : decide (0 ≤ x63_5) = true := decide_eq_true c40
                                                  clear c40
                                                  by_cases c41 : x63_5 < ((rd_L1 t157 (rd y160 x54_4)).length : Int)
                                                  · rw [if_pos c41] at H
                                                    have c41b0 : decide (x63_5 < ((rd_L1 t157 (rd y160 x54_4)).length : Int)) = true := decide_eq_true c41
                                                    clear c41
                                                    have HC42 := Aside0.mk H
                                                    clear H
                                                    have p168 : 0 ≤ (x63_5 : Int) := of_decide_eq_true (by first | (with_reducible assumption) | assumption)
                                                    have q168 : x63_5 < ((rd_L1 t157 (rd y160 x54_4)).length : Int) := of_decide_eq_true (by first | (with_reducible assumption) | assumption)
                                                    obtain ⟨ad168, e168, hx168_0⟩ := Kd.at_int HR165_0.out x63_5 p168 q168
                                                    cases e168
                                                    replace p168 := eq_true p168
                                                    replace q168 := eq_true q168
                                                    go_upto_region 26 with (fail)
                                                    go_cut [72] (fun v72 wc => ∃ (kq : Nat) (x72_41 : Bool), v72 = .bool x72_41 ∧ Aside0 (graph_doms.j5 kq x3_4 x4_2 t152 t157 x10_4 (rd y160 x54_4) x13_5 (rd (rd_L1 t157 (rd y160 x54_4)) x63_5) y160 (y160.length : Int) x54_4 (rd_L1 t157 (rd y160 x54_4)) ((rd_L1 t157 (rd y160 x54_4)).length : Int) x63_5 x72_41 = some r) ∧ Aside0 (kq ≤ k5) ∧ Aside0 (Kd.R (Kd.int .i64) 3 wc w.heap.size (fun k_ => some k_ ≠ (v149 : Value).ownBlock ∧ some k_ ≠ ((.slice Ao17 t152.length co17) : Value).ownBlock) (.slice Ao8 x3_4.length co8) x3_4) ∧ Aside0 (Kd.R (Kd.int .i64) 3 wc w.heap.size (fun k_ => some k_ ≠ ((.slice Ao8 x3_4.length co8) : Value).ownBlock ∧ some k_ ≠ ((.slice Ao17 t152.length co17) : Value).ownBlock) v149 x4_2) ∧ Aside0 (Kd.R (Kd.int .i64) 3 wc w.heap.size (fun k_ => some k_ ≠ ((.slice Ao8 x3_4.length co8) : Value).ownBlock ∧ some k_ ≠ (v149 : Value).ownBlock) (.slice Ao17 t152.length co17) t152) ∧ Aside0 (Kd.S (Kd.slice 3 (Kd.int .i64)) 25 wc w.heap.size (fun k_ => some k_ ≠ ((.slice Ao8 x3_4.length co8) : Value).ownBlock ∧ some k_ ≠ (v149 : Value).ownBlock ∧ some k_ ≠ ((.slice Ao17 t152.length co17) : Value).ownBlock) (.slice (some ad165) t157.length co38) t157) ∧ Aside0 (Kd.C (Kd.int .i64) wc (some ad164) y160.length y160) ∧ Aside0 (Kd.C (Kd.int .i64) wc (some ad168) (rd_L1 t157 (rd y160 x54_4)).length (rd_L1 t157 (rd y160 x54_4))) ∧ Aside0 (Below w.heap.size w wc))
                                                    case first =>
                                                      have H := HC42.out
                                                      clear HC42
                                                      by_cases c43 : (rd (rd_L1 t157 (rd y160 x54_4)) x63_5) = 0
                                                      · rw [if_pos c43] at H
                                                        have c43b0 : ((rd (rd_L1 t157 (rd y160 x54_4)) x63_5) == 0) = true := beq_iff_eq.mpr c43
                                                        have c43b1 : ((rd (rd_L1 t157 (rd y160 x54_4)) x63_5) != 0) = false := bne_eq_false_iff_eq.mpr c43
                                                        clear c43
                                                        (first | rw [c43b0] | (simp only [i64_w, i32_w]; rw [c43b0]) | skip)
                                                        have H' := Aside0.mk H
                                                        clear H
                                                        go_wp2
                                                        go_meet
                                                        case rel => exact ⟨_, (false), (by first | rfl | (simp; done) | (simp [*]; done)), H', ⟨by have := HK1.out; have := HK2.out; have := HK3.out; have := HK4.out; have := HK5.out; first | omega | exact Nat.le_refl _⟩, ⟨by (try simp only [hl3_1]); (try simp only [hl3_3]); (try simp only [hl3_4]); (with_reducible repeat (first | apply Kd.R_alloc | apply Kd.R_drewN | apply Kd.R_drew)); exact HO_3.out⟩, ⟨by (try simp only [hl3_1]); (try simp only [hl3_3]); (try simp only [hl3_4]); (with_reducible repeat (first | apply Kd.R_alloc | apply Kd.R_drewN | apply Kd.R_drew)); exact HO_4.out⟩, ⟨by (try simp only [hl3_1]); (try simp only [hl3_3]); (try simp only [hl3_4]); (with_reducible repeat (first | apply Kd.R_alloc | apply Kd.R_drewN | apply Kd.R_drew)); exact HO_6.out⟩, ⟨by (try simp only [hl3_1]); (try simp only [hl3_3]); (try simp only [hl3_4]); (with_reducible repeat (first | apply Kd.S_alloc | apply Kd.S_drewN | apply Kd.S_drew)); exact HO_9.out⟩, ⟨by repeat (first | (with_reducible exact HR163.out) | (with_reducible refine Kd.C_alloc ?_ _) | (with_reducible refine Kd.C_drewN ?_ _) | (with_reducible refine Kd.C_drew ?_) | exact HR163.out)⟩, ⟨by repeat (first | (with_reducible exact HR165_0.out) | (with_reducible refine Kd.C_alloc ?_ _) | (with_reducible refine Kd.C_drewN ?_ _) | (with_reducible refine Kd.C_drew ?_) | exact HR165_0.out)⟩, ⟨by repeat (first | (with_reducible first | exact HB.out | apply below_alloc | apply pw_below_drewN | apply below_drew1) | exact HB.out)⟩⟩
                                                      · rw [if_neg c43] at H
                                                        have c43b0 : ((rd (rd_L1 t157 (rd y160 x54_4)) x63_5) == 0) = false := beq_eq_false_iff_ne.mpr c43
                                                        have c43b1 : ((rd (rd_L1 t157 (rd y160 x54_4)) x63_5) != 0) = true := bne_iff_ne.mpr c43
                                                        (first | rw [c43b0] | (simp only [i64_w, i32_w]; rw [c43b0]) | skip)
                                                        by_cases c44 : 0 ≤ (rd (rd_L1 t157 (rd y160 x54_4)) x63_5)
                                                        · rw [if_pos c44] at H
                                                          have c44b0 : decide (0 ≤ (rd (rd_L1 t157 (rd y160 x54_4)) x63_5)) = true := decide_eq_true c44
                                                          clear c44
                                                          by_cases c45 : (rd (rd_L1 t157 (rd y160 x54_4)) x63_5) < (x3_4.length : Int)
                                                          · rw [if_pos c45] at H
                                                            have c45b0 : decide ((rd (rd_L1 t157 (rd y160 x54_4)) x63_5) < (x3_4.length : Int)) = true := decide_eq_true c45
                                                            clear c45
                                                            have H' := Aside0.mk H
                                                            clear H
                                                            have p169 : 0 ≤ ((rd (rd_L1 t157 (rd y160 x54_4)) x63_5) : Int) := of_decide_eq_true (by first | (with_reducible assumption) | assumption)
                                                            have q169 : (rd (rd_L1 t157 (rd y160 x54_4)) x63_5) < (x3_4.length : Int) := of_decide_eq_true (by first | (with_reducible assumption) | assumption)
                                                            obtain ⟨ad169, e169, hx169_0⟩ := Kd.at_int (Kd.R_reads' HO_3.out).2.2 (rd (rd_L1 t157 (rd y160 x54_4)) x63_5) p169 q169
                                                            cases e169
                                                            replace p169 := eq_true p169
                                                            replace q169 := eq_true q169
                                                            go_wp2
                                                            go_meet
                                                            case rel => exact ⟨_, (decide ((rd x3_4 (rd (rd_L1 t157 (rd y160 x54_4)) x63_5)) < 0)), (by first | rfl | (simp; done) | (simp [*]; done)), H', ⟨by have := HK1.out; have := HK2.out; have := HK3.out; have := HK4.out; have := HK5.out; first | omega | exact Nat.le_refl _⟩, ⟨by (try simp only [hl3_1]); (try simp only [hl3_3]); (try simp only [hl3_4]); (with_reducible repeat (first | apply Kd.R_alloc | apply Kd.R_drewN | apply Kd.R_drew)); exact HO_3.out⟩, ⟨by (try simp only [hl3_1]); (try simp only [hl3_3]); (try simp only [hl3_4]); (with_reducible repeat (first | apply Kd.R_alloc | apply Kd.R_drewN | apply Kd.R_drew)); exact HO_4.out⟩, ⟨by (try simp only [hl3_1]); (try simp only [hl3_3]); (try simp only [hl3_4]); (with_reducible repeat (first | apply Kd.R_alloc | apply Kd.R_drewN | apply Kd.R_drew)); exact HO_6.out⟩, ⟨by (try simp only [hl3_1]); (try simp only [hl3_3]); (try simp only [hl3_4]); (with_reducible repeat (first | apply Kd.S_alloc | apply Kd.S_drewN | apply Kd.S_drew)); exact HO_9.out⟩, ⟨by repeat (first | (with_reducible exact HR163.out) | (with_reducible refine Kd.C_alloc ?_ _) | (with_reducible refine Kd.C_drewN ?_ _) | (with_reducible refine Kd.C_drew ?_) | exact HR163.out)⟩, ⟨by repeat (first | (with_reducible exact HR165_0.out) | (with_reducible refine Kd.C_alloc ?_ _) | (with_reducible refine Kd.C_drewN ?_ _) | (with_reducible refine Kd.C_drew ?_) | exact HR165_0.out)⟩, ⟨by repeat (first | (with_reducible first | exact HB.out | apply below_alloc | apply pw_below_drewN | apply below_drew1) | exact HB.out)⟩⟩
                                                          · rw [if_neg c45] at H
                                                            exact absurd H (by simp)
                                                        · rw [if_neg c44] at H
                                                          exact absurd H (by simp)
                                                    case rest =>
                                                      clear HC42
                                                      try clear c1
                                                      try clear p1
                                                      try clear q1
                                                      try clear hx1
                                                      try clear hf1
                                                      try clear c2
                                                      try clear c2b0
                                                      try clear c2b1
                                                      try clear p2
                                                      try clear q2
                                                      try clear hx2
                                                      try clear hf2
                                                      try clear c3
                                                      try clear c3b0
                                                      try clear c3b1
                                                      try clear q3
                                                      try clear c4
                                                      try clear p6
                                                      try clear c9
                                                      try clear c9b0
                                                      try clear c10
                                                      try clear c10b0
                                                      try clear c11
                                                      try clear c11b0
                                                      try clear p12
                                                      try clear q12
                                                      try clear hx12
                                                      try clear hf12
                                                      try clear p15
                                                      try clear q15
                                                      try clear hx15
                                                      try clear c16
                                                      try clear p16
                                                      try clear q16
                                                      try clear hx16
                                                      try clear c18
                                                      try clear c18b0
                                                      try clear c19
                                                      try clear c19b0
                                                      try clear c20
                                                      try clear c20b0
                                                      try clear c21
                                                      try clear c21b0
                                                      try clear c22
                                                      try clear c22b0
                                                      try clear p23
                                                      try clear q23
                                                      try clear hx23
                                                      try clear hf23
                                                      try clear c26
                                                      try clear c28
                                                      try clear c30
                                                      try clear c30b0
                                                      try clear c30b1
                                                      try clear c31
                                                      try clear c31b0
                                                      try clear c31b1
                                                      try clear c32
                                                      try clear q32
                                                      try clear c33
                                                      try clear c33b0
                                                      try clear c34
                                                      try clear c34b0
                                                      try clear c35
                                                      try clear c35b0
                                                      try clear c36
                                                      try clear c36b0
                                                      try clear c37
                                                      try clear c37b0
                                                      try clear c39
                                                      try clear c39b0
                                                      try clear c40
                                                      try clear c40b0
                                                      try clear c41
                                                      try clear c41b0
                                                      try clear c43
                                                      try clear c43b0
                                                      try clear c43b1
                                                      try clear c44
                                                      try clear c44b0
                                                      try clear c45
                                                      try clear c45b0
                                                      try clear hx12_0
                                                      try clear hx155_0
                                                      try clear hx164_0
                                                      try clear hx165_0
                                                      try clear hx168_0
                                                      try clear hx169_0
                                                      try clear hx23_0
                                                      try clear p1
                                                      try clear p12
                                                      try clear p15
                                                      try clear p155
                                                      try clear p16
                                                      try clear p164
                                                      try clear p165
                                                      try clear p168
                                                      try clear p169
                                                      try clear p2
                                                      try clear p23
                                                      try clear p6
                                                      try clear q032
                                                      try clear q1
                                                      try clear q12
                                                      try clear q15
                                                      try clear q155
                                                      try clear q16
                                                      try clear q164
                                                      try clear q165
                                                      try clear q168
                                                      try clear q169
                                                      try clear q2
                                                      try clear q23
                                                      try clear q3
                                                      try clear q32
                                                      obtain ⟨kq, x72_41, rfl, HA, HJ41, HO_3, HO_4, HO_6, HO_9, HR163, HR165_0, HB⟩ := hcut
                                                      cases kq with
                                                      | zero => exact absurd HA.out (by simp [graph_doms.j5])
                                                      | succ kj41 =>
                                                        have H := HA.out
                                                        clear HA
                                                        simp only [graph_doms.j5] at H
                                                        by_cases c46 : x72_41 = true
                                                        · subst c46
                                                          have H1 : (graph_doms.l4 kj41 x3_4 x4_2 t152 t157 x10_4 (rd y160 x54_4) x13_5 y160 (y160.length : Int) x54_4 (rd_L1 t157 (rd y160 x54_4)) ((rd_L1 t157 (rd y160 x54_4)).length : Int) (wrap64 (x63_5 + 1))) = some r := by rw [if_pos rfl] at H; exact H
                                                          clear H
                                                          have H := H1
                                                          clear H1
                                                          have H' := Aside0.mk H
                                                          clear H
                                                          go_wp2
                                                          go_roundg kj41
                                                          case measure => have := HK1.out; have := HK2.out; have := HK3.out; have := HK4.out; have := HK5.out; have := HJ41.out; omega
                                                          case rel => exact ⟨(x13_5), (wrap64 (x63_5 + 1)), (by first | rfl | (simp; done) | (simp [*]; done)), (by first | rfl | (simp; done) | (simp [*]; done)), H', ⟨by have := HK1.out; have := HK2.out; have := HK3.out; have := HK4.out; have := HK5.out; have := HJ41.out; omega⟩, ⟨by (try simp only [hl3_1]); (try simp only [hl3_3]); (try simp only [hl3_4]); (with_reducible repeat (first | apply Kd.R_alloc | apply Kd.R_drewN | apply Kd.R_drew)); exact HO_3.out⟩, ⟨by (try simp only [hl3_1]); (try simp only [hl3_3]); (try simp only [hl3_4]); (with_reducible repeat (first | apply Kd.R_alloc | apply Kd.R_drewN | apply Kd.R_drew)); exact HO_4.out⟩, ⟨by (try simp only [hl3_1]); (try simp only [hl3_3]); (try simp only [hl3_4]); (with_reducible repeat (first | apply Kd.R_alloc | apply Kd.R_drewN | apply Kd.R_drew)); exact HO_6.out⟩, ⟨by (try simp only [hl3_1]); (try simp only [hl3_3]); (try simp only [hl3_4]); (with_reducible repeat (first | apply Kd.S_alloc | apply Kd.S_drewN | apply Kd.S_drew)); exact HO_9.out⟩, ⟨by repeat (first | (with_reducible exact HR163.out) | (with_reducible refine Kd.C_alloc ?_ _) | (with_reducible refine Kd.C_drewN ?_ _) | (with_reducible refine Kd.C_drew ?_) | exact HR163.out)⟩, ⟨by repeat (first | (with_reducible exact HR165_0.out) | (with_reducible refine Kd.C_alloc ?_ _) | (with_reducible refine Kd.C_drewN ?_ _) | (with_reducible refine Kd.C_drew ?_) | exact HR165_0.out)⟩, ⟨by repeat (first | (with_reducible first | exact HB.out | apply below_alloc | apply pw_below_drewN | apply below_drew1) | exact HB.out)⟩⟩
                                                        · replace c46 := Bool.eq_false_iff.mpr c46
                                                          subst c46
                                                          have H1 : (if x13_5 < 0 then (graph_doms.l4 kj41 x3_4 x4_2 t152 t157 x10_4 (rd y160 x54_4) (rd (rd_L1 t157 (rd y160 x54_4)) x63_5) y160 (y160.length : Int) x54_4 (rd_L1 t157 (rd y160 x54_4)) ((rd_L1 t157 (rd y160 x54_4)).length : Int) (wrap64 (x63_5 + 1))) else ((graph_meet.f kj41 x3_4 x4_2 x13_5 (rd (rd_L1 t157 (rd y160 x54_4)) x63_5)).bind fun t170 => (graph_doms.l4 kj41 x3_4 x4_2 t152 t157 x10_4 (rd y160 x54_4) t170 y160 (y160.length : Int) x54_4 (rd_L1 t157 (rd y160 x54_4)) ((rd_L1 t157 (rd y160 x54_4)).length : Int) (wrap64 (x63_5 + 1))))) = some r := by rw [if_neg (show ¬ (false = true) by decide)] at H; exact H
                                                          clear H
                                                          have H := H1
                                                          clear H1
                                                          by_cases c47 : x13_5 < 0
                                                          · rw [if_pos c47] at H
                                                            have c47b0 : decide (x13_5 < 0) = true := decide_eq_true c47
                                                            clear c47
                                                            have H' := Aside0.mk H
                                                            clear H
                                                            go_wp2
                                                            go_roundg kj41
                                                            case measure => have := HK1.out; have := HK2.out; have := HK3.out; have := HK4.out; have := HK5.out; have := HJ41.out; omega
                                                            case rel => exact ⟨((rd (rd_L1 t157 (rd y160 x54_4)) x63_5)), (wrap64 (x63_5 + 1)), (by first | rfl | (simp; done) | (simp [*]; done)), (by first | rfl | (simp; done) | (simp [*]; done)), H', ⟨by have := HK1.out; have := HK2.out; have := HK3.out; have := HK4.out; have := HK5.out; have := HJ41.out; omega⟩, ⟨by (try simp only [hl3_1]); (try simp only [hl3_3]); (try simp only [hl3_4]); (with_reducible repeat (first | apply Kd.R_alloc | apply Kd.R_drewN | apply Kd.R_drew)); exact HO_3.out⟩, ⟨by (try simp only [hl3_1]); (try simp only [hl3_3]); (try simp only [hl3_4]); (with_reducible repeat (first | apply Kd.R_alloc | apply Kd.R_drewN | apply Kd.R_drew)); exact HO_4.out⟩, ⟨by (try simp only [hl3_1]); (try simp only [hl3_3]); (try simp only [hl3_4]); (with_reducible repeat (first | apply Kd.R_alloc | apply Kd.R_drewN | apply Kd.R_drew)); exact HO_6.out⟩, ⟨by (try simp only [hl3_1]); (try simp only [hl3_3]); (try simp only [hl3_4]); (with_reducible repeat (first | apply Kd.S_alloc | apply Kd.S_drewN | apply Kd.S_drew)); exact HO_9.out⟩, ⟨by repeat (first | (with_reducible exact HR163.out) | (with_reducible refine Kd.C_alloc ?_ _) | (with_reducible refine Kd.C_drewN ?_ _) | (with_reducible refine Kd.C_drew ?_) | exact HR163.out)⟩, ⟨by repeat (first | (with_reducible exact HR165_0.out) | (with_reducible refine Kd.C_alloc ?_ _) | (with_reducible refine Kd.C_drewN ?_ _) | (with_reducible refine Kd.C_drew ?_) | exact HR165_0.out)⟩, ⟨by repeat (first | (with_reducible first | exact HB.out | apply below_alloc | apply pw_below_drewN | apply below_drew1) | exact HB.out)⟩⟩
                                                          · rw [if_neg c47] at H
                                                            have c47b0 : decide (x13_5 < 0) = false := decide_eq_false c47
                                                            clear c47
                                                            replace H := Option.bind_eq_some_iff.mp H
                                                            obtain ⟨t170, A480, H⟩ := H
                                                            replace H : (graph_doms.l4 kj41 x3_4 x4_2 t152 t157 x10_4 (rd y160 x54_4) t170 y160 (y160.length : Int) x54_4 (rd_L1 t157 (rd y160 x54_4)) ((rd_L1 t157 (rd y160 x54_4)).length : Int) (wrap64 (x63_5 + 1))) = some r := H
                                                            have A48 := Aside0.mk A480
                                                            clear A480
                                                            have H' := Aside0.mk H
                                                            clear H
                                                            obtain ⟨Ao49, co49, eo49⟩ := Kd.R_slice HO_4.out
                                                            subst eo49
                                                            go_wp2_with (first | ((with_reducible refine gate_callee (f := 39) rfl ?_); refine goesL_ (some 71) rfl rfl Try.func39 (by kernel_rfl) rfl #[.slice Ao8 x3_4.length co8, .slice Ao49 x4_2.length co49, .int .i64 x13_5, .int .i64 (rd (rd_L1 t157 (rd y160 x54_4)) x63_5)] rfl (by (try simp only [List.map_toArray, List.map_cons, List.map_nil]); first | done | rfl | (simp only [List.length_drop, List.length_take]; rfl)) ?_; (with_reducible refine (graph_meet.calls kj41 _ _ x3_4 _ _ x4_2 x13_5 (rd (rd_L1 t157 (rd y160 x54_4)) x63_5) t170 _ ?side1 ?side2 ?side3 ?side4 A48.out).mono ?_); (case side1 => repeat (first | exact (Kd.R_reads' HO_3.out).2.2 | (with_reducible refine Kd.C_alloc ?_ _) | (with_reducible refine Kd.C_drewN ?_ _) | (with_reducible refine Kd.C_drew ?_))); (case side2 => exact (Kd.R_reads' HO_3.out).2.1); (case side3 => repeat (first | exact (Kd.R_reads' HO_4.out).2.2 | (with_reducible refine Kd.C_alloc ?_ _) | (with_reducible refine Kd.C_drewN ?_ _) | (with_reducible refine Kd.C_drew ?_))); (case side4 => exact (Kd.R_reads' HO_4.out).2.1); rintro e w' ⟨rfl, ⟨nd, rfl⟩⟩; refine ⟨_, rfl, ?_⟩))
                                                            go_roundg kj41
                                                            case measure => have := HK1.out; have := HK2.out; have := HK3.out; have := HK4.out; have := HK5.out; have := HJ41.out; omega
                                                            case rel => exact ⟨(t170), (wrap64 (x63_5 + 1)), (by first | rfl | (simp; done) | (simp [*]; done)), (by first | rfl | (simp; done) | (simp [*]; done)), H', ⟨by have := HK1.out; have := HK2.out; have := HK3.out; have := HK4.out; have := HK5.out; have := HJ41.out; omega⟩, ⟨by (try simp only [hl3_1]); (try simp only [hl3_3]); (try simp only [hl3_4]); (with_reducible repeat (first | apply Kd.R_alloc | apply Kd.R_drewN | apply Kd.R_drew)); exact HO_3.out⟩, ⟨by (try simp only [hl3_1]); (try simp only [hl3_3]); (try simp only [hl3_4]); (with_reducible repeat (first | apply Kd.R_alloc | apply Kd.R_drewN | apply Kd.R_drew)); exact HO_4.out⟩, ⟨by (try simp only [hl3_1]); (try simp only [hl3_3]); (try simp only [hl3_4]); (with_reducible repeat (first | apply Kd.R_alloc | apply Kd.R_drewN | apply Kd.R_drew)); exact HO_6.out⟩, ⟨by (try simp only [hl3_1]); (try simp only [hl3_3]); (try simp only [hl3_4]); (with_reducible repeat (first | apply Kd.S_alloc | apply Kd.S_drewN | apply Kd.S_drew)); exact HO_9.out⟩, ⟨by repeat (first | (with_reducible exact HR163.out) | (with_reducible refine Kd.C_alloc ?_ _) | (with_reducible refine Kd.C_drewN ?_ _) | (with_reducible refine Kd.C_drew ?_) | exact HR163.out)⟩, ⟨by repeat (first | (with_reducible exact HR165_0.out) | (with_reducible refine Kd.C_alloc ?_ _) | (with_reducible refine Kd.C_drewN ?_ _) | (with_reducible refine Kd.C_drew ?_) | exact HR165_0.out)⟩, ⟨by repeat (first | (with_reducible first | exact HB.out | apply below_alloc | apply pw_below_drewN | apply below_drew1) | exact HB.out)⟩⟩
                                                  · rw [if_neg c41] at H
                                                    exact absurd H (by simp)
                                                · rw [if_neg c40] at H
                                                  exact absurd H (by simp)
                                              · rw [if_neg c39] at H
                                                have c39b0 : decide (x63_5 < ((rd_L1 t157 (rd y160 x54_4)).length : Int)) = false := decide_eq_false c39
                                                clear c39
                                                by_cases c50 : 0 ≤ (rd y160 x54_4)
                                                · rw [if_pos c50] at H
                                                  have c50b0 : decide (0 ≤ (rd y160 x54_4)) = true := decide_eq_true c50
                                                  clear c50
                                                  by_cases c51 : (rd y160 x54_4) < (x3_4.length : Int)
                                                  · rw [if_pos c51] at H
                                                    have c51b0 : decide ((rd y160 x54_4) < (x3_4.length : Int)) = true := decide_eq_true c51
                                                    clear c51
                                                    by_cases c52 : (rd x3_4 (rd y160 x54_4)) = x13_5
                                                    · rw [if_pos c52] at H
                                                      have c52b0 : ((rd x3_4 (rd y160 x54_4)) == x13_5) = true := beq_iff_eq.mpr c52
                                                      have c52b1 : ((rd x3_4 (rd y160 x54_4)) != x13_5) = false := bne_eq_false_iff_eq.mpr c52
                                                      clear c52
                                                      have H' := Aside0.mk H
                                                      clear H
                                                      have p166 : 0 ≤ ((rd y160 x54_4) : Int) := of_decide_eq_true (by first | (with_reducible assumption) | assumption)
                                                      have q166 : (rd y160 x54_4) < (x3_4.length : Int) := of_decide_eq_true (by first | (with_reducible assumption) | assumption)
                                                      obtain ⟨ad166, e166, hx166_0⟩ := Kd.at_int (Kd.R_reads' HO_3.out).2.2 (rd y160 x54_4) p166 q166
                                                      cases e166
                                                      replace p166 := eq_true p166
                                                      replace q166 := eq_true q166
                                                      go_wp2
                                                      (try simp only [← hl3_4])
                                                      go_roundg k5
                                                      case measure => have := HK1.out; have := HK2.out; have := HK3.out; have := HK4.out; have := HK5.out; omega
                                                      case rel => exact ⟨(x3_4), (x10_4), (wrap64 (x54_4 + 1)), (by first | rfl | (simp; done) | (simp [*]; done)), (by first | rfl | (simp; done) | (simp [*]; done)), H', ⟨by have := HK1.out; have := HK2.out; have := HK3.out; have := HK4.out; have := HK5.out; omega⟩, ⟨by (try simp only [hl3_1]); (try simp only [hl3_3]); (try simp only [hl3_4]); (with_reducible repeat (first | apply Kd.R_alloc | apply Kd.R_drewN | apply Kd.R_drew)); exact HO_3.out⟩, ⟨by (try simp only [hl3_1]); (try simp only [hl3_3]); (try simp only [hl3_4]); (with_reducible repeat (first | apply Kd.R_alloc | apply Kd.R_drewN | apply Kd.R_drew)); exact HO_4.out⟩, ⟨by (try simp only [hl3_1]); (try simp only [hl3_3]); (try simp only [hl3_4]); (with_reducible repeat (first | apply Kd.R_alloc | apply Kd.R_drewN | apply Kd.R_drew)); exact HO_6.out⟩, ⟨by (try simp only [hl3_1]); (try simp only [hl3_3]); (try simp only [hl3_4]); (with_reducible repeat (first | apply Kd.S_alloc | apply Kd.S_drewN | apply Kd.S_drew)); exact HO_9.out⟩, ⟨by repeat (first | (with_reducible exact HR163.out) | (with_reducible refine Kd.C_alloc ?_ _) | (with_reducible refine Kd.C_drewN ?_ _) | (with_reducible refine Kd.C_drew ?_) | exact HR163.out)⟩, ⟨by repeat (first | (with_reducible first | exact HB.out | apply below_alloc | apply pw_below_drewN | apply below_drew1) | exact HB.out)⟩⟩
                                                    · rw [if_neg c52] at H
                                                      have c52b0 : ((rd x3_4 (rd y160 x54_4)) == x13_5) = false := beq_eq_false_iff_ne.mpr c52
                                                      have c52b1 : ((rd x3_4 (rd y160 x54_4)) != x13_5) = true := bne_iff_ne.mpr c52
                                                      obtain ⟨y167, hy167⟩ : ∃ y_ : List Int, y_ = (x3_4.set ((rd y160 x54_4) : Int).toNat x13_5) := ⟨_, rfl⟩
                                                      replace H : (graph_doms.l3 k5 y167 x4_2 t152 t157 true y160 (y160.length : Int) (wrap64 (x54_4 + 1))) = some r := by first | (rw [hy167]; with_reducible exact H) | (have H2_ := (Option.bind_some _ _).symm.trans H; rw [hy167]; with_reducible exact H2_) | (have H2_ := (Option.bind_some _ _).symm.trans H; with_reducible exact H2_) | with_reducible exact H | (rw [hy167]; exact H) | exact H
                                                      have Ny167 := Aside0.mk hy167
                                                      clear hy167
                                                      have H' := Aside0.mk H
                                                      clear H
                                                      have p166 : 0 ≤ ((rd y160 x54_4) : Int) := of_decide_eq_true (by first | (with_reducible assumption) | assumption)
                                                      have q166 : (rd y160 x54_4) < (x3_4.length : Int) := of_decide_eq_true (by first | (with_reducible assumption) | assumption)
                                                      obtain ⟨ad166, e166, hx166_0⟩ := Kd.at_int (Kd.R_reads' HO_3.out).2.2 (rd y160 x54_4) p166 q166
                                                      cases e166
                                                      replace p166 := eq_true p166
                                                      replace q166 := eq_true q166
                                                      have p53 : 0 ≤ ((rd y160 x54_4) : Int) := of_decide_eq_true (by first | (with_reducible assumption) | assumption)
                                                      have q53 : ((rd y160 x54_4) : Int) < ((x3_4.length : Int) : Int) := of_decide_eq_true (by first | (with_reducible assumption) | assumption)
                                                      obtain ⟨go53, co53, eo53, gb53, gl53, cl53, HG53⟩ := Kd.R_form HO_3.out (by omega)
                                                      (first | cases eo53 | (injection eo53 with ea_ en_ ec_; (first | subst ea_ | (injection ea_ with ea_; subst ea_)); subst ec_; clear en_))
                                                      have GB53 := Aside0.mk gb53
                                                      have GG53 := Aside0.mk HG53
                                                      clear gb53 gl53 HG53
                                                      (first | simp only [add_plain] at hx166_0 | skip)
                                                      obtain ⟨hx53_0, hf53_0⟩ := Kd.R_celln 0 HO_3.out ((rd y160 x54_4) : Int) p53 q53
                                                      replace p53 := eq_true p53
                                                      replace q53 := eq_true q53
                                                      have HP54 := Kd.R_putg HO_3.out ((rd y160 x54_4) : Int) x13_5
                                                      go_wp2_with (first | ((with_reducible refine gate_store (t := 3) (p := 96) rfl ?_); refine store_event (t := 3) (p := 96) (v := ?vo_w55) (w1 := (wr.setCell ⟨go53, ((rd y160 x54_4) : Int).toNat, none⟩ (.int .i64 x13_5))) ?hg ?ho ?hn ?hr ?_; (case ho => rfl); (case hg => rfl); (case hn => rfl); (case hr => first | (go_simp; done) | (go_simp; rfl)); intro w55 hw; have hg : wr.grownBy w55 (some go53) := (by rw [hw]; exact HP54.2); have hp_ : Kd.R (Kd.int .i64) 3 w55 w.heap.size (fun k_ => some k_ ≠ (v149 : Value).ownBlock ∧ some k_ ≠ (.slice Ao17 t152.length co17 : Value).ownBlock) (.slice (some ⟨go53, 0, none⟩) x3_4.length co8) y167 := (by rw [hw, Ny167.out]; exact HP54.1); clear HP54; have n0_ := Aside0.mk (hp_); have n1_ := Aside0.mk (Kd.R_after (v := (.slice (some ⟨go53, 0, none⟩) x3_4.length co8)) (v1 := (.slice (some ⟨go53, 0, none⟩) x3_4.length co8)) (ok := (fun k_ => some k_ ≠ (.slice Ao17 t152.length co17 : Value).ownBlock)) (by (with_reducible repeat (first | apply Kd.R_alloc | apply Kd.R_drewN | apply Kd.R_drew)); exact Kd.R_mono HO_4.out (fun _ hk => ⟨hk.2, hk.1⟩)) hg (.inl rfl)); have n2_ := Aside0.mk (Kd.R_after (v := (.slice (some ⟨go53, 0, none⟩) x3_4.length co8)) (v1 := (.slice (some ⟨go53, 0, none⟩) x3_4.length co8)) (ok := (fun k_ => some k_ ≠ (v149 : Value).ownBlock)) (by (with_reducible repeat (first | apply Kd.R_alloc | apply Kd.R_drewN | apply Kd.R_drew)); exact Kd.R_mono HO_6.out (fun _ hk => ⟨hk.2, hk.1⟩)) hg (.inl rfl)); have n3_ := Aside0.mk (Kd.S_after (v := (.slice (some ⟨go53, 0, none⟩) x3_4.length co8)) (v1 := (.slice (some ⟨go53, 0, none⟩) x3_4.length co8)) (ok := (fun k_ => some k_ ≠ (v149 : Value).ownBlock ∧ some k_ ≠ (.slice Ao17 t152.length co17 : Value).ownBlock)) (by (with_reducible repeat (first | apply Kd.S_alloc | apply Kd.S_drewN | apply Kd.S_drew)); exact Kd.S_mono HO_9.out (fun _ hk => ⟨⟨hk.2.1, hk.2.2⟩, hk.1⟩)) hg (.inl rfl)); have n4_ := Aside0.mk ((by rw [hw]; exact below_set (HB.out) GB53.out : Below w.heap.size w w55)); have n5_ := Aside0.mk ((show Kd.C (Kd.int .i64) w55 (some ad164) y160.length y160 from by rw [Ny160.out, KA32.out]; exact Kd.C_drop (m := ((ji29) : Int).toNat) (c := co17) ((Kd.R_reads' (Kd.R_after (v := (.slice (some ⟨go53, 0, none⟩) x3_4.length co8)) (v1 := (.slice (some ⟨go53, 0, none⟩) x3_4.length co8)) (ok := (fun k_ => some k_ ≠ (v149 : Value).ownBlock)) (by (with_reducible repeat (first | apply Kd.R_alloc | apply Kd.R_drewN | apply Kd.R_drew)); exact Kd.R_mono HO_6.out (fun _ hk => ⟨hk.2, hk.1⟩)) hg (.inl rfl))).2.2) KL32.out ((Kd.R_reads' (Kd.R_after (v := (.slice (some ⟨go53, 0, none⟩) x3_4.length co8)) (v1 := (.slice (some ⟨go53, 0, none⟩) x3_4.length co8)) (ok := (fun k_ => some k_ ≠ (v149 : Value).ownBlock)) (by (with_reducible repeat (first | apply Kd.R_alloc | apply Kd.R_drewN | apply Kd.R_drew)); exact Kd.R_mono HO_6.out (fun _ hk => ⟨hk.2, hk.1⟩)) hg (.inl rfl))).2.1))); clear HO_3; clear HO_4; clear HO_6; clear HO_9; clear HB; clear HR163; have HO_3 := n0_; have HO_4 := n1_; have HO_6 := n2_; have HO_9 := n3_; have HB := n4_; have HR163 := n5_; clear n0_ n1_ n2_ n3_ n4_ n5_; clear hg hw hp_))
                                                      (try simp only [← hl3_4])
                                                      go_roundg k5
                                                      case measure => have := HK1.out; have := HK2.out; have := HK3.out; have := HK4.out; have := HK5.out; omega
                                                      case rel => exact ⟨(y167), (true), (wrap64 (x54_4 + 1)), (by first | rfl | (simp; done) | (simp [*]; done)), (by first | rfl | (simp; done) | (simp [*]; done)), H', ⟨by have := HK1.out; have := HK2.out; have := HK3.out; have := HK4.out; have := HK5.out; omega⟩, ⟨by (try simp only [hl3_1]); (try simp only [hl3_3]); (try simp only [hl3_4]); (with_reducible repeat (first | apply Kd.R_alloc | apply Kd.R_drewN | apply Kd.R_drew)); exact HO_3.out⟩, ⟨by (try simp only [hl3_1]); (try simp only [hl3_3]); (try simp only [hl3_4]); (with_reducible repeat (first | apply Kd.R_alloc | apply Kd.R_drewN | apply Kd.R_drew)); exact Kd.R_mono HO_4.out (fun _ hk => ⟨hk.2, hk.1⟩)⟩, ⟨by (try simp only [hl3_1]); (try simp only [hl3_3]); (try simp only [hl3_4]); (with_reducible repeat (first | apply Kd.R_alloc | apply Kd.R_drewN | apply Kd.R_drew)); exact Kd.R_mono HO_6.out (fun _ hk => ⟨hk.2, hk.1⟩)⟩, ⟨by (try simp only [hl3_1]); (try simp only [hl3_3]); (try simp only [hl3_4]); (with_reducible repeat (first | apply Kd.S_alloc | apply Kd.S_drewN | apply Kd.S_drew)); exact Kd.S_mono HO_9.out (fun _ hk => ⟨hk.2, ⟨hk.1.1, hk.1.2⟩⟩)⟩, ⟨by repeat (first | (with_reducible exact HR163.out) | (with_reducible refine Kd.C_alloc ?_ _) | (with_reducible refine Kd.C_drewN ?_ _) | (with_reducible refine Kd.C_drew ?_) | exact HR163.out)⟩, ⟨by repeat (first | (with_reducible first | exact HB.out | apply below_alloc | apply pw_below_drewN | apply below_drew1) | exact HB.out)⟩⟩
                                                  · rw [if_neg c51] at H
                                                    exact absurd H (by simp)
                                                · rw [if_neg c50] at H
                                                  exact absurd H (by simp)
                                        · rw [if_neg c37] at H
                                          exact absurd H (by simp)
                                      · rw [if_neg c36] at H
                                        exact absurd H (by simp)
                                    · rw [if_neg c35] at H
                                      exact absurd H (by simp)
                                  · rw [if_neg c34] at H
                                    exact absurd H (by simp)
                                · rw [if_neg c33] at H
                                  have c33b0 : decide (x54_4 < (y160.length : Int)) = false := decide_eq_false c33
                                  clear c33
                                  have H' := Aside0.mk H
                                  clear H
                                  go_wp2
                                  (try simp only [← hl3_3, ← hl3_4])
                                  go_roundg k4
                                  case measure => have := HK1.out; have := HK2.out; have := HK3.out; have := HK4.out; omega
                                  case rel => exact ⟨(x3_4), (x10_4), (by first | rfl | (simp; done) | (simp [*]; done)), H', ⟨by have := HK1.out; have := HK2.out; have := HK3.out; have := HK4.out; omega⟩, ⟨by (try simp only [hl3_1]); (try simp only [hl3_3]); (try simp only [hl3_4]); (with_reducible repeat (first | apply Kd.R_alloc | apply Kd.R_drewN | apply Kd.R_drew)); exact HO_3.out⟩, ⟨by (try simp only [hl3_1]); (try simp only [hl3_3]); (try simp only [hl3_4]); (with_reducible repeat (first | apply Kd.R_alloc | apply Kd.R_drewN | apply Kd.R_drew)); exact HO_4.out⟩, ⟨by (try simp only [hl3_1]); (try simp only [hl3_3]); (try simp only [hl3_4]); (with_reducible repeat (first | apply Kd.R_alloc | apply Kd.R_drewN | apply Kd.R_drew)); exact HO_6.out⟩, ⟨by (try simp only [hl3_1]); (try simp only [hl3_3]); (try simp only [hl3_4]); (with_reducible repeat (first | apply Kd.S_alloc | apply Kd.S_drewN | apply Kd.S_drew)); exact HO_9.out⟩, ⟨by repeat (first | (with_reducible first | exact HB.out | apply below_alloc | apply pw_below_drewN | apply below_drew1) | exact HB.out)⟩⟩
                          · rw [if_neg c31] at H
                            exact absurd H (by simp)
                        · rw [if_neg c30] at H
                          exact absurd H (by simp)
                      · replace c28 := Bool.eq_false_iff.mpr c28
                        subst c28
                        have H1 : (some x3_3) = some r := by rw [if_neg (show ¬ (false = true) by decide)] at H; exact H
                        clear H
                        have H := H1
                        clear H1
                        obtain rfl := Option.some.inj H
                        go_wp2
                        go_ret
                        exact ⟨_, by first | rfl | (simp [errW_none, errW_some] <;> rfl) | (simp [*, errW_none, errW_some] <;> rfl), by (with_reducible repeat (first | apply Kd.R_alloc | apply Kd.R_drewN | apply Kd.R_drew)); exact Kd.R_mono HO_3.out (fun _ hk => trivial), by repeat (first | (with_reducible first | exact HB.out | apply below_alloc | apply pw_below_drewN | apply below_drew1) | exact HB.out)⟩
    · rw [if_neg c3] at H
      exact absurd H (by simp)
  · rw [if_neg c2] at H
    exact absurd H (by simp)

end Go.Proofs.Ytjflddnmkajleaa.PG
