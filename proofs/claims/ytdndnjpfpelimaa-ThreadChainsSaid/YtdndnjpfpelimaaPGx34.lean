-- By the session's own program out of the kit's print, with texts of the session's own for the functions that the print does not take.
import Derived.Test.YtdndnjpfpelimaaPGx0
namespace Go.Proofs.Ytdndnjpfpelimaa.PG
open Go.RowKit Go.Proofs.YtdndnjpfpelimaaW.PrintWords Go.Proofs.YtdndnjpfpelimaaW.PrintLast Go.Proofs.YtdndnjpfpelimaaW.PrintMore
attribute [local go_sem] max2_int min2_int max_two min_two max_three min_three max_four min_four   -- for this text's walks alone
set_option linter.unusedVariables false
set_option linter.unusedSimpArgs false

/-! ### graph_clean: function 31 -/
mutual
def graph_clean.l0 : Nat → List (List Int) → List (List Int) → List Int → List (List Int) → Int → Int → Option ((List (List Int)))
  | 0, _, _, _, _, _, _ => none
  | k + 1, x0, x3, x4, x15, x16, x17 => if x17 < x16 then (if 0 ≤ x17 then (if x17 < (x15.length : Int) then (graph_clean.l1 k x0 x3 x4 x17 x15 x16 x17 (rd_L7 x15 x17) ((rd_L7 x15 x17).length : Int) 0) else (none)) else (none)) else (some x3)
def graph_clean.l1 : Nat → List (List Int) → List (List Int) → List Int → Int → List (List Int) → Int → Int → List Int → Int → Int → Option ((List (List Int)))
  | 0, _, _, _, _, _, _, _, _, _, _ => none
  | k + 1, x0, x3, x4, x5, x15, x16, x17, x22, x23, x24 => if x24 < x23 then (if 0 ≤ x24 then (if x24 < (x22.length : Int) then (if (rd x22 x24) ≥ 0 then (if (rd x22 x24) < (x0.length : Int) then (if 0 ≤ (rd x22 x24) then (if (rd x22 x24) < (x4.length : Int) then (if (rd x4 (rd x22 x24)) = (wrap64 (x5 + 1)) then (graph_clean.l1 k x0 x3 x4 x5 x15 x16 x17 x22 x23 (wrap64 (x24 + 1))) else (if 0 ≤ x5 then (if x5 < (x3.length : Int) then (if (rd_L7 x3 x5).length < 17592186044416 then (graph_clean.l1 k x0 (x3.set (x5 : Int).toNat ((rd_L7 x3 x5) ++ [rd x22 x24])) (x4.set ((rd x22 x24) : Int).toNat (wrap64 (x5 + 1))) x5 x15 x16 x17 x22 x23 (wrap64 (x24 + 1))) else (none)) else (none)) else (none))) else (none)) else (none)) else (graph_clean.l1 k x0 x3 x4 x5 x15 x16 x17 x22 x23 (wrap64 (x24 + 1)))) else (graph_clean.l1 k x0 x3 x4 x5 x15 x16 x17 x22 x23 (wrap64 (x24 + 1)))) else (none)) else (none)) else (graph_clean.l0 k x0 x3 x4 x15 x16 (wrap64 (x17 + 1)))
end
def graph_clean.f (k : Nat) (l0 : List (List Int)) : Option ((List (List Int))) := if 0 ≤ (l0.length : Int) then (if ((l0.length : Int) : Int).toNat ≤ 11728124029610 then (if ((l0.length : Int) : Int).toNat ≤ 35184372088832 then (graph_clean.l0 k l0 (List.replicate ((l0.length : Int) : Int).toNat []) (List.replicate ((l0.length : Int) : Int).toNat 0) l0 (l0.length : Int) 0) else (none)) else (none)) else (none)
theorem graph_clean.mono_l : ∀ k, (∀ y0 y1 y2 y3 y4 y5, LeO (graph_clean.l0 k y0 y1 y2 y3 y4 y5) (graph_clean.l0 (k + 1) y0 y1 y2 y3 y4 y5)) ∧ (∀ y0 y1 y2 y3 y4 y5 y6 y7 y8 y9, LeO (graph_clean.l1 k y0 y1 y2 y3 y4 y5 y6 y7 y8 y9) (graph_clean.l1 (k + 1) y0 y1 y2 y3 y4 y5 y6 y7 y8 y9))
  | 0 => ⟨fun _ _ _ _ _ _ r h => by simp [graph_clean.l0] at h, fun _ _ _ _ _ _ _ _ _ _ r h => by simp [graph_clean.l1] at h⟩
  | k + 1 => by
    obtain ⟨ih0, ih1⟩ := graph_clean.mono_l k
    refine ⟨?_, ?_⟩
    · intro y0 y1 y2 y3 y4 y5
      unfold graph_clean.l0
      repeat' first
      | (with_reducible exact ih0 _ _ _ _ _ _)
      | (with_reducible exact ih1 _ _ _ _ _ _ _ _ _ _)
      | (with_reducible exact LeO.refl _)
      | (with_reducible exact LeO.none _)
      | (with_reducible refine LeO.ite ?_ ?_)
      | (with_reducible refine LeO.bind ?_ (fun _ => ?_))
      | exact ih0 _ _ _ _ _ _
      | exact ih1 _ _ _ _ _ _ _ _ _ _
      | exact LeO.none _
      | refine LeO.ite ?_ ?_
      | refine LeO.bind ?_ (fun _ => ?_)
    · intro y0 y1 y2 y3 y4 y5 y6 y7 y8 y9
      unfold graph_clean.l1
      repeat' first
      | (with_reducible exact ih0 _ _ _ _ _ _)
      | (with_reducible exact ih1 _ _ _ _ _ _ _ _ _ _)
      | (with_reducible exact LeO.refl _)
      | (with_reducible exact LeO.none _)
      | (with_reducible refine LeO.ite ?_ ?_)
      | (with_reducible refine LeO.bind ?_ (fun _ => ?_))
      | exact ih0 _ _ _ _ _ _
      | exact ih1 _ _ _ _ _ _ _ _ _ _
      | exact LeO.none _
      | refine LeO.ite ?_ ?_
      | refine LeO.bind ?_ (fun _ => ?_)
theorem graph_clean.mono : ∀ a0 k, LeO (graph_clean.f k a0) (graph_clean.f (k + 1) a0) := by
  intro a0 k
  obtain ⟨ih0, ih1⟩ := graph_clean.mono_l k
  unfold graph_clean.f
  repeat' first
      | (with_reducible exact ih0 _ _ _ _ _ _)
      | (with_reducible exact ih1 _ _ _ _ _ _ _ _ _ _)
      | (with_reducible exact LeO.refl _)
      | (with_reducible exact LeO.none _)
      | (with_reducible refine LeO.ite ?_ ?_)
      | (with_reducible refine LeO.bind ?_ (fun _ => ?_))
      | exact ih0 _ _ _ _ _ _
      | exact ih1 _ _ _ _ _ _ _ _ _ _
      | exact LeO.none _
      | refine LeO.ite ?_ ?_
      | refine LeO.bind ?_ (fun _ => ?_)
set_option maxHeartbeats 8000000 in
set_option maxRecDepth 100000 in
theorem graph_clean.calls (k : Nat) (A0 : Option Addr) (c0 : Nat) (l0 : List (List Int)) (r : List (List Int)) (w : World) (hr0 : Kd.C (Kd.slice 3 (Kd.int .i64)) w A0 l0.length l0) (hc0 : l0.length ≤ c0) (h : graph_clean.f k l0 = some r) :
    Calls Try.prog 31 #[.slice A0 l0.length c0] w fun e w' => ∃ v0_ : Value, e = .returned (v0_) ∧ Kd.S (Kd.slice 3 (Kd.int .i64)) 30 w' w.heap.size (fun _ => True) v0_ r ∧ Below w.heap.size w w' := by
  have HR0 := Aside0.mk hr0
  have HC0 := Aside0.mk hc0
  clear hr0 hc0
  have HB := Aside0.mk (Below.refl w.heap.size w)
  have H : (if 0 ≤ (l0.length : Int) then (if ((l0.length : Int) : Int).toNat ≤ 11728124029610 then (if ((l0.length : Int) : Int).toNat ≤ 35184372088832 then (graph_clean.l0 k l0 (List.replicate ((l0.length : Int) : Int).toNat []) (List.replicate ((l0.length : Int) : Int).toNat 0) l0 (l0.length : Int) 0) else (none)) else (none)) else (none)) = some r := h
  clear h
  by_cases c2 : 0 ≤ (l0.length : Int)
  · rw [if_pos c2] at H
    have c2b0 := eq_true c2
    have c2b1 : decide (0 ≤ (l0.length : Int)) = true := decide_eq_true c2
    clear c2
    by_cases c3 : ((l0.length : Int) : Int).toNat ≤ 11728124029610
    · rw [if_pos c3] at H
      have c3b0 := eq_true c3
      have c3b1 : decide (((l0.length : Int) : Int).toNat ≤ 11728124029610) = true := decide_eq_true c3
      clear c3
      obtain ⟨y194, hy194⟩ : ∃ y_ : List (List Int), y_ = (List.replicate ((l0.length : Int) : Int).toNat []) := ⟨_, rfl⟩
      replace H : (if ((l0.length : Int) : Int).toNat ≤ 35184372088832 then (graph_clean.l0 k l0 y194 (List.replicate ((l0.length : Int) : Int).toNat 0) l0 (l0.length : Int) 0) else (none)) = some r := by first | (rw [hy194]; with_reducible exact H) | (have H2_ := (Option.bind_some _ _).symm.trans H; rw [hy194]; with_reducible exact H2_) | (have H2_ := (Option.bind_some _ _).symm.trans H; with_reducible exact H2_) | with_reducible exact H | (rw [hy194]; exact H) | exact H
      have Ny194 := Aside0.mk hy194
      clear hy194
      by_cases c4 : ((l0.length : Int) : Int).toNat ≤ 35184372088832
      · rw [if_pos c4] at H
        have c4b0 := eq_true c4
        have c4b1 : decide (((l0.length : Int) : Int).toNat ≤ 35184372088832) = true := decide_eq_true c4
        clear c4
        obtain ⟨y197, hy197⟩ : ∃ y_ : List Int, y_ = (List.replicate ((l0.length : Int) : Int).toNat 0) := ⟨_, rfl⟩
        replace H : (graph_clean.l0 k l0 y194 y197 l0 (l0.length : Int) 0) = some r := by first | (rw [hy197]; with_reducible exact H) | (have H2_ := (Option.bind_some _ _).symm.trans H; rw [hy197]; with_reducible exact H2_) | (have H2_ := (Option.bind_some _ _).symm.trans H; with_reducible exact H2_) | with_reducible exact H | (rw [hy197]; exact H) | exact H
        have Ny197 := Aside0.mk hy197
        clear hy197
        have H' := Aside0.mk H
        clear H
        go_enter Try.func31, Try.ntmps31
        go_wp2_with (first | ((with_reducible refine gate_dst (N := 11) rfl ?_); (try (refine gate_guard (by rfl) ?_; dsimp only)); refine Kd.S_make (Kd.slice 3 (Kd.int .i64)) _ 30 rfl (N := 11) rfl 52 _ _ rfl (l0.length : Int) rfl rfl Try.underlying52 (.slice none 0 0) 24 info30 rfl (by decide) (by omega) [] (ok := fun _ => True) (okp := fun _ => True) ⟨_, rfl, Kd.R_nil _ _ _ _ _⟩ (fun _ hk => hk) trivial (of_decide_eq_true (by first | (with_reducible assumption) | assumption)) (Nat.le_trans (Nat.mul_le_mul_right _ (of_decide_eq_true (by first | (with_reducible assumption) | assumption) : (l0.length : Int).toNat ≤ 11728124029610)) (by omega)) (Below.refl _ _) (Nat.le_refl _) ?_; intro v195 w5 ho6 hb hg_ hnew_; clear hg_ hnew_; (first | rw [← Ny194.out] at ho6 | (simp only [Int.reduceToNat] at ho6; rw [← Ny194.out] at ho6)); have n0_ := Aside0.mk (Kd.S_lower ho6 (below_size (by repeat (first | (with_reducible first | exact HB.out | apply below_alloc | apply pw_below_drewN | apply below_drew1) | exact HB.out)))); have n1_ := Aside0.mk (below_step (by repeat (first | (with_reducible first | exact HB.out | apply below_alloc | apply pw_below_drewN | apply below_drew1) | exact HB.out)) hb); clear HB; have HO196 := n0_; have HB := n1_; clear n0_ n1_; clear hb ho6) | ((with_reducible refine gate_dst (N := 14) rfl ?_); (try (refine gate_guard (by rfl) ?_; dsimp only)); refine Kd.R_make (Kd.int .i64) _ 3 rfl (N := 14) rfl 30 _ _ rfl (l0.length : Int) rfl rfl Try.underlying30 (.int .i64 0) 8 info3 rfl (by decide) (by omega) 0 (ok := fun _ => True) (okp := fun _ => True) rfl (fun _ hk => hk) trivial (of_decide_eq_true (by first | (with_reducible assumption) | assumption)) (Nat.le_trans (Nat.mul_le_mul_right _ (of_decide_eq_true (by first | (with_reducible assumption) | assumption) : (l0.length : Int).toNat ≤ 35184372088832)) (by omega)) (Below.refl _ _) (Nat.le_refl _) ?_; intro v198 w7 ho8 hb hg_ hnew_; clear hg_ hnew_; (first | rw [← Ny197.out] at ho8 | (simp only [Int.reduceToNat] at ho8; rw [← Ny197.out] at ho8)); have n0_ := Aside0.mk (Kd.S_elder' (by (with_reducible repeat (first | apply Kd.S_alloc | apply Kd.S_drewN | apply Kd.S_drew)); exact HO196.out) (Kd.R_base ho8) hb); have n1_ := Aside0.mk (Kd.R_lower ho8 (below_size (by repeat (first | (with_reducible first | exact HB.out | apply below_alloc | apply pw_below_drewN | apply below_drew1) | exact HB.out)))); have n2_ := Aside0.mk (below_step (by repeat (first | (with_reducible first | exact HB.out | apply below_alloc | apply pw_below_drewN | apply below_drew1) | exact HB.out)) hb); clear HO196; clear HB; have HO196 := n0_; have HO199 := n1_; have HB := n2_; clear n0_ n1_ n2_; clear hb ho8))
        go_loopg [17] k (fun kq v17 w' => ∃ (x3_1 : List (List Int)) (x4_1 : List Int) (x17_1 : Int), v17 = .int .i64 x17_1 ∧ Aside0 (graph_clean.l0 kq l0 x3_1 x4_1 l0 (l0.length : Int) x17_1 = some r) ∧ Aside0 (kq ≤ k) ∧ Aside0 (Kd.S (Kd.slice 3 (Kd.int .i64)) 30 w' w.heap.size (fun k_ => some k_ ≠ (v198 : Value).ownBlock) v195 x3_1) ∧ Aside0 (Kd.R (Kd.int .i64) 3 w' w.heap.size (fun _ => True) v198 x4_1) ∧ Aside0 (Below w.heap.size w w'))
        case atStart => exact ⟨(y194), (y197), (0), (by first | rfl | (simp; done) | (simp [*]; done)), H', ⟨Nat.le_refl _⟩, ⟨by (with_reducible repeat (first | apply Kd.S_alloc | apply Kd.S_drewN | apply Kd.S_drew)); exact Kd.S_mono HO196.out (fun _ hk => hk.2)⟩, ⟨by (with_reducible repeat (first | apply Kd.R_alloc | apply Kd.R_drewN | apply Kd.R_drew)); exact HO199.out⟩, ⟨by repeat (first | (with_reducible first | exact HB.out | apply below_alloc | apply pw_below_drewN | apply below_drew1) | exact HB.out)⟩⟩
        case round =>
          clear H'
          try clear c2
          try clear c2b0
          try clear c2b1
          try clear p2
          try clear c3
          try clear c3b0
          try clear c3b1
          try clear c4
          try clear c4b0
          try clear c4b1
          obtain ⟨x3_1, x4_1, x17_1, rfl, HA, HK1, HO_3, HO_4, HB⟩ := hrel
          cases gk with
          | zero => exact absurd HA.out (by simp [graph_clean.l0])
          | succ k1 =>
            have H := HA.out
            clear HA
            simp only [graph_clean.l0] at H
            by_cases c9 : x17_1 < (l0.length : Int)
            · rw [if_pos c9] at H
              have c9b0 : decide (x17_1 < (l0.length : Int)) = true := decide_eq_true c9
              clear c9
              by_cases c10 : 0 ≤ x17_1
              · rw [if_pos c10] at H
                have c10b0 : decide (0 ≤ x17_1) = true := decide_eq_true c10
                clear c10
                by_cases c11 : x17_1 < (l0.length : Int)
                · rw [if_pos c11] at H
                  have c11b0 : decide (x17_1 < (l0.length : Int)) = true := decide_eq_true c11
                  clear c11
                  have H' := Aside0.mk H
                  clear H
                  have p200 : 0 ≤ (x17_1 : Int) := of_decide_eq_true (by first | (with_reducible assumption) | assumption)
                  have q200 : x17_1 < (l0.length : Int) := of_decide_eq_true (by first | (with_reducible assumption) | assumption)
                  obtain ⟨ad200, A200_0, c200_0, e200, hx200_0, hl200_0, hi200_0⟩ := at_L7 HR0.out x17_1 p200 q200
                  cases e200
                  replace hx200_0 := (HB.out.cell (World.block_lt_of_cell? w _ hx200_0)).trans hx200_0
                  have HR200_0 := Aside0.mk hi200_0
                  have HC200_0 := Aside0.mk hl200_0
                  clear hi200_0 hl200_0
                  replace p200 := eq_true p200
                  replace q200 := eq_true q200
                  go_wp2
                  go_loopg [24] k1 (fun kq v24 w' => ∃ (x3_2 : List (List Int)) (x4_2 : List Int) (x24_2 : Int), v24 = .int .i64 x24_2 ∧ Aside0 (graph_clean.l1 kq l0 x3_2 x4_2 x17_1 l0 (l0.length : Int) x17_1 (rd_L7 l0 x17_1) ((rd_L7 l0 x17_1).length : Int) x24_2 = some r) ∧ Aside0 (kq ≤ k1) ∧ Aside0 (Kd.S (Kd.slice 3 (Kd.int .i64)) 30 w' w.heap.size (fun k_ => some k_ ≠ (v198 : Value).ownBlock) v195 x3_2) ∧ Aside0 (Kd.R (Kd.int .i64) 3 w' w.heap.size (fun _ => True) v198 x4_2) ∧ Aside0 (Below w.heap.size w w'))
                  case atStart => exact ⟨(x3_1), (x4_1), (0), (by first | rfl | (simp; done) | (simp [*]; done)), H', ⟨Nat.le_refl _⟩, ⟨by (with_reducible repeat (first | apply Kd.S_alloc | apply Kd.S_drewN | apply Kd.S_drew)); exact HO_3.out⟩, ⟨by (with_reducible repeat (first | apply Kd.R_alloc | apply Kd.R_drewN | apply Kd.R_drew)); exact HO_4.out⟩, ⟨by repeat (first | (with_reducible first | exact HB.out | apply below_alloc | apply pw_below_drewN | apply below_drew1) | exact HB.out)⟩⟩
                  case round =>
                    clear H'
                    try clear c1
                    try clear c2
                    try clear c2b0
                    try clear c2b1
                    try clear p2
                    try clear q2
                    try clear hx2
                    try clear c3
                    try clear c3b0
                    try clear c3b1
                    try clear c4
                    try clear c4b0
                    try clear c4b1
                    try clear c9
                    try clear c9b0
                    try clear c10
                    try clear c10b0
                    try clear c11
                    try clear c11b0
                    try clear hx200_0
                    try clear p2
                    try clear p200
                    try clear q200
                    obtain ⟨x3_2, x4_2, x24_2, rfl, HA, HK2, HO_3, HO_4, HB⟩ := hrel
                    cases gk with
                    | zero => exact absurd HA.out (by simp [graph_clean.l1])
                    | succ k2 =>
                      have H := HA.out
                      clear HA
                      simp only [graph_clean.l1] at H
                      by_cases c12 : x24_2 < ((rd_L7 l0 x17_1).length : Int)
                      · rw [if_pos c12] at H
                        have c12b0 : decide (x24_2 < ((rd_L7 l0 x17_1).length : Int)) = true := decide_eq_true c12
                        clear c12
                        by_cases c13 : 0 ≤ x24_2
                        · rw [if_pos c13] at H
                          have c13b0 : decide (0 ≤ x24_2) = true := decide_eq_true c13
                          clear c13
                          by_cases c14 : x24_2 < ((rd_L7 l0 x17_1).length : Int)
                          · rw [if_pos c14] at H
                            have c14b0 : decide (x24_2 < ((rd_L7 l0 x17_1).length : Int)) = true := decide_eq_true c14
                            clear c14
                            by_cases c15 : (rd (rd_L7 l0 x17_1) x24_2) ≥ 0
                            · rw [if_pos c15] at H
                              have c15b0 : decide (0 ≤ (rd (rd_L7 l0 x17_1) x24_2)) = true := decide_eq_true c15
                              clear c15
                              by_cases c16 : (rd (rd_L7 l0 x17_1) x24_2) < (l0.length : Int)
                              · rw [if_pos c16] at H
                                have c16b0 : decide ((rd (rd_L7 l0 x17_1) x24_2) < (l0.length : Int)) = true := decide_eq_true c16
                                clear c16
                                by_cases c17 : 0 ≤ (rd (rd_L7 l0 x17_1) x24_2)
                                · rw [if_pos c17] at H
                                  have c17b0 : decide (0 ≤ (rd (rd_L7 l0 x17_1) x24_2)) = true := decide_eq_true c17
                                  clear c17
                                  by_cases c18 : (rd (rd_L7 l0 x17_1) x24_2) < (x4_2.length : Int)
                                  · rw [if_pos c18] at H
                                    have c18b0 : decide ((rd (rd_L7 l0 x17_1) x24_2) < (x4_2.length : Int)) = true := decide_eq_true c18
                                    clear c18
                                    by_cases c19 : (rd x4_2 (rd (rd_L7 l0 x17_1) x24_2)) = (wrap64 (x17_1 + 1))
                                    · rw [if_pos c19] at H
                                      have c19b0 : ((rd x4_2 (rd (rd_L7 l0 x17_1) x24_2)) == (wrap64 (x17_1 + 1))) = true := beq_iff_eq.mpr c19
                                      have c19b1 : ((rd x4_2 (rd (rd_L7 l0 x17_1) x24_2)) != (wrap64 (x17_1 + 1))) = false := bne_eq_false_iff_eq.mpr c19
                                      clear c19
                                      have H' := Aside0.mk H
                                      clear H
                                      have p201 : 0 ≤ (x24_2 : Int) := of_decide_eq_true (by first | (with_reducible assumption) | assumption)
                                      have q201 : x24_2 < ((rd_L7 l0 x17_1).length : Int) := of_decide_eq_true (by first | (with_reducible assumption) | assumption)
                                      obtain ⟨ad201, e201, hx201_0⟩ := Kd.at_int HR200_0.out x24_2 p201 q201
                                      cases e201
                                      replace hx201_0 := (HB.out.cell (World.block_lt_of_cell? w _ hx201_0)).trans hx201_0
                                      replace p201 := eq_true p201
                                      replace q201 := eq_true q201
                                      obtain ⟨Ao20, co20, eo20⟩ := Kd.R_slice HO_4.out
                                      subst eo20
                                      have p202 : 0 ≤ ((rd (rd_L7 l0 x17_1) x24_2) : Int) := of_decide_eq_true (by first | (with_reducible assumption) | assumption)
                                      have q202 : (rd (rd_L7 l0 x17_1) x24_2) < (x4_2.length : Int) := of_decide_eq_true (by first | (with_reducible assumption) | assumption)
                                      obtain ⟨ad202, e202, hx202_0⟩ := Kd.at_int (Kd.R_reads' HO_4.out).2.2 (rd (rd_L7 l0 x17_1) x24_2) p202 q202
                                      cases e202
                                      replace p202 := eq_true p202
                                      replace q202 := eq_true q202
                                      go_wp2
                                      go_roundg k2
                                      case measure => have := HK1.out; have := HK2.out; omega
                                      case rel => exact ⟨(x3_2), (x4_2), (wrap64 (x24_2 + 1)), (by first | rfl | (simp; done) | (simp [*]; done)), H', ⟨by have := HK1.out; have := HK2.out; omega⟩, ⟨by (with_reducible repeat (first | apply Kd.S_alloc | apply Kd.S_drewN | apply Kd.S_drew)); exact HO_3.out⟩, ⟨by (with_reducible repeat (first | apply Kd.R_alloc | apply Kd.R_drewN | apply Kd.R_drew)); exact HO_4.out⟩, ⟨by repeat (first | (with_reducible first | exact HB.out | apply below_alloc | apply pw_below_drewN | apply below_drew1) | exact HB.out)⟩⟩
                                    · rw [if_neg c19] at H
                                      have c19b0 : ((rd x4_2 (rd (rd_L7 l0 x17_1) x24_2)) == (wrap64 (x17_1 + 1))) = false := beq_eq_false_iff_ne.mpr c19
                                      have c19b1 : ((rd x4_2 (rd (rd_L7 l0 x17_1) x24_2)) != (wrap64 (x17_1 + 1))) = true := bne_iff_ne.mpr c19
                                      obtain ⟨y203, hy203⟩ : ∃ y_ : List Int, y_ = (x4_2.set ((rd (rd_L7 l0 x17_1) x24_2) : Int).toNat (wrap64 (x17_1 + 1))) := ⟨_, rfl⟩
                                      replace H : (if 0 ≤ x17_1 then (if x17_1 < (x3_2.length : Int) then (if (rd_L7 x3_2 x17_1).length < 17592186044416 then (graph_clean.l1 k2 l0 (x3_2.set (x17_1 : Int).toNat ((rd_L7 x3_2 x17_1) ++ [rd (rd_L7 l0 x17_1) x24_2])) y203 x17_1 l0 (l0.length : Int) x17_1 (rd_L7 l0 x17_1) ((rd_L7 l0 x17_1).length : Int) (wrap64 (x24_2 + 1))) else (none)) else (none)) else (none)) = some r := by first | (rw [hy203]; with_reducible exact H) | (have H2_ := (Option.bind_some _ _).symm.trans H; rw [hy203]; with_reducible exact H2_) | (have H2_ := (Option.bind_some _ _).symm.trans H; with_reducible exact H2_) | with_reducible exact H | (rw [hy203]; exact H) | exact H
                                      have Ny203 := Aside0.mk hy203
                                      clear hy203
                                      by_cases c22 : 0 ≤ x17_1
                                      · rw [if_pos c22] at H
                                        have c22b0 : decide (0 ≤ x17_1) = true := decide_eq_true c22
                                        clear c22
                                        by_cases c23 : x17_1 < (x3_2.length : Int)
                                        · rw [if_pos c23] at H
                                          have c23b0 : decide (x17_1 < (x3_2.length : Int)) = true := decide_eq_true c23
                                          clear c23
                                          by_cases c24 : (rd_L7 x3_2 x17_1).length < 17592186044416
                                          · rw [if_pos c24] at H
                                            have LMc24 := Aside0.mk c24
                                            clear c24
                                            obtain ⟨y205, hy205⟩ : ∃ y_ : List Int, y_ = ((rd_L7 x3_2 x17_1) ++ [rd (rd_L7 l0 x17_1) x24_2]) := ⟨_, rfl⟩
                                            replace H : (graph_clean.l1 k2 l0 (x3_2.set (x17_1 : Int).toNat y205) y203 x17_1 l0 (l0.length : Int) x17_1 (rd_L7 l0 x17_1) ((rd_L7 l0 x17_1).length : Int) (wrap64 (x24_2 + 1))) = some r := by first | (rw [hy205]; with_reducible exact H) | (have H2_ := (Option.bind_some _ _).symm.trans H; rw [hy205]; with_reducible exact H2_) | (have H2_ := (Option.bind_some _ _).symm.trans H; with_reducible exact H2_) | with_reducible exact H | (rw [hy205]; exact H) | exact H
                                            have Ny205 := Aside0.mk hy205
                                            clear hy205
                                            obtain ⟨y208, hy208⟩ : ∃ y_ : List (List Int), y_ = (x3_2.set (x17_1 : Int).toNat y205) := ⟨_, rfl⟩
                                            replace H : (graph_clean.l1 k2 l0 y208 y203 x17_1 l0 (l0.length : Int) x17_1 (rd_L7 l0 x17_1) ((rd_L7 l0 x17_1).length : Int) (wrap64 (x24_2 + 1))) = some r := by first | (rw [hy208]; with_reducible exact H) | (have H2_ := (Option.bind_some _ _).symm.trans H; rw [hy208]; with_reducible exact H2_) | (have H2_ := (Option.bind_some _ _).symm.trans H; with_reducible exact H2_) | with_reducible exact H | (rw [hy208]; exact H) | exact H
                                            have Ny208 := Aside0.mk hy208
                                            clear hy208
                                            have H' := Aside0.mk H
                                            clear H
                                            have p201 : 0 ≤ (x24_2 : Int) := of_decide_eq_true (by first | (with_reducible assumption) | assumption)
                                            have q201 : x24_2 < ((rd_L7 l0 x17_1).length : Int) := of_decide_eq_true (by first | (with_reducible assumption) | assumption)
                                            obtain ⟨ad201, e201, hx201_0⟩ := Kd.at_int HR200_0.out x24_2 p201 q201
                                            cases e201
                                            replace hx201_0 := (HB.out.cell (World.block_lt_of_cell? w _ hx201_0)).trans hx201_0
                                            replace p201 := eq_true p201
                                            replace q201 := eq_true q201
                                            obtain ⟨Ao26, co26, eo26⟩ := Kd.R_slice HO_4.out
                                            subst eo26
                                            have p202 : 0 ≤ ((rd (rd_L7 l0 x17_1) x24_2) : Int) := of_decide_eq_true (by first | (with_reducible assumption) | assumption)
                                            have q202 : (rd (rd_L7 l0 x17_1) x24_2) < (x4_2.length : Int) := of_decide_eq_true (by first | (with_reducible assumption) | assumption)
                                            obtain ⟨ad202, e202, hx202_0⟩ := Kd.at_int (Kd.R_reads' HO_4.out).2.2 (rd (rd_L7 l0 x17_1) x24_2) p202 q202
                                            cases e202
                                            replace p202 := eq_true p202
                                            replace q202 := eq_true q202
                                            have p21 : 0 ≤ ((rd (rd_L7 l0 x17_1) x24_2) : Int) := of_decide_eq_true (by first | (with_reducible assumption) | assumption)
                                            have q21 : ((rd (rd_L7 l0 x17_1) x24_2) : Int) < ((x4_2.length : Int) : Int) := of_decide_eq_true (by first | (with_reducible assumption) | assumption)
                                            obtain ⟨go21, co21, eo21, gb21, gl21, cl21, HG21⟩ := Kd.R_form HO_4.out (by omega)
                                            (first | cases eo21 | (injection eo21 with ea_ en_ ec_; (first | subst ea_ | (injection ea_ with ea_; subst ea_)); subst ec_; clear en_))
                                            have GB21 := Aside0.mk gb21
                                            have GG21 := Aside0.mk HG21
                                            clear gb21 gl21 HG21
                                            (first | simp only [add_plain] at hx202_0 | skip)
                                            obtain ⟨hx21_0, hf21_0⟩ := Kd.R_celln 0 HO_4.out ((rd (rd_L7 l0 x17_1) x24_2) : Int) p21 q21
                                            replace p21 := eq_true p21
                                            replace q21 := eq_true q21
                                            have HP27 := Kd.R_putg HO_4.out ((rd (rd_L7 l0 x17_1) x24_2) : Int) (wrap64 (x17_1 + 1))
                                            go_wp2_with (first | ((with_reducible refine gate_store (t := 3) (p := 49) rfl ?_); refine store_event (t := 3) (p := 49) (v := ?vo_w28) (w1 := (wr.setCell ⟨go21, ((rd (rd_L7 l0 x17_1) x24_2) : Int).toNat, none⟩ (.int .i64 (wrap64 (x17_1 + 1))))) ?hg ?ho ?hn ?hr ?_; (case ho => rfl); (case hg => rfl); (case hn => rfl); (case hr => first | (go_simp; done) | (go_simp; rfl)); intro w28 hw; have hg : wr.grownBy w28 (some go21) := (by rw [hw]; exact HP27.2); have hp_ : Kd.R (Kd.int .i64) 3 w28 w.heap.size (fun _ => True) (.slice (some ⟨go21, 0, none⟩) x4_2.length co26) y203 := (by rw [hw, Ny203.out]; exact HP27.1); clear HP27; have n0_ := Aside0.mk (Kd.S_after (v := (.slice (some ⟨go21, 0, none⟩) x4_2.length co26)) (v1 := (.slice (some ⟨go21, 0, none⟩) x4_2.length co26)) (ok := (fun _ => True)) (by (with_reducible repeat (first | apply Kd.S_alloc | apply Kd.S_drewN | apply Kd.S_drew)); exact Kd.S_mono HO_3.out (fun _ hk => ⟨trivial, hk⟩)) hg (.inl rfl)); have n1_ := Aside0.mk (hp_); have n2_ := Aside0.mk ((by rw [hw]; exact below_set (HB.out) GB21.out : Below w.heap.size w w28)); clear HO_3; clear HO_4; clear HB; have HO_3 := n0_; have HO_4 := n1_; have HB := n2_; clear n0_ n1_ n2_; clear hg hw hp_; obtain ⟨Ao29, co29, eo29⟩ := Kd.S_slice HO_3.out; subst eo29; have p204 : 0 ≤ (x17_1 : Int) := of_decide_eq_true (by first | (with_reducible assumption) | assumption); have q204 : x17_1 < (x3_2.length : Int) := of_decide_eq_true (by first | (with_reducible assumption) | assumption); obtain ⟨ad204, A204_0, c204_0, e204, hx204_0, hl204_0, hi204_0⟩ := at_L7 (Kd.S_reads' HO_3.out).2.2 x17_1 p204 q204; cases e204; obtain ⟨ce204, hce204, hMe204, hcc204⟩ := Kd.S_get HO_3.out [] x17_1 p204 (by first | exact q204 | exact of_decide_eq_true (by first | (with_reducible assumption) | assumption) | (have e_ := (Kd.S_reads' HO_3.out).1; omega)); obtain ⟨ve204_0, rfl, ge204_0⟩ := hMe204; have hv204_0 := hcc204 0 _ rfl; rw [Nat.add_zero, show ((Kd.slice 3 (Kd.int .i64))).sz = 1 from rfl, Nat.mul_one] at hv204_0; replace hv204_0 := Option.some.inj (hv204_0.symm.trans hx204_0); rw [hv204_0] at ge204_0; have HL204_0 := Aside0.mk (show Kd.R (Kd.int .i64) 3 _ _ _ _ (rd_L7 x3_2 x17_1) from ge204_0); clear hv204_0 ge204_0; have HX204_0 := Aside0.mk hx204_0; clear hcc204 hce204; have HR204_0 := Aside0.mk hi204_0; have HC204_0 := Aside0.mk hl204_0; clear hi204_0 hl204_0; replace p204 := eq_true p204; replace q204 := eq_true q204; have n_ := Aside0.mk (Kd.S_mono (ok' := (fun k_ => some k_ ≠ (.slice (some ⟨go21, 0, none⟩) x4_2.length co26 : Value).ownBlock)) HO_3.out (fun k_ hk => hk.2)); clear HO_3; have HO_3 := n_; clear n_; obtain ⟨go30, co30, eo30, gb30, gl30, cl30, HG30⟩ := Kd.S_form HO_3.out (by have h_ : (x17_1 : Int) < ((x3_2.length : Int) : Int) := of_decide_eq_true (by first | (with_reducible assumption) | assumption); have h2_ : 0 ≤ (x17_1 : Int) := (of_decide_eq_true (by first | (with_reducible assumption) | assumption)); omega); (first | cases eo30 | (injection eo30 with ea_ en_ ec_; (first | subst ea_ | (injection ea_ with ea_; subst ea_)); subst ec_; clear en_)); have GB30 := Aside0.mk gb30; have GG30 := Aside0.mk HG30; clear gb30 gl30 HG30; (first | simp only [add_plain] at hx204_0 | skip); obtain ⟨oki30, ce30, hcl30, hM30, hcc30, _, _, hH30⟩ := Kd.S_elem HO_3.out [] (x17_1 : Int) (of_decide_eq_true (by first | (with_reducible assumption) | assumption)) (by have h_ : (x17_1 : Int) < ((x3_2.length : Int) : Int) := of_decide_eq_true (by first | (with_reducible assumption) | assumption); first | exact h_ | (have e_ := (Kd.S_reads' HO_3.out).1; omega) | simpa using h_); obtain ⟨ve30_0, rfl, ge30_0⟩ := hM30; have hv30 := hcc30 0 _ rfl; have hX30 := HX204_0.out; (try simp only [add_plain] at hX30); (try simp only [Nat.add_zero] at hv30); (try rw [show ((Kd.slice 3 (Kd.int .i64))).sz = 1 from rfl, Nat.mul_one] at hv30); replace hv30 := Option.some.inj (hv30.symm.trans hX30); subst hv30; clear hX30 hcc30 hcl30; have UU30 := Aside0.mk (show Kd.R (Kd.int .i64) 3 _ w.heap.size oki30 (.slice A204_0 (rd_L7 x3_2 x17_1).length c204_0) (rd_L7 x3_2 x17_1) from ge30_0); have HH30 := Aside0.mk hH30; have HN30 := Aside0.mk (Kd.S_reads' HO_3.out).1; clear hH30 ge30_0) | ((with_reducible refine gate_builtin (b := .append) (xs := #[.tmp 55, .tmp 57]) rfl ?_); (try (refine gate_guard (by rfl) ?_; dsimp only)); at_builtin; refine Kd.R_append (Kd.int .i64) (w0 := w) w.heap.size rfl (.tmp 55) (.tmp 57) 30 3 (.int .i64 0) 8 rfl Try.underlying30 info3 rfl (by decide) (by omega) (.slice A204_0 (rd_L7 x3_2 x17_1).length c204_0) (rd_L7 x3_2 x17_1) (rd (rd_L7 l0 x17_1) x24_2) [.int .i64 (rd (rd_L7 l0 x17_1) x24_2)] (fun k_ => oki30 k_ ∨ ((fun k_ => some k_ ≠ (.slice (some ⟨go21, 0, none⟩) x4_2.length co26 : Value).ownBlock)) k_ ∧ w28.heap.size ≤ k_) (fun _ => False) rfl rfl ?aP (fun _ hk => hk.elim) ?aF ?aO ?aB ?aS ?aL ?_; (case aP => exact rfl); (case aB => exact (by repeat (first | (with_reducible first | exact HB.out | apply below_alloc | apply pw_below_drewN | apply below_drew1) | exact HB.out))); (case aF => exact (fun k_ hk => .inr ⟨Kd.fresh' (Kd.R_lt (by (with_reducible repeat (first | apply Kd.R_alloc | apply Kd.R_drewN | apply Kd.R_drew)); exact HO_4.out)) k_ hk, hk⟩)); (case aO => exact (by (with_reducible repeat (first | apply Kd.R_alloc | apply Kd.R_drewN | apply Kd.R_drew)); exact Kd.R_mono UU30.out (fun _ hk => .inl hk))); (case aS => exact (below_size (by repeat (first | (with_reducible first | exact HB.out | apply below_alloc | apply pw_below_drewN | apply below_drew1) | exact HB.out)))); (case aL => have := LMc24.out; omega); intro v206 w31 ho hb hg hat; rw [← Ny205.out] at ho; have n0_ := Aside0.mk (Kd.R_grown2 (by (with_reducible repeat (first | apply Kd.R_alloc | apply Kd.R_drewN | apply Kd.R_drew)); exact HO_4.out) rfl hg (fun k_ e_ => (HL204_0.out.1 k_ e_).1.2)); have n1_ := Aside0.mk (hb); have n2_ := Aside0.mk (Kd.H_grown (Kd.H_widen (by repeat (first | exact HH30.out | refine Kd.H_alloc ?_ _ | refine Kd.H_drewN ?_ _ | refine Kd.H_drew ?_))) hg (fun k_ e_ => .inl (UU30.out.1 k_ e_))); have n3_ := Aside0.mk (ho); clear HO_4; clear HB; clear HH30; clear HO_3; clear UU30; clear HL204_0; have HO_4 := n0_; have HB := n1_; have HH30 := n2_; have HO207 := n3_; clear n0_ n1_ n2_ n3_; clear ho hb hg hat; have p25 : 0 ≤ (x17_1 : Int) := of_decide_eq_true (by first | (with_reducible assumption) | assumption); have q25 : (x17_1 : Int) < ((x3_2.length : Int) : Int) := of_decide_eq_true (by first | (with_reducible assumption) | assumption); replace p25 := eq_true p25; replace q25 := eq_true q25; obtain ⟨Ao34, co34, eo34⟩ := Kd.R_slice HO207.out; subst eo34; obtain ⟨_, _, hraw32, _, _, hcc32, _⟩ := Kd.H_raw HH30.out (of_decide_eq_true (by first | (with_reducible assumption) | assumption)) (by have h_ : (x17_1 : Int) < ((x3_2.length : Int) : Int) := of_decide_eq_true (by first | (with_reducible assumption) | assumption); first | exact h_ | (have e_ := (HN30.out); omega) | simpa using h_); obtain ⟨_, hfr32⟩ := Kd.H_at HH30.out (of_decide_eq_true (by first | (with_reducible assumption) | assumption)) (by have h_ : (x17_1 : Int) < ((x3_2.length : Int) : Int) := of_decide_eq_true (by first | (with_reducible assumption) | assumption); first | exact h_ | (have e_ := (HN30.out); omega) | simpa using h_); have hx32_0 := hcc32 0 _ rfl; have hf32_0 := hfr32 0; (try simp only [Nat.add_zero] at hx32_0 hf32_0); (try rw [show ((Kd.slice 3 (Kd.int .i64))).sz = 1 from rfl, Nat.mul_one] at hx32_0); (try rw [show ((Kd.slice 3 (Kd.int .i64))).sz = 1 from rfl, Nat.mul_one] at hf32_0); have HP32 := Kd.S_seg0 HH30.out (of_decide_eq_true (by first | (with_reducible assumption) | assumption)) (by have h_ : (x17_1 : Int) < ((x3_2.length : Int) : Int) := of_decide_eq_true (by first | (with_reducible assumption) | assumption); first | exact h_ | (have e_ := (HN30.out); omega) | simpa using h_) (seg := [.slice Ao34 y205.length co34]) (j := 0) (show 1 ≤ 1 from by decide) (x' := y205) (Kd.M_row HO207.out) (fun _ hk => hk); (try simp only [show ((Kd.slice 3 (Kd.int .i64))).sz = 1 from rfl, Nat.mul_one, Nat.add_zero] at HP32); clear hcc32 hfr32) | ((with_reducible refine gate_store (t := 30) (p := 59) rfl ?_); refine store_event (t := 30) (p := 59) (v := ?vo_w33) (w1 := (w31.setCell ⟨go30, (x17_1 : Int).toNat, none⟩ (.slice Ao34 y205.length co34))) ?hg ?ho ?hn ?hr ?_; (case ho => rfl); (case hg => rfl); (case hn => rfl); (case hr => first | (go_simp; done) | (go_simp; rfl)); intro w33 hw; have hg : w31.grownBy w33 (some go30) := (by rw [hw]; exact HP32.2); have hp_ : Kd.S (Kd.slice 3 (Kd.int .i64)) 30 w33 w.heap.size (fun k_ => some k_ ≠ (.slice (some ⟨go21, 0, none⟩) x4_2.length co26 : Value).ownBlock) (.slice (some ⟨go30, 0, none⟩) x3_2.length co29) y208 := (by rw [hw, Ny208.out]; exact HP32.1); clear HP32; have n0_ := Aside0.mk (Kd.R_over' (v := (.slice (some ⟨go30, 0, none⟩) x3_2.length co29)) (by (with_reducible repeat (first | apply Kd.R_alloc | apply Kd.R_drewN | apply Kd.R_drew)); exact HO_4.out) (Kd.R_typed hraw32) (by decide) hg); have n1_ := Aside0.mk ((by rw [hw]; exact below_set HB.out GB30.out : Below w.heap.size w w33)); have n2_ := Aside0.mk (hp_); clear HO_4; clear HB; clear HO207; clear HH30; have HO_4 := n0_; have HB := n1_; have HO_3 := n2_; clear n0_ n1_ n2_; clear hg hw hp_ hraw32))
                                            go_roundg k2
                                            case measure => have := HK1.out; have := HK2.out; omega
                                            case rel => exact ⟨(y208), (y203), (wrap64 (x24_2 + 1)), (by first | rfl | (simp; done) | (simp [*]; done)), H', ⟨by have := HK1.out; have := HK2.out; omega⟩, ⟨by (with_reducible repeat (first | apply Kd.S_alloc | apply Kd.S_drewN | apply Kd.S_drew)); exact HO_3.out⟩, ⟨by (with_reducible repeat (first | apply Kd.R_alloc | apply Kd.R_drewN | apply Kd.R_drew)); exact HO_4.out⟩, ⟨by repeat (first | (with_reducible first | exact HB.out | apply below_alloc | apply pw_below_drewN | apply below_drew1) | exact HB.out)⟩⟩
                                          · rw [if_neg c24] at H
                                            exact absurd H (by simp)
                                        · rw [if_neg c23] at H
                                          exact absurd H (by simp)
                                      · rw [if_neg c22] at H
                                        exact absurd H (by simp)
                                  · rw [if_neg c18] at H
                                    exact absurd H (by simp)
                                · rw [if_neg c17] at H
                                  exact absurd H (by simp)
                              · rw [if_neg c16] at H
                                have c16b0 : decide ((rd (rd_L7 l0 x17_1) x24_2) < (l0.length : Int)) = false := decide_eq_false c16
                                clear c16
                                have H' := Aside0.mk H
                                clear H
                                have p201 : 0 ≤ (x24_2 : Int) := of_decide_eq_true (by first | (with_reducible assumption) | assumption)
                                have q201 : x24_2 < ((rd_L7 l0 x17_1).length : Int) := of_decide_eq_true (by first | (with_reducible assumption) | assumption)
                                obtain ⟨ad201, e201, hx201_0⟩ := Kd.at_int HR200_0.out x24_2 p201 q201
                                cases e201
                                replace hx201_0 := (HB.out.cell (World.block_lt_of_cell? w _ hx201_0)).trans hx201_0
                                replace p201 := eq_true p201
                                replace q201 := eq_true q201
                                go_wp2
                                go_roundg k2
                                case measure => have := HK1.out; have := HK2.out; omega
                                case rel => exact ⟨(x3_2), (x4_2), (wrap64 (x24_2 + 1)), (by first | rfl | (simp; done) | (simp [*]; done)), H', ⟨by have := HK1.out; have := HK2.out; omega⟩, ⟨by (with_reducible repeat (first | apply Kd.S_alloc | apply Kd.S_drewN | apply Kd.S_drew)); exact HO_3.out⟩, ⟨by (with_reducible repeat (first | apply Kd.R_alloc | apply Kd.R_drewN | apply Kd.R_drew)); exact HO_4.out⟩, ⟨by repeat (first | (with_reducible first | exact HB.out | apply below_alloc | apply pw_below_drewN | apply below_drew1) | exact HB.out)⟩⟩
                            · rw [if_neg c15] at H
                              have c15b0 : decide (0 ≤ (rd (rd_L7 l0 x17_1) x24_2)) = false := decide_eq_false c15
                              clear c15
                              have H' := Aside0.mk H
                              clear H
                              have p201 : 0 ≤ (x24_2 : Int) := of_decide_eq_true (by first | (with_reducible assumption) | assumption)
                              have q201 : x24_2 < ((rd_L7 l0 x17_1).length : Int) := of_decide_eq_true (by first | (with_reducible assumption) | assumption)
                              obtain ⟨ad201, e201, hx201_0⟩ := Kd.at_int HR200_0.out x24_2 p201 q201
                              cases e201
                              replace hx201_0 := (HB.out.cell (World.block_lt_of_cell? w _ hx201_0)).trans hx201_0
                              replace p201 := eq_true p201
                              replace q201 := eq_true q201
                              go_wp2
                              go_roundg k2
                              case measure => have := HK1.out; have := HK2.out; omega
                              case rel => exact ⟨(x3_2), (x4_2), (wrap64 (x24_2 + 1)), (by first | rfl | (simp; done) | (simp [*]; done)), H', ⟨by have := HK1.out; have := HK2.out; omega⟩, ⟨by (with_reducible repeat (first | apply Kd.S_alloc | apply Kd.S_drewN | apply Kd.S_drew)); exact HO_3.out⟩, ⟨by (with_reducible repeat (first | apply Kd.R_alloc | apply Kd.R_drewN | apply Kd.R_drew)); exact HO_4.out⟩, ⟨by repeat (first | (with_reducible first | exact HB.out | apply below_alloc | apply pw_below_drewN | apply below_drew1) | exact HB.out)⟩⟩
                          · rw [if_neg c14] at H
                            exact absurd H (by simp)
                        · rw [if_neg c13] at H
                          exact absurd H (by simp)
                      · rw [if_neg c12] at H
                        have c12b0 : decide (x24_2 < ((rd_L7 l0 x17_1).length : Int)) = false := decide_eq_false c12
                        clear c12
                        have H' := Aside0.mk H
                        clear H
                        go_wp2
                        go_roundg k2
                        case measure => have := HK1.out; have := HK2.out; omega
                        case rel => exact ⟨(x3_2), (x4_2), (wrap64 (x17_1 + 1)), (by first | rfl | (simp; done) | (simp [*]; done)), H', ⟨by have := HK1.out; have := HK2.out; omega⟩, ⟨by (with_reducible repeat (first | apply Kd.S_alloc | apply Kd.S_drewN | apply Kd.S_drew)); exact HO_3.out⟩, ⟨by (with_reducible repeat (first | apply Kd.R_alloc | apply Kd.R_drewN | apply Kd.R_drew)); exact HO_4.out⟩, ⟨by repeat (first | (with_reducible first | exact HB.out | apply below_alloc | apply pw_below_drewN | apply below_drew1) | exact HB.out)⟩⟩
                · rw [if_neg c11] at H
                  exact absurd H (by simp)
              · rw [if_neg c10] at H
                exact absurd H (by simp)
            · rw [if_neg c9] at H
              have c9b0 : decide (x17_1 < (l0.length : Int)) = false := decide_eq_false c9
              clear c9
              obtain rfl := Option.some.inj H
              go_wp2
              go_ret
              exact ⟨_, by first | rfl | (simp [errW_none, errW_some] <;> rfl) | (simp [*, errW_none, errW_some] <;> rfl), by (with_reducible repeat (first | apply Kd.S_alloc | apply Kd.S_drewN | apply Kd.S_drew)); exact Kd.S_mono HO_3.out (fun _ hk => trivial), by repeat (first | (with_reducible first | exact HB.out | apply below_alloc | apply pw_below_drewN | apply below_drew1) | exact HB.out)⟩
      · rw [if_neg c4] at H
        exact absurd H (by simp)
    · rw [if_neg c3] at H
      exact absurd H (by simp)
  · rw [if_neg c2] at H
    exact absurd H (by simp)

end Go.Proofs.Ytdndnjpfpelimaa.PG
