-- By the session's own program out of the kit's print, with texts of the session's own for the functions that the print does not take.
import Derived.Test.YtjflddnmkajleaaPGx0
import Derived.Test.YtjflddnmkajleaaPGx23
namespace Go.Proofs.Ytjflddnmkajleaa.PG
open Go.RowKit Go.Proofs.YtjflddnmkajleaaW.PrintWords Go.Proofs.YtjflddnmkajleaaW.PrintLast Go.Proofs.YtjflddnmkajleaaW.PrintMore
attribute [local go_sem] max2_int min2_int max_two min_two max_three min_three max_four min_four   -- for this text's walks alone
set_option linter.unusedVariables false
set_option linter.unusedSimpArgs false

/-! ### ratlineref10_Norm: function 28 -/
mutual
def ratlineref10_Norm.l0 : Nat → List (List Int) → List (List Int) → Int → Option ((List (List Int)))
  | 0, _, _, _ => none
  | k + 1, x0, x3, x4 => if x4 < (x0.length : Int) then (ratlineref10_Norm.l1 k x0 x3 x4 0) else (some x3)
def ratlineref10_Norm.l1 : Nat → List (List Int) → List (List Int) → Int → Int → Option ((List (List Int)))
  | 0, _, _, _, _ => none
  | k + 1, x0, x3, x4, x5 => if 0 ≤ x4 then (if x4 < (x0.length : Int) then (if x5 < ((rd_L1 x0 x4).length : Int) then (if 0 ≤ x5 then (if (rd (rd_L1 x0 x4) x5) < 0 then (ratlineref10_Norm.l1 k x0 x3 x4 (wrap64 (x5 + 1))) else (if (rd (rd_L1 x0 x4) x5) ≥ (x0.length : Int) then (ratlineref10_Norm.l1 k x0 x3 x4 (wrap64 (x5 + 1))) else (if x4 < (x3.length : Int) then ((ratlineref10_has.f k (rd_L1 x3 x4) (rd (rd_L1 x0 x4) x5)).bind fun t350 => (if t350 = true then (ratlineref10_Norm.l1 k x0 x3 x4 (wrap64 (x5 + 1))) else (if (rd_L1 x3 x4).length < 17592186044416 then (ratlineref10_Norm.l1 k x0 (x3.set (x4 : Int).toNat ((rd_L1 x3 x4) ++ [rd (rd_L1 x0 x4) x5])) x4 (wrap64 (x5 + 1))) else (none)))) else (none)))) else (none)) else (ratlineref10_Norm.l0 k x0 x3 (wrap64 (x4 + 1)))) else (none)) else (none)
end
def ratlineref10_Norm.f (k : Nat) (l0 : List (List Int)) : Option ((List (List Int))) := if 0 ≤ (l0.length : Int) then (if ((l0.length : Int) : Int).toNat ≤ 11728124029610 then (ratlineref10_Norm.l0 k l0 (List.replicate ((l0.length : Int) : Int).toNat []) 0) else (none)) else (none)
theorem ratlineref10_Norm.mono_l : ∀ k, (∀ y0 y1 y2, LeO (ratlineref10_Norm.l0 k y0 y1 y2) (ratlineref10_Norm.l0 (k + 1) y0 y1 y2)) ∧ (∀ y0 y1 y2 y3, LeO (ratlineref10_Norm.l1 k y0 y1 y2 y3) (ratlineref10_Norm.l1 (k + 1) y0 y1 y2 y3))
  | 0 => ⟨fun _ _ _ r h => by simp [ratlineref10_Norm.l0] at h, fun _ _ _ _ r h => by simp [ratlineref10_Norm.l1] at h⟩
  | k + 1 => by
    obtain ⟨ih0, ih1⟩ := ratlineref10_Norm.mono_l k
    refine ⟨?_, ?_⟩
    · intro y0 y1 y2
      unfold ratlineref10_Norm.l0
      repeat' first
      | (with_reducible exact ih0 _ _ _)
      | (with_reducible exact ih1 _ _ _ _)
      | (with_reducible exact ratlineref10_has.mono _ _ _)
      | (with_reducible exact LeO.refl _)
      | (with_reducible exact LeO.none _)
      | (with_reducible refine LeO.ite ?_ ?_)
      | (with_reducible refine LeO.bind ?_ (fun _ => ?_))
      | exact ih0 _ _ _
      | exact ih1 _ _ _ _
      | exact ratlineref10_has.mono _ _ _
      | exact LeO.none _
      | refine LeO.ite ?_ ?_
      | refine LeO.bind ?_ (fun _ => ?_)
    · intro y0 y1 y2 y3
      unfold ratlineref10_Norm.l1
      repeat' first
      | (with_reducible exact ih0 _ _ _)
      | (with_reducible exact ih1 _ _ _ _)
      | (with_reducible exact ratlineref10_has.mono _ _ _)
      | (with_reducible exact LeO.refl _)
      | (with_reducible exact LeO.none _)
      | (with_reducible refine LeO.ite ?_ ?_)
      | (with_reducible refine LeO.bind ?_ (fun _ => ?_))
      | exact ih0 _ _ _
      | exact ih1 _ _ _ _
      | exact ratlineref10_has.mono _ _ _
      | exact LeO.none _
      | refine LeO.ite ?_ ?_
      | refine LeO.bind ?_ (fun _ => ?_)
theorem ratlineref10_Norm.mono : ∀ a0 k, LeO (ratlineref10_Norm.f k a0) (ratlineref10_Norm.f (k + 1) a0) := by
  intro a0 k
  obtain ⟨ih0, ih1⟩ := ratlineref10_Norm.mono_l k
  unfold ratlineref10_Norm.f
  repeat' first
      | (with_reducible exact ih0 _ _ _)
      | (with_reducible exact ih1 _ _ _ _)
      | (with_reducible exact ratlineref10_has.mono _ _ _)
      | (with_reducible exact LeO.refl _)
      | (with_reducible exact LeO.none _)
      | (with_reducible refine LeO.ite ?_ ?_)
      | (with_reducible refine LeO.bind ?_ (fun _ => ?_))
      | exact ih0 _ _ _
      | exact ih1 _ _ _ _
      | exact ratlineref10_has.mono _ _ _
      | exact LeO.none _
      | refine LeO.ite ?_ ?_
      | refine LeO.bind ?_ (fun _ => ?_)
set_option maxHeartbeats 8000000 in
set_option maxRecDepth 100000 in
theorem ratlineref10_Norm.calls (k : Nat) (A0 : Option Addr) (c0 : Nat) (l0 : List (List Int)) (r : List (List Int)) (w : World) (hr0 : Kd.C (Kd.slice 3 (Kd.int .i64)) w A0 l0.length l0) (hc0 : l0.length ≤ c0) (h : ratlineref10_Norm.f k l0 = some r) :
    Calls Try.prog 28 #[.slice A0 l0.length c0] w fun e w' => ∃ v0_ : Value, e = .returned (v0_) ∧ Kd.S (Kd.slice 3 (Kd.int .i64)) 25 w' w.heap.size (fun _ => True) v0_ r ∧ Below w.heap.size w w' := by
  have HR0 := Aside0.mk hr0
  have HC0 := Aside0.mk hc0
  clear hr0 hc0
  have HB := Aside0.mk (Below.refl w.heap.size w)
  have H : (if 0 ≤ (l0.length : Int) then (if ((l0.length : Int) : Int).toNat ≤ 11728124029610 then (ratlineref10_Norm.l0 k l0 (List.replicate ((l0.length : Int) : Int).toNat []) 0) else (none)) else (none)) = some r := h
  clear h
  by_cases c2 : 0 ≤ (l0.length : Int)
  · rw [if_pos c2] at H
    have c2b0 := eq_true c2
    have c2b1 : decide (0 ≤ (l0.length : Int)) = true := decide_eq_true c2
    clear c2
    by_cases c3 : ((l0.length : Int) : Int).toNat ≤ 11728124029610
    · rw [if_pos c3] at H
      have c3b0 := eq_true c3
      have c3b1 : decide (((l0.length : Int) : Int).toNat ≤ 11728124029610) = true := decide_eq_true c3
      clear c3
      obtain ⟨y343, hy343⟩ : ∃ y_ : List (List Int), y_ = (List.replicate ((l0.length : Int) : Int).toNat []) := ⟨_, rfl⟩
      replace H : (ratlineref10_Norm.l0 k l0 y343 0) = some r := by first | (rw [hy343]; with_reducible exact H) | (have H2_ := (Option.bind_some _ _).symm.trans H; rw [hy343]; with_reducible exact H2_) | (have H2_ := (Option.bind_some _ _).symm.trans H; with_reducible exact H2_) | with_reducible exact H | (rw [hy343]; exact H) | exact H
      have Ny343 := Aside0.mk hy343
      clear hy343
      have H' := Aside0.mk H
      clear H
      go_enter Try.func28, Try.ntmps28
      go_wp2_with (first | ((with_reducible refine gate_dst (N := 9) rfl ?_); (try (refine gate_guard (by rfl) ?_; dsimp only)); refine Kd.S_make (Kd.slice 3 (Kd.int .i64)) _ 25 rfl (N := 9) rfl 22 _ _ rfl (l0.length : Int) rfl rfl Try.underlying22 (.slice none 0 0) 24 info25 rfl (by decide) (by omega) [] (ok := fun _ => True) (okp := fun _ => True) ⟨_, rfl, Kd.R_nil _ _ _ _ _⟩ (fun _ hk => hk) trivial (of_decide_eq_true (by first | (with_reducible assumption) | assumption)) (Nat.le_trans (Nat.mul_le_mul_right _ (of_decide_eq_true (by first | (with_reducible assumption) | assumption) : (l0.length : Int).toNat ≤ 11728124029610)) (by omega)) (Below.refl _ _) (Nat.le_refl _) ?_; intro v344 w4 ho5 hb hg_ hnew_; clear hg_ hnew_; (first | rw [← Ny343.out] at ho5 | (simp only [Int.reduceToNat] at ho5; rw [← Ny343.out] at ho5)); have n0_ := Aside0.mk (Kd.S_lower ho5 (below_size (by repeat (first | (with_reducible first | exact HB.out | apply below_alloc | apply pw_below_drewN | apply below_drew1) | exact HB.out)))); have n1_ := Aside0.mk (below_step (by repeat (first | (with_reducible first | exact HB.out | apply below_alloc | apply pw_below_drewN | apply below_drew1) | exact HB.out)) hb); clear HB; have HO345 := n0_; have HB := n1_; clear n0_ n1_; clear hb ho5))
      go_loopg [4] k (fun kq v4 w' => ∃ (x3_1 : List (List Int)) (x4_1 : Int), v4 = .int .i64 x4_1 ∧ Aside0 (ratlineref10_Norm.l0 kq l0 x3_1 x4_1 = some r) ∧ Aside0 (kq ≤ k) ∧ Aside0 (Kd.S (Kd.slice 3 (Kd.int .i64)) 25 w' w.heap.size (fun _ => True) v344 x3_1) ∧ Aside0 (Below w.heap.size w w'))
      case atStart => exact ⟨(y343), (0), (by first | rfl | (simp; done) | (simp [*]; done)), H', ⟨Nat.le_refl _⟩, ⟨by (with_reducible repeat (first | apply Kd.S_alloc | apply Kd.S_drewN | apply Kd.S_drew)); exact HO345.out⟩, ⟨by repeat (first | (with_reducible first | exact HB.out | apply below_alloc | apply pw_below_drewN | apply below_drew1) | exact HB.out)⟩⟩
      case round =>
        clear H'
        try clear c2
        try clear c2b0
        try clear c2b1
        try clear p2
        try clear c3
        try clear c3b0
        try clear c3b1
        obtain ⟨x3_1, x4_1, rfl, HA, HK1, HO_3, HB⟩ := hrel
        cases gk with
        | zero => exact absurd HA.out (by simp [ratlineref10_Norm.l0])
        | succ k1 =>
          have H := HA.out
          clear HA
          simp only [ratlineref10_Norm.l0] at H
          by_cases c6 : x4_1 < (l0.length : Int)
          · rw [if_pos c6] at H
            have c6b0 : decide (x4_1 < (l0.length : Int)) = true := decide_eq_true c6
            clear c6
            have H' := Aside0.mk H
            clear H
            go_wp2
            go_loopg [5] k1 (fun kq v5 w' => ∃ (x3_2 : List (List Int)) (x5_2 : Int), v5 = .int .i64 x5_2 ∧ Aside0 (ratlineref10_Norm.l1 kq l0 x3_2 x4_1 x5_2 = some r) ∧ Aside0 (kq ≤ k1) ∧ Aside0 (Kd.S (Kd.slice 3 (Kd.int .i64)) 25 w' w.heap.size (fun _ => True) v344 x3_2) ∧ Aside0 (Below w.heap.size w w'))
            case atStart => exact ⟨(x3_1), (0), (by first | rfl | (simp; done) | (simp [*]; done)), H', ⟨Nat.le_refl _⟩, ⟨by (with_reducible repeat (first | apply Kd.S_alloc | apply Kd.S_drewN | apply Kd.S_drew)); exact HO_3.out⟩, ⟨by repeat (first | (with_reducible first | exact HB.out | apply below_alloc | apply pw_below_drewN | apply below_drew1) | exact HB.out)⟩⟩
            case round =>
              clear H'
              try clear c2
              try clear c2b0
              try clear c2b1
              try clear p2
              try clear c3
              try clear c3b0
              try clear c3b1
              try clear c6
              try clear c6b0
              try clear p2
              obtain ⟨x3_2, x5_2, rfl, HA, HK2, HO_3, HB⟩ := hrel
              cases gk with
              | zero => exact absurd HA.out (by simp [ratlineref10_Norm.l1])
              | succ k2 =>
                have H := HA.out
                clear HA
                simp only [ratlineref10_Norm.l1] at H
                by_cases c7 : 0 ≤ x4_1
                · rw [if_pos c7] at H
                  have c7b0 : decide (0 ≤ x4_1) = true := decide_eq_true c7
                  clear c7
                  by_cases c8 : x4_1 < (l0.length : Int)
                  · rw [if_pos c8] at H
                    have c8b0 : decide (x4_1 < (l0.length : Int)) = true := decide_eq_true c8
                    clear c8
                    by_cases c9 : x5_2 < ((rd_L1 l0 x4_1).length : Int)
                    · rw [if_pos c9] at H
                      have c9b0 : decide (x5_2 < ((rd_L1 l0 x4_1).length : Int)) = true := decide_eq_true c9
                      clear c9
                      by_cases c10 : 0 ≤ x5_2
                      · rw [if_pos c10] at H
                        have c10b0 : decide (0 ≤ x5_2) = true := decide_eq_true c10
                        clear c10
                        by_cases c11 : (rd (rd_L1 l0 x4_1) x5_2) < 0
                        · rw [if_pos c11] at H
                          have c11b0 : decide ((rd (rd_L1 l0 x4_1) x5_2) < 0) = true := decide_eq_true c11
                          clear c11
                          have H' := Aside0.mk H
                          clear H
                          have p346 : 0 ≤ (x4_1 : Int) := of_decide_eq_true (by first | (with_reducible assumption) | assumption)
                          have q346 : x4_1 < (l0.length : Int) := of_decide_eq_true (by first | (with_reducible assumption) | assumption)
                          obtain ⟨ad346, A346_0, c346_0, e346, hx346_0, hl346_0, hi346_0⟩ := at_L1 HR0.out x4_1 p346 q346
                          cases e346
                          replace hx346_0 := (HB.out.cell (World.block_lt_of_cell? w _ hx346_0)).trans hx346_0
                          have HR346_0 := Aside0.mk hi346_0
                          have HC346_0 := Aside0.mk hl346_0
                          clear hi346_0 hl346_0
                          replace p346 := eq_true p346
                          replace q346 := eq_true q346
                          have p347 : 0 ≤ (x4_1 : Int) := of_decide_eq_true (by first | (with_reducible assumption) | assumption)
                          have q347 : x4_1 < (l0.length : Int) := of_decide_eq_true (by first | (with_reducible assumption) | assumption)
                          obtain ⟨ad347, A347_0, c347_0, e347, hx347_0, hl347_0, hi347_0⟩ := at_L1 HR0.out x4_1 p347 q347
                          obtain rfl : ad346 = ad347 := (by injection e347)
                          replace hx347_0 := (HB.out.cell (World.block_lt_of_cell? w _ hx347_0)).trans hx347_0
                          have HR347_0 := Aside0.mk hi347_0
                          have HC347_0 := Aside0.mk hl347_0
                          clear hi347_0 hl347_0
                          replace p347 := eq_true p347
                          replace q347 := eq_true q347
                          have ea_ := Option.some.inj (hx346_0.symm.trans hx347_0)
                          injection ea_ with ea_ en_ ec_
                          subst ea_
                          subst ec_
                          clear en_
                          have p348 : 0 ≤ (x5_2 : Int) := of_decide_eq_true (by first | (with_reducible assumption) | assumption)
                          have q348 : x5_2 < ((rd_L1 l0 x4_1).length : Int) := of_decide_eq_true (by first | (with_reducible assumption) | assumption)
                          obtain ⟨ad348, e348, hx348_0⟩ := Kd.at_int HR347_0.out x5_2 p348 q348
                          cases e348
                          replace hx348_0 := (HB.out.cell (World.block_lt_of_cell? w _ hx348_0)).trans hx348_0
                          replace p348 := eq_true p348
                          replace q348 := eq_true q348
                          go_wp2
                          go_roundg k2
                          case measure => have := HK1.out; have := HK2.out; omega
                          case rel => exact ⟨(x3_2), (wrap64 (x5_2 + 1)), (by first | rfl | (simp; done) | (simp [*]; done)), H', ⟨by have := HK1.out; have := HK2.out; omega⟩, ⟨by (with_reducible repeat (first | apply Kd.S_alloc | apply Kd.S_drewN | apply Kd.S_drew)); exact HO_3.out⟩, ⟨by repeat (first | (with_reducible first | exact HB.out | apply below_alloc | apply pw_below_drewN | apply below_drew1) | exact HB.out)⟩⟩
                        · rw [if_neg c11] at H
                          have c11b0 : decide ((rd (rd_L1 l0 x4_1) x5_2) < 0) = false := decide_eq_false c11
                          clear c11
                          by_cases c12 : (rd (rd_L1 l0 x4_1) x5_2) ≥ (l0.length : Int)
                          · rw [if_pos c12] at H
                            have c12b0 : decide ((l0.length : Int) ≤ (rd (rd_L1 l0 x4_1) x5_2)) = true := decide_eq_true c12
                            clear c12
                            have H' := Aside0.mk H
                            clear H
                            have p346 : 0 ≤ (x4_1 : Int) := of_decide_eq_true (by first | (with_reducible assumption) | assumption)
                            have q346 : x4_1 < (l0.length : Int) := of_decide_eq_true (by first | (with_reducible assumption) | assumption)
                            obtain ⟨ad346, A346_0, c346_0, e346, hx346_0, hl346_0, hi346_0⟩ := at_L1 HR0.out x4_1 p346 q346
                            cases e346
                            replace hx346_0 := (HB.out.cell (World.block_lt_of_cell? w _ hx346_0)).trans hx346_0
                            have HR346_0 := Aside0.mk hi346_0
                            have HC346_0 := Aside0.mk hl346_0
                            clear hi346_0 hl346_0
                            replace p346 := eq_true p346
                            replace q346 := eq_true q346
                            have p347 : 0 ≤ (x4_1 : Int) := of_decide_eq_true (by first | (with_reducible assumption) | assumption)
                            have q347 : x4_1 < (l0.length : Int) := of_decide_eq_true (by first | (with_reducible assumption) | assumption)
                            obtain ⟨ad347, A347_0, c347_0, e347, hx347_0, hl347_0, hi347_0⟩ := at_L1 HR0.out x4_1 p347 q347
                            obtain rfl : ad346 = ad347 := (by injection e347)
                            replace hx347_0 := (HB.out.cell (World.block_lt_of_cell? w _ hx347_0)).trans hx347_0
                            have HR347_0 := Aside0.mk hi347_0
                            have HC347_0 := Aside0.mk hl347_0
                            clear hi347_0 hl347_0
                            replace p347 := eq_true p347
                            replace q347 := eq_true q347
                            have ea_ := Option.some.inj (hx346_0.symm.trans hx347_0)
                            injection ea_ with ea_ en_ ec_
                            subst ea_
                            subst ec_
                            clear en_
                            have p348 : 0 ≤ (x5_2 : Int) := of_decide_eq_true (by first | (with_reducible assumption) | assumption)
                            have q348 : x5_2 < ((rd_L1 l0 x4_1).length : Int) := of_decide_eq_true (by first | (with_reducible assumption) | assumption)
                            obtain ⟨ad348, e348, hx348_0⟩ := Kd.at_int HR347_0.out x5_2 p348 q348
                            cases e348
                            replace hx348_0 := (HB.out.cell (World.block_lt_of_cell? w _ hx348_0)).trans hx348_0
                            replace p348 := eq_true p348
                            replace q348 := eq_true q348
                            go_wp2
                            go_roundg k2
                            case measure => have := HK1.out; have := HK2.out; omega
                            case rel => exact ⟨(x3_2), (wrap64 (x5_2 + 1)), (by first | rfl | (simp; done) | (simp [*]; done)), H', ⟨by have := HK1.out; have := HK2.out; omega⟩, ⟨by (with_reducible repeat (first | apply Kd.S_alloc | apply Kd.S_drewN | apply Kd.S_drew)); exact HO_3.out⟩, ⟨by repeat (first | (with_reducible first | exact HB.out | apply below_alloc | apply pw_below_drewN | apply below_drew1) | exact HB.out)⟩⟩
                          · rw [if_neg c12] at H
                            have c12b0 : decide ((l0.length : Int) ≤ (rd (rd_L1 l0 x4_1) x5_2)) = false := decide_eq_false c12
                            clear c12
                            by_cases c13 : x4_1 < (x3_2.length : Int)
                            · rw [if_pos c13] at H
                              have c13b0 : decide (x4_1 < (x3_2.length : Int)) = true := decide_eq_true c13
                              clear c13
                              replace H := Option.bind_eq_some_iff.mp H
                              obtain ⟨t350, A140, H⟩ := H
                              replace H : (if t350 = true then (ratlineref10_Norm.l1 k2 l0 x3_2 x4_1 (wrap64 (x5_2 + 1))) else (if (rd_L1 x3_2 x4_1).length < 17592186044416 then (ratlineref10_Norm.l1 k2 l0 (x3_2.set (x4_1 : Int).toNat ((rd_L1 x3_2 x4_1) ++ [rd (rd_L1 l0 x4_1) x5_2])) x4_1 (wrap64 (x5_2 + 1))) else (none))) = some r := H
                              have A14 := Aside0.mk A140
                              clear A140
                              by_cases c15 : t350 = true
                              · subst c15
                                have H1 : (ratlineref10_Norm.l1 k2 l0 x3_2 x4_1 (wrap64 (x5_2 + 1))) = some r := by rw [if_pos rfl] at H; exact H
                                clear H
                                have H := H1
                                clear H1
                                have H' := Aside0.mk H
                                clear H
                                have p346 : 0 ≤ (x4_1 : Int) := of_decide_eq_true (by first | (with_reducible assumption) | assumption)
                                have q346 : x4_1 < (l0.length : Int) := of_decide_eq_true (by first | (with_reducible assumption) | assumption)
                                obtain ⟨ad346, A346_0, c346_0, e346, hx346_0, hl346_0, hi346_0⟩ := at_L1 HR0.out x4_1 p346 q346
                                cases e346
                                replace hx346_0 := (HB.out.cell (World.block_lt_of_cell? w _ hx346_0)).trans hx346_0
                                have HR346_0 := Aside0.mk hi346_0
                                have HC346_0 := Aside0.mk hl346_0
                                clear hi346_0 hl346_0
                                replace p346 := eq_true p346
                                replace q346 := eq_true q346
                                have p347 : 0 ≤ (x4_1 : Int) := of_decide_eq_true (by first | (with_reducible assumption) | assumption)
                                have q347 : x4_1 < (l0.length : Int) := of_decide_eq_true (by first | (with_reducible assumption) | assumption)
                                obtain ⟨ad347, A347_0, c347_0, e347, hx347_0, hl347_0, hi347_0⟩ := at_L1 HR0.out x4_1 p347 q347
                                obtain rfl : ad346 = ad347 := (by injection e347)
                                replace hx347_0 := (HB.out.cell (World.block_lt_of_cell? w _ hx347_0)).trans hx347_0
                                have HR347_0 := Aside0.mk hi347_0
                                have HC347_0 := Aside0.mk hl347_0
                                clear hi347_0 hl347_0
                                replace p347 := eq_true p347
                                replace q347 := eq_true q347
                                have ea_ := Option.some.inj (hx346_0.symm.trans hx347_0)
                                injection ea_ with ea_ en_ ec_
                                subst ea_
                                subst ec_
                                clear en_
                                have p348 : 0 ≤ (x5_2 : Int) := of_decide_eq_true (by first | (with_reducible assumption) | assumption)
                                have q348 : x5_2 < ((rd_L1 l0 x4_1).length : Int) := of_decide_eq_true (by first | (with_reducible assumption) | assumption)
                                obtain ⟨ad348, e348, hx348_0⟩ := Kd.at_int HR347_0.out x5_2 p348 q348
                                cases e348
                                replace hx348_0 := (HB.out.cell (World.block_lt_of_cell? w _ hx348_0)).trans hx348_0
                                replace p348 := eq_true p348
                                replace q348 := eq_true q348
                                obtain ⟨Ao16, co16, eo16⟩ := Kd.S_slice HO_3.out
                                subst eo16
                                have p349 : 0 ≤ (x4_1 : Int) := of_decide_eq_true (by first | (with_reducible assumption) | assumption)
                                have q349 : x4_1 < (x3_2.length : Int) := of_decide_eq_true (by first | (with_reducible assumption) | assumption)
                                obtain ⟨ad349, A349_0, c349_0, e349, hx349_0, hl349_0, hi349_0⟩ := at_L1 (Kd.S_reads' HO_3.out).2.2 x4_1 p349 q349
                                cases e349
                                obtain ⟨ce349, hce349, hMe349, hcc349⟩ := Kd.S_get HO_3.out [] x4_1 p349 (by first | exact q349 | exact of_decide_eq_true (by first | (with_reducible assumption) | assumption) | (have e_ := (Kd.S_reads' HO_3.out).1; omega))
                                obtain ⟨ve349_0, rfl, ge349_0⟩ := hMe349
                                have hv349_0 := hcc349 0 _ rfl
                                rw [Nat.add_zero, show ((Kd.slice 3 (Kd.int .i64))).sz = 1 from rfl, Nat.mul_one] at hv349_0
                                replace hv349_0 := Option.some.inj (hv349_0.symm.trans hx349_0)
                                rw [hv349_0] at ge349_0
                                have HL349_0 := Aside0.mk (show Kd.R (Kd.int .i64) 3 _ _ _ _ (rd_L1 x3_2 x4_1) from ge349_0)
                                clear hv349_0 ge349_0
                                have HX349_0 := Aside0.mk hx349_0
                                clear hcc349 hce349
                                have HR349_0 := Aside0.mk hi349_0
                                have HC349_0 := Aside0.mk hl349_0
                                clear hi349_0 hl349_0
                                replace p349 := eq_true p349
                                replace q349 := eq_true q349
                                go_wp2_with (first | (go_at_call 40; (with_reducible refine (ratlineref10_has.calls k2 _ _ (rd_L1 x3_2 x4_1) (rd (rd_L1 l0 x4_1) x5_2) true _ ?side1 ?side2 A14.out).mono ?_); (case side1 => repeat (first | exact (by repeat (first | (with_reducible exact HR349_0.out) | (with_reducible refine Kd.C_alloc ?_ _) | (with_reducible refine Kd.C_drewN ?_ _) | (with_reducible refine Kd.C_drew ?_) | exact HR349_0.out)) | (with_reducible refine Kd.C_alloc ?_ _) | (with_reducible refine Kd.C_drewN ?_ _) | (with_reducible refine Kd.C_drew ?_))); (case side2 => exact HC349_0.out); rintro e w' ⟨rfl, ⟨nd, rfl⟩⟩))
                                go_roundg k2
                                case measure => have := HK1.out; have := HK2.out; omega
                                case rel => exact ⟨(x3_2), (wrap64 (x5_2 + 1)), (by first | rfl | (simp; done) | (simp [*]; done)), H', ⟨by have := HK1.out; have := HK2.out; omega⟩, ⟨by (with_reducible repeat (first | apply Kd.S_alloc | apply Kd.S_drewN | apply Kd.S_drew)); exact HO_3.out⟩, ⟨by repeat (first | (with_reducible first | exact HB.out | apply below_alloc | apply pw_below_drewN | apply below_drew1) | exact HB.out)⟩⟩
                              · replace c15 := Bool.eq_false_iff.mpr c15
                                subst c15
                                have H1 : (if (rd_L1 x3_2 x4_1).length < 17592186044416 then (ratlineref10_Norm.l1 k2 l0 (x3_2.set (x4_1 : Int).toNat ((rd_L1 x3_2 x4_1) ++ [rd (rd_L1 l0 x4_1) x5_2])) x4_1 (wrap64 (x5_2 + 1))) else (none)) = some r := by rw [if_neg (show ¬ (false = true) by decide)] at H; exact H
                                clear H
                                have H := H1
                                clear H1
                                by_cases c17 : (rd_L1 x3_2 x4_1).length < 17592186044416
                                · rw [if_pos c17] at H
                                  have LMc17 := Aside0.mk c17
                                  clear c17
                                  obtain ⟨y352, hy352⟩ : ∃ y_ : List Int, y_ = ((rd_L1 x3_2 x4_1) ++ [rd (rd_L1 l0 x4_1) x5_2]) := ⟨_, rfl⟩
                                  replace H : (ratlineref10_Norm.l1 k2 l0 (x3_2.set (x4_1 : Int).toNat y352) x4_1 (wrap64 (x5_2 + 1))) = some r := by first | (rw [hy352]; with_reducible exact H) | (have H2_ := (Option.bind_some _ _).symm.trans H; rw [hy352]; with_reducible exact H2_) | (have H2_ := (Option.bind_some _ _).symm.trans H; with_reducible exact H2_) | with_reducible exact H | (rw [hy352]; exact H) | exact H
                                  have Ny352 := Aside0.mk hy352
                                  clear hy352
                                  obtain ⟨y355, hy355⟩ : ∃ y_ : List (List Int), y_ = (x3_2.set (x4_1 : Int).toNat y352) := ⟨_, rfl⟩
                                  replace H : (ratlineref10_Norm.l1 k2 l0 y355 x4_1 (wrap64 (x5_2 + 1))) = some r := by first | (rw [hy355]; with_reducible exact H) | (have H2_ := (Option.bind_some _ _).symm.trans H; rw [hy355]; with_reducible exact H2_) | (have H2_ := (Option.bind_some _ _).symm.trans H; with_reducible exact H2_) | with_reducible exact H | (rw [hy355]; exact H) | exact H
                                  have Ny355 := Aside0.mk hy355
                                  clear hy355
                                  have H' := Aside0.mk H
                                  clear H
                                  have p346 : 0 ≤ (x4_1 : Int) := of_decide_eq_true (by first | (with_reducible assumption) | assumption)
                                  have q346 : x4_1 < (l0.length : Int) := of_decide_eq_true (by first | (with_reducible assumption) | assumption)
                                  obtain ⟨ad346, A346_0, c346_0, e346, hx346_0, hl346_0, hi346_0⟩ := at_L1 HR0.out x4_1 p346 q346
                                  cases e346
                                  replace hx346_0 := (HB.out.cell (World.block_lt_of_cell? w _ hx346_0)).trans hx346_0
                                  have HR346_0 := Aside0.mk hi346_0
                                  have HC346_0 := Aside0.mk hl346_0
                                  clear hi346_0 hl346_0
                                  replace p346 := eq_true p346
                                  replace q346 := eq_true q346
                                  have p347 : 0 ≤ (x4_1 : Int) := of_decide_eq_true (by first | (with_reducible assumption) | assumption)
                                  have q347 : x4_1 < (l0.length : Int) := of_decide_eq_true (by first | (with_reducible assumption) | assumption)
                                  obtain ⟨ad347, A347_0, c347_0, e347, hx347_0, hl347_0, hi347_0⟩ := at_L1 HR0.out x4_1 p347 q347
                                  obtain rfl : ad346 = ad347 := (by injection e347)
                                  replace hx347_0 := (HB.out.cell (World.block_lt_of_cell? w _ hx347_0)).trans hx347_0
                                  have HR347_0 := Aside0.mk hi347_0
                                  have HC347_0 := Aside0.mk hl347_0
                                  clear hi347_0 hl347_0
                                  replace p347 := eq_true p347
                                  replace q347 := eq_true q347
                                  have ea_ := Option.some.inj (hx346_0.symm.trans hx347_0)
                                  injection ea_ with ea_ en_ ec_
                                  subst ea_
                                  subst ec_
                                  clear en_
                                  have p348 : 0 ≤ (x5_2 : Int) := of_decide_eq_true (by first | (with_reducible assumption) | assumption)
                                  have q348 : x5_2 < ((rd_L1 l0 x4_1).length : Int) := of_decide_eq_true (by first | (with_reducible assumption) | assumption)
                                  obtain ⟨ad348, e348, hx348_0⟩ := Kd.at_int HR347_0.out x5_2 p348 q348
                                  cases e348
                                  replace hx348_0 := (HB.out.cell (World.block_lt_of_cell? w _ hx348_0)).trans hx348_0
                                  replace p348 := eq_true p348
                                  replace q348 := eq_true q348
                                  obtain ⟨Ao19, co19, eo19⟩ := Kd.S_slice HO_3.out
                                  subst eo19
                                  have p349 : 0 ≤ (x4_1 : Int) := of_decide_eq_true (by first | (with_reducible assumption) | assumption)
                                  have q349 : x4_1 < (x3_2.length : Int) := of_decide_eq_true (by first | (with_reducible assumption) | assumption)
                                  obtain ⟨ad349, A349_0, c349_0, e349, hx349_0, hl349_0, hi349_0⟩ := at_L1 (Kd.S_reads' HO_3.out).2.2 x4_1 p349 q349
                                  cases e349
                                  obtain ⟨ce349, hce349, hMe349, hcc349⟩ := Kd.S_get HO_3.out [] x4_1 p349 (by first | exact q349 | exact of_decide_eq_true (by first | (with_reducible assumption) | assumption) | (have e_ := (Kd.S_reads' HO_3.out).1; omega))
                                  obtain ⟨ve349_0, rfl, ge349_0⟩ := hMe349
                                  have hv349_0 := hcc349 0 _ rfl
                                  rw [Nat.add_zero, show ((Kd.slice 3 (Kd.int .i64))).sz = 1 from rfl, Nat.mul_one] at hv349_0
                                  replace hv349_0 := Option.some.inj (hv349_0.symm.trans hx349_0)
                                  rw [hv349_0] at ge349_0
                                  have HL349_0 := Aside0.mk (show Kd.R (Kd.int .i64) 3 _ _ _ _ (rd_L1 x3_2 x4_1) from ge349_0)
                                  clear hv349_0 ge349_0
                                  have HX349_0 := Aside0.mk hx349_0
                                  clear hcc349 hce349
                                  have HR349_0 := Aside0.mk hi349_0
                                  have HC349_0 := Aside0.mk hl349_0
                                  clear hi349_0 hl349_0
                                  replace p349 := eq_true p349
                                  replace q349 := eq_true q349
                                  go_wp2_with (first | (go_at_call 40; (with_reducible refine (ratlineref10_has.calls k2 _ _ (rd_L1 x3_2 x4_1) (rd (rd_L1 l0 x4_1) x5_2) false _ ?side1 ?side2 A14.out).mono ?_); (case side1 => repeat (first | exact (by repeat (first | (with_reducible exact HR349_0.out) | (with_reducible refine Kd.C_alloc ?_ _) | (with_reducible refine Kd.C_drewN ?_ _) | (with_reducible refine Kd.C_drew ?_) | exact HR349_0.out)) | (with_reducible refine Kd.C_alloc ?_ _) | (with_reducible refine Kd.C_drewN ?_ _) | (with_reducible refine Kd.C_drew ?_))); (case side2 => exact HC349_0.out); rintro e w' ⟨rfl, ⟨nd, rfl⟩⟩; (try (rw [drewN_self wr]; generalize hq_ : World.drewN wr _ = wr; have n0_ : Aside0 (Kd.R (Kd.int .i64) 3 wr w.heap.size (fun k_ => some k_ ≠ (.slice (some ad349) x3_2.length co19 : Value).ownBlock) (.slice A349_0 (rd_L1 x3_2 x4_1).length c349_0) (rd_L1 x3_2 x4_1)) := ⟨by rw [← hq_]; exact (by (with_reducible repeat (first | apply Kd.R_alloc | apply Kd.R_drewN | apply Kd.R_drew)); exact Kd.R_mono HL349_0.out (fun _ hk => hk.2))⟩; have n1_ : Aside0 (Kd.S (Kd.slice 3 (Kd.int .i64)) 25 wr w.heap.size (fun _ => True) (.slice (some ad349) x3_2.length co19) x3_2) := ⟨by rw [← hq_]; exact (by (with_reducible repeat (first | apply Kd.S_alloc | apply Kd.S_drewN | apply Kd.S_drew)); exact HO_3.out)⟩; have n2_ : Aside0 (Below w.heap.size w wr) := ⟨by rw [← hq_]; exact (by repeat (first | (with_reducible first | exact HB.out | apply below_alloc | apply pw_below_drewN | apply below_drew1) | exact HB.out))⟩; have n3_ : Aside0 (Kd.C (Kd.int .i64) wr A349_0 (rd_L1 x3_2 x4_1).length (rd_L1 x3_2 x4_1)) := ⟨by rw [← hq_]; exact (by repeat (first | (with_reducible exact HR349_0.out) | (with_reducible refine Kd.C_alloc ?_ _) | (with_reducible refine Kd.C_drewN ?_ _) | (with_reducible refine Kd.C_drew ?_) | exact HR349_0.out))⟩; replace hx349_0 := (by rw [← hq_]; exact hx349_0 : wr.cell? (ad349.add x4_1.toNat) = some (.slice A349_0 (rd_L1 x3_2 x4_1).length c349_0)); clear HL349_0 HO_3 HB HR349_0 hq_; have HL349_0 := n0_; have HO_3 := n1_; have HB := n2_; have HR349_0 := n3_; clear n0_ n1_ n2_ n3_)); have p351 : 0 ≤ (x4_1 : Int) := of_decide_eq_true (by first | (with_reducible assumption) | assumption); have q351 : x4_1 < (x3_2.length : Int) := of_decide_eq_true (by first | (with_reducible assumption) | assumption); obtain ⟨ad351, A351_0, c351_0, e351, hx351_0, hl351_0, hi351_0⟩ := at_L1 (Kd.S_reads' HO_3.out).2.2 x4_1 p351 q351; obtain rfl : ad349 = ad351 := (by injection e351); obtain ⟨ce351, hce351, hMe351, hcc351⟩ := Kd.S_get HO_3.out [] x4_1 p351 (by first | exact q351 | exact of_decide_eq_true (by first | (with_reducible assumption) | assumption) | (have e_ := (Kd.S_reads' HO_3.out).1; omega)); obtain ⟨ve351_0, rfl, ge351_0⟩ := hMe351; have hv351_0 := hcc351 0 _ rfl; rw [Nat.add_zero, show ((Kd.slice 3 (Kd.int .i64))).sz = 1 from rfl, Nat.mul_one] at hv351_0; replace hv351_0 := Option.some.inj (hv351_0.symm.trans hx351_0); rw [hv351_0] at ge351_0; have HL351_0 := Aside0.mk (show Kd.R (Kd.int .i64) 3 _ _ _ _ (rd_L1 x3_2 x4_1) from ge351_0); clear hv351_0 ge351_0; have HX351_0 := Aside0.mk hx351_0; clear hcc351 hce351; have HR351_0 := Aside0.mk hi351_0; have HC351_0 := Aside0.mk hl351_0; clear hi351_0 hl351_0; replace p351 := eq_true p351; replace q351 := eq_true q351; have ea_ := Option.some.inj (hx349_0.symm.trans hx351_0); injection ea_ with ea_ en_ ec_; subst ea_; subst ec_; clear en_; obtain ⟨go20, co20, eo20, gb20, gl20, cl20, HG20⟩ := Kd.S_form HO_3.out (by have h_ : (x4_1 : Int) < ((x3_2.length : Int) : Int) := of_decide_eq_true (by first | (with_reducible assumption) | assumption); have h2_ : 0 ≤ (x4_1 : Int) := (of_decide_eq_true (by first | (with_reducible assumption) | assumption)); omega); (first | cases eo20 | (injection eo20 with ea_ en_ ec_; (first | subst ea_ | (injection ea_ with ea_; subst ea_)); subst ec_; clear en_)); have GB20 := Aside0.mk gb20; have GG20 := Aside0.mk HG20; clear gb20 gl20 HG20; (first | simp only [add_plain] at hx349_0 | skip); (first | simp only [add_plain] at hx351_0 | skip); obtain ⟨oki20, ce20, hcl20, hM20, hcc20, _, _, hH20⟩ := Kd.S_elem HO_3.out [] (x4_1 : Int) (of_decide_eq_true (by first | (with_reducible assumption) | assumption)) (by have h_ : (x4_1 : Int) < ((x3_2.length : Int) : Int) := of_decide_eq_true (by first | (with_reducible assumption) | assumption); first | exact h_ | (have e_ := (Kd.S_reads' HO_3.out).1; omega) | simpa using h_); obtain ⟨ve20_0, rfl, ge20_0⟩ := hM20; have hv20 := hcc20 0 _ rfl; have hX20 := HX351_0.out; (try simp only [add_plain] at hX20); (try simp only [Nat.add_zero] at hv20); (try rw [show ((Kd.slice 3 (Kd.int .i64))).sz = 1 from rfl, Nat.mul_one] at hv20); replace hv20 := Option.some.inj (hv20.symm.trans hX20); subst hv20; clear hX20 hcc20 hcl20; have UU20 := Aside0.mk (show Kd.R (Kd.int .i64) 3 _ w.heap.size oki20 (.slice A349_0 (rd_L1 x3_2 x4_1).length c349_0) (rd_L1 x3_2 x4_1) from ge20_0); have HH20 := Aside0.mk hH20; have HN20 := Aside0.mk (Kd.S_reads' HO_3.out).1; clear hH20 ge20_0) | ((with_reducible refine gate_builtin (b := .append) (xs := #[.tmp 53, .tmp 55]) rfl ?_); (try (refine gate_guard (by rfl) ?_; dsimp only)); at_builtin; refine Kd.R_append (Kd.int .i64) (w0 := w) w.heap.size rfl (.tmp 53) (.tmp 55) 25 3 (.int .i64 0) 8 rfl Try.underlying25 info3 rfl (by decide) (by omega) (.slice A349_0 (rd_L1 x3_2 x4_1).length c349_0) (rd_L1 x3_2 x4_1) (rd (rd_L1 l0 x4_1) x5_2) [.int .i64 (rd (rd_L1 l0 x4_1) x5_2)] (fun k_ => oki20 k_ ∨ ((fun _ => True)) k_ ∧ wr.heap.size ≤ k_) (fun _ => False) rfl rfl ?aP (fun _ hk => hk.elim) ?aF ?aO ?aB ?aS ?aL ?_; (case aP => exact rfl); (case aB => exact (by repeat (first | (with_reducible first | exact HB.out | apply below_alloc | apply pw_below_drewN | apply below_drew1) | exact HB.out))); (case aF => exact (fun k_ hk => .inr ⟨trivial, hk⟩)); (case aO => exact (by (with_reducible repeat (first | apply Kd.R_alloc | apply Kd.R_drewN | apply Kd.R_drew)); exact Kd.R_mono UU20.out (fun _ hk => .inl hk))); (case aS => exact (below_size (by repeat (first | (with_reducible first | exact HB.out | apply below_alloc | apply pw_below_drewN | apply below_drew1) | exact HB.out)))); (case aL => have := LMc17.out; omega); intro v353 w21 ho hb hg hat; rw [← Ny352.out] at ho; have n0_ := Aside0.mk (hb); have n1_ := Aside0.mk (Kd.H_grown (Kd.H_widen (by repeat (first | exact HH20.out | refine Kd.H_alloc ?_ _ | refine Kd.H_drewN ?_ _ | refine Kd.H_drew ?_))) hg (fun k_ e_ => .inl (UU20.out.1 k_ e_))); have n2_ := Aside0.mk (ho); clear HB; clear HH20; clear HO_3; clear UU20; clear HL349_0; clear HL351_0; have HB := n0_; have HH20 := n1_; have HO354 := n2_; clear n0_ n1_ n2_; clear ho hb hg hat; have p18 : 0 ≤ (x4_1 : Int) := of_decide_eq_true (by first | (with_reducible assumption) | assumption); have q18 : (x4_1 : Int) < ((x3_2.length : Int) : Int) := of_decide_eq_true (by first | (with_reducible assumption) | assumption); replace p18 := eq_true p18; replace q18 := eq_true q18; obtain ⟨Ao24, co24, eo24⟩ := Kd.R_slice HO354.out; subst eo24; obtain ⟨_, _, hraw22, _, _, hcc22, _⟩ := Kd.H_raw HH20.out (of_decide_eq_true (by first | (with_reducible assumption) | assumption)) (by have h_ : (x4_1 : Int) < ((x3_2.length : Int) : Int) := of_decide_eq_true (by first | (with_reducible assumption) | assumption); first | exact h_ | (have e_ := (HN20.out); omega) | simpa using h_); obtain ⟨_, hfr22⟩ := Kd.H_at HH20.out (of_decide_eq_true (by first | (with_reducible assumption) | assumption)) (by have h_ : (x4_1 : Int) < ((x3_2.length : Int) : Int) := of_decide_eq_true (by first | (with_reducible assumption) | assumption); first | exact h_ | (have e_ := (HN20.out); omega) | simpa using h_); have hx22_0 := hcc22 0 _ rfl; have hf22_0 := hfr22 0; (try simp only [Nat.add_zero] at hx22_0 hf22_0); (try rw [show ((Kd.slice 3 (Kd.int .i64))).sz = 1 from rfl, Nat.mul_one] at hx22_0); (try rw [show ((Kd.slice 3 (Kd.int .i64))).sz = 1 from rfl, Nat.mul_one] at hf22_0); have HP22 := Kd.S_seg0 HH20.out (of_decide_eq_true (by first | (with_reducible assumption) | assumption)) (by have h_ : (x4_1 : Int) < ((x3_2.length : Int) : Int) := of_decide_eq_true (by first | (with_reducible assumption) | assumption); first | exact h_ | (have e_ := (HN20.out); omega) | simpa using h_) (seg := [.slice Ao24 y352.length co24]) (j := 0) (show 1 ≤ 1 from by decide) (x' := y352) (Kd.M_row HO354.out) (fun _ hk => hk); (try simp only [show ((Kd.slice 3 (Kd.int .i64))).sz = 1 from rfl, Nat.mul_one, Nat.add_zero] at HP22); clear hcc22 hfr22) | ((with_reducible refine gate_store (t := 25) (p := 57) rfl ?_); refine store_event (t := 25) (p := 57) (v := ?vo_w23) (w1 := (w21.setCell ⟨go20, (x4_1 : Int).toNat, none⟩ (.slice Ao24 y352.length co24))) ?hg ?ho ?hn ?hr ?_; (case ho => rfl); (case hg => rfl); (case hn => rfl); (case hr => first | (go_simp; done) | (go_simp; rfl)); intro w23 hw; have hg : w21.grownBy w23 (some go20) := (by rw [hw]; exact HP22.2); have hp_ : Kd.S (Kd.slice 3 (Kd.int .i64)) 25 w23 w.heap.size (fun _ => True) (.slice (some ⟨go20, 0, none⟩) x3_2.length co19) y355 := (by rw [hw, Ny355.out]; exact HP22.1); clear HP22; have n0_ := Aside0.mk ((by rw [hw]; exact below_set HB.out GB20.out : Below w.heap.size w w23)); have n1_ := Aside0.mk (hp_); clear HB; clear HO354; clear HH20; have HB := n0_; have HO_3 := n1_; clear n0_ n1_; clear hg hw hp_ hraw22))
                                  go_roundg k2
                                  case measure => have := HK1.out; have := HK2.out; omega
                                  case rel => exact ⟨(y355), (wrap64 (x5_2 + 1)), (by first | rfl | (simp; done) | (simp [*]; done)), H', ⟨by have := HK1.out; have := HK2.out; omega⟩, ⟨by (with_reducible repeat (first | apply Kd.S_alloc | apply Kd.S_drewN | apply Kd.S_drew)); exact HO_3.out⟩, ⟨by repeat (first | (with_reducible first | exact HB.out | apply below_alloc | apply pw_below_drewN | apply below_drew1) | exact HB.out)⟩⟩
                                · rw [if_neg c17] at H
                                  exact absurd H (by simp)
                            · rw [if_neg c13] at H
                              exact absurd H (by simp)
                      · rw [if_neg c10] at H
                        exact absurd H (by simp)
                    · rw [if_neg c9] at H
                      have c9b0 : decide (x5_2 < ((rd_L1 l0 x4_1).length : Int)) = false := decide_eq_false c9
                      clear c9
                      have H' := Aside0.mk H
                      clear H
                      have p346 : 0 ≤ (x4_1 : Int) := of_decide_eq_true (by first | (with_reducible assumption) | assumption)
                      have q346 : x4_1 < (l0.length : Int) := of_decide_eq_true (by first | (with_reducible assumption) | assumption)
                      obtain ⟨ad346, A346_0, c346_0, e346, hx346_0, hl346_0, hi346_0⟩ := at_L1 HR0.out x4_1 p346 q346
                      cases e346
                      replace hx346_0 := (HB.out.cell (World.block_lt_of_cell? w _ hx346_0)).trans hx346_0
                      have HR346_0 := Aside0.mk hi346_0
                      have HC346_0 := Aside0.mk hl346_0
                      clear hi346_0 hl346_0
                      replace p346 := eq_true p346
                      replace q346 := eq_true q346
                      go_wp2
                      go_roundg k2
                      case measure => have := HK1.out; have := HK2.out; omega
                      case rel => exact ⟨(x3_2), (wrap64 (x4_1 + 1)), (by first | rfl | (simp; done) | (simp [*]; done)), H', ⟨by have := HK1.out; have := HK2.out; omega⟩, ⟨by (with_reducible repeat (first | apply Kd.S_alloc | apply Kd.S_drewN | apply Kd.S_drew)); exact HO_3.out⟩, ⟨by repeat (first | (with_reducible first | exact HB.out | apply below_alloc | apply pw_below_drewN | apply below_drew1) | exact HB.out)⟩⟩
                  · rw [if_neg c8] at H
                    exact absurd H (by simp)
                · rw [if_neg c7] at H
                  exact absurd H (by simp)
          · rw [if_neg c6] at H
            have c6b0 : decide (x4_1 < (l0.length : Int)) = false := decide_eq_false c6
            clear c6
            obtain rfl := Option.some.inj H
            go_wp2
            go_ret
            exact ⟨_, by first | rfl | (simp [errW_none, errW_some] <;> rfl) | (simp [*, errW_none, errW_some] <;> rfl), by (with_reducible repeat (first | apply Kd.S_alloc | apply Kd.S_drewN | apply Kd.S_drew)); exact HO_3.out, by repeat (first | (with_reducible first | exact HB.out | apply below_alloc | apply pw_below_drewN | apply below_drew1) | exact HB.out)⟩
    · rw [if_neg c3] at H
      exact absurd H (by simp)
  · rw [if_neg c2] at H
    exact absurd H (by simp)

end Go.Proofs.Ytjflddnmkajleaa.PG
