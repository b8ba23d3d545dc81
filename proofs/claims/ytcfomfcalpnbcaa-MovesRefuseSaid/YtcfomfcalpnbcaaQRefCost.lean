-- By the session's own program out of the kit's print, with texts of the session's own for the functions that the print does not take.
import Derived.Test.YtcfomfcalpnbcaaPGx0
import Derived.Test.YtcfomfcalpnbcaaQSource
namespace Go.Proofs.Ytcfomfcalpnbcaa.PG
open Go.RowKit Go.Proofs.YtcfomfcalpnbcaaW.PrintWords Go.Proofs.YtcfomfcalpnbcaaW.PrintLast Go.Proofs.YtcfomfcalpnbcaaW.PrintMore
attribute [local go_sem] max2_int min2_int max_two min_two max_three min_three max_four min_four   -- for this text's walks alone
set_option linter.unusedVariables false
set_option linter.unusedSimpArgs false

/-! ### ratlineref18_Cost: function 10 -/
mutual
def ratlineref18_Cost.l0 : Nat → List (S35) → Int → Int → Option (Int)
  | 0, _, _, _ => none
  | k + 1, x0, x3, x4 => if x4 < (x0.length : Int) then (if 0 ≤ x4 then (if ((rd_T35 x0 x4).f0) = ((rd_T35 x0 x4).f1) then (ratlineref18_Cost.l0 k x0 x3 (wrap64 (x4 + 1))) else (ratlineref18_Cost.l1 k x0 (wrap64 (x3 + 1)) x4 ((rd_T35 x0 x4).f0) ((rd_T35 x0 x4).f1) 1)) else (none)) else (some x3)
def ratlineref18_Cost.l1 : Nat → List (S35) → Int → Int → Int → Int → Int → Option (Int)
  | 0, _, _, _, _, _, _ => none
  | k + 1, x0, x3, x4, x5, x6, x7 => if 0 ≤ x4 then (if x4 < (x0.length : Int) then (if x6 = ((rd_T35 x0 x4).f0) then (ratlineref18_Cost.j2 k x0 x3 x4 x5 x6 x7 false) else (ratlineref18_Cost.j2 k x0 x3 x4 x5 x6 x7 (decide (x7 ≤ (x0.length : Int))))) else (none)) else (none)
def ratlineref18_Cost.j2 : Nat → List (S35) → Int → Int → Int → Int → Int → Bool → Option (Int)
  | 0, _, _, _, _, _, _, _ => none
  | k + 1, x0, x3, x4, x5, x6, x7, x51 => if x51 = true then ((ratlineref18_source.f k x0 x6).bind fun bt162 => (if bt162.2 = true then (ratlineref18_Cost.l1 k x0 x3 x4 (mn x5 x6) bt162.1 (wrap64 (x7 + 1))) else (if 0 ≤ x4 then (if x4 < (x0.length : Int) then (if x6 = ((rd_T35 x0 x4).f0) then (if (mn x5 x6) = ((rd_T35 x0 x4).f0) then (ratlineref18_Cost.l0 k x0 (wrap64 (x3 + 1)) (wrap64 (x4 + 1))) else (ratlineref18_Cost.l0 k x0 x3 (wrap64 (x4 + 1)))) else (ratlineref18_Cost.l0 k x0 x3 (wrap64 (x4 + 1)))) else (none)) else (none)))) else (if 0 ≤ x4 then (if x4 < (x0.length : Int) then (if x6 = ((rd_T35 x0 x4).f0) then (if x5 = ((rd_T35 x0 x4).f0) then (ratlineref18_Cost.l0 k x0 (wrap64 (x3 + 1)) (wrap64 (x4 + 1))) else (ratlineref18_Cost.l0 k x0 x3 (wrap64 (x4 + 1)))) else (ratlineref18_Cost.l0 k x0 x3 (wrap64 (x4 + 1)))) else (none)) else (none))
end
def ratlineref18_Cost.f (k : Nat) (l0 : List (S35)) : Option (Int) := ratlineref18_Cost.l0 k l0 0 0
theorem ratlineref18_Cost.mono_l : ∀ k, (∀ y0 y1 y2, LeO (ratlineref18_Cost.l0 k y0 y1 y2) (ratlineref18_Cost.l0 (k + 1) y0 y1 y2)) ∧ (∀ y0 y1 y2 y3 y4 y5, LeO (ratlineref18_Cost.l1 k y0 y1 y2 y3 y4 y5) (ratlineref18_Cost.l1 (k + 1) y0 y1 y2 y3 y4 y5)) ∧ (∀ y0 y1 y2 y3 y4 y5 y6, LeO (ratlineref18_Cost.j2 k y0 y1 y2 y3 y4 y5 y6) (ratlineref18_Cost.j2 (k + 1) y0 y1 y2 y3 y4 y5 y6))
  | 0 => ⟨fun _ _ _ r h => by simp [ratlineref18_Cost.l0] at h, fun _ _ _ _ _ _ r h => by simp [ratlineref18_Cost.l1] at h, fun _ _ _ _ _ _ _ r h => by simp [ratlineref18_Cost.j2] at h⟩
  | k + 1 => by
    obtain ⟨ih0, ih1, ih2⟩ := ratlineref18_Cost.mono_l k
    refine ⟨?_, ?_, ?_⟩
    · intro y0 y1 y2
      unfold ratlineref18_Cost.l0
      repeat' first
      | (with_reducible exact ih0 _ _ _)
      | (with_reducible exact ih1 _ _ _ _ _ _)
      | (with_reducible exact ih2 _ _ _ _ _ _ _)
      | (with_reducible exact ratlineref18_source.mono _ _ _)
      | (with_reducible exact LeO.refl _)
      | (with_reducible exact LeO.none _)
      | (with_reducible refine LeO.ite ?_ ?_)
      | (with_reducible refine LeO.bind ?_ (fun _ => ?_))
      | exact ih0 _ _ _
      | exact ih1 _ _ _ _ _ _
      | exact ih2 _ _ _ _ _ _ _
      | exact ratlineref18_source.mono _ _ _
      | exact LeO.none _
      | refine LeO.ite ?_ ?_
      | refine LeO.bind ?_ (fun _ => ?_)
    · intro y0 y1 y2 y3 y4 y5
      unfold ratlineref18_Cost.l1
      repeat' first
      | (with_reducible exact ih0 _ _ _)
      | (with_reducible exact ih1 _ _ _ _ _ _)
      | (with_reducible exact ih2 _ _ _ _ _ _ _)
      | (with_reducible exact ratlineref18_source.mono _ _ _)
      | (with_reducible exact LeO.refl _)
      | (with_reducible exact LeO.none _)
      | (with_reducible refine LeO.ite ?_ ?_)
      | (with_reducible refine LeO.bind ?_ (fun _ => ?_))
      | exact ih0 _ _ _
      | exact ih1 _ _ _ _ _ _
      | exact ih2 _ _ _ _ _ _ _
      | exact ratlineref18_source.mono _ _ _
      | exact LeO.none _
      | refine LeO.ite ?_ ?_
      | refine LeO.bind ?_ (fun _ => ?_)
    · intro y0 y1 y2 y3 y4 y5 y6
      unfold ratlineref18_Cost.j2
      repeat' first
      | (with_reducible exact ih0 _ _ _)
      | (with_reducible exact ih1 _ _ _ _ _ _)
      | (with_reducible exact ih2 _ _ _ _ _ _ _)
      | (with_reducible exact ratlineref18_source.mono _ _ _)
      | (with_reducible exact LeO.refl _)
      | (with_reducible exact LeO.none _)
      | (with_reducible refine LeO.ite ?_ ?_)
      | (with_reducible refine LeO.bind ?_ (fun _ => ?_))
      | exact ih0 _ _ _
      | exact ih1 _ _ _ _ _ _
      | exact ih2 _ _ _ _ _ _ _
      | exact ratlineref18_source.mono _ _ _
      | exact LeO.none _
      | refine LeO.ite ?_ ?_
      | refine LeO.bind ?_ (fun _ => ?_)
theorem ratlineref18_Cost.mono : ∀ a0 k, LeO (ratlineref18_Cost.f k a0) (ratlineref18_Cost.f (k + 1) a0) := by
  intro a0 k
  obtain ⟨ih0, ih1, ih2⟩ := ratlineref18_Cost.mono_l k
  unfold ratlineref18_Cost.f
  repeat' first
      | (with_reducible exact ih0 _ _ _)
      | (with_reducible exact ih1 _ _ _ _ _ _)
      | (with_reducible exact ih2 _ _ _ _ _ _ _)
      | (with_reducible exact ratlineref18_source.mono _ _ _)
      | (with_reducible exact LeO.refl _)
      | (with_reducible exact LeO.none _)
      | (with_reducible refine LeO.ite ?_ ?_)
      | (with_reducible refine LeO.bind ?_ (fun _ => ?_))
      | exact ih0 _ _ _
      | exact ih1 _ _ _ _ _ _
      | exact ih2 _ _ _ _ _ _ _
      | exact ratlineref18_source.mono _ _ _
      | exact LeO.none _
      | refine LeO.ite ?_ ?_
      | refine LeO.bind ?_ (fun _ => ?_)
set_option maxHeartbeats 8000000 in
set_option maxRecDepth 100000 in
theorem ratlineref18_Cost.calls (k : Nat) (A0 : Option Addr) (c0 : Nat) (l0 : List (S35)) (r : Int) (w : World) (hr0 : Kd.C k35 w A0 l0.length l0) (hc0 : l0.length ≤ c0) (h : ratlineref18_Cost.f k l0 = some r) :
    Calls Try.prog 10 #[.slice A0 l0.length c0] w fun e w' => e = .returned (.int .i64 r) ∧ Below w.heap.size w w' := by
  have HR0 := Aside0.mk hr0
  have HC0 := Aside0.mk hc0
  clear hr0 hc0
  have HB := Aside0.mk (Below.refl w.heap.size w)
  have H : (ratlineref18_Cost.l0 k l0 0 0) = some r := h
  clear h
  have H' := Aside0.mk H
  clear H
  go_enter Try.func10, Try.ntmps10
  go_wp2
  repeat (go_quiet (fail); try go_wp2)
  go_loopg [3, 4] k (fun kq v3 v4 w' => ∃ (x3_1 : Int) (x4_1 : Int), v3 = .int .i64 x3_1 ∧ v4 = .int .i64 x4_1 ∧ Aside0 (ratlineref18_Cost.l0 kq l0 x3_1 x4_1 = some r) ∧ Aside0 (kq ≤ k) ∧ Aside0 (Below w.heap.size w w'))
  case atStart => exact ⟨(0), (0), (by first | rfl | (simp; done) | (simp [*]; done)), (by first | rfl | (simp; done) | (simp [*]; done)), H', ⟨Nat.le_refl _⟩, ⟨by repeat (first | (with_reducible first | exact HB.out | apply below_alloc | apply pw_below_drewN | apply below_drew1) | exact HB.out)⟩⟩
  case round =>
    clear H'
    try clear c1
    obtain ⟨x3_1, x4_1, rfl, rfl, HA, HK1, HB⟩ := hrel
    cases gk with
    | zero => exact absurd HA.out (by simp [ratlineref18_Cost.l0])
    | succ k1 =>
      have H := HA.out
      clear HA
      simp only [ratlineref18_Cost.l0] at H
      by_cases c2 : x4_1 < (l0.length : Int)
      · rw [if_pos c2] at H
        have c2b0 : decide (x4_1 < (l0.length : Int)) = true := decide_eq_true c2
        clear c2
        by_cases c3 : 0 ≤ x4_1
        · rw [if_pos c3] at H
          have c3b0 : decide (0 ≤ x4_1) = true := decide_eq_true c3
          clear c3
          by_cases c4 : ((rd_T35 l0 x4_1).f0) = ((rd_T35 l0 x4_1).f1)
          · rw [if_pos c4] at H
            have c4b0 : (((rd_T35 l0 x4_1).f0) == ((rd_T35 l0 x4_1).f1)) = true := beq_iff_eq.mpr c4
            have c4b1 : (((rd_T35 l0 x4_1).f0) != ((rd_T35 l0 x4_1).f1)) = false := bne_eq_false_iff_eq.mpr c4
            clear c4
            have H' := Aside0.mk H
            clear H
            have p157 : 0 ≤ (x4_1 : Int) := of_decide_eq_true (by first | (with_reducible assumption) | assumption)
            have q157 : x4_1 < (l0.length : Int) := of_decide_eq_true (by first | (with_reducible assumption) | assumption)
            obtain ⟨ad157, e157, hx157_0, hx157_1⟩ := at_T35 HR0.out x4_1 p157 q157
            cases e157
            replace hx157_0 := (HB.out.cell (World.block_lt_of_cell? w _ hx157_0)).trans hx157_0
            replace hx157_1 := (HB.out.cell (World.block_lt_of_cell? w _ hx157_1)).trans hx157_1
            replace p157 := eq_true p157
            replace q157 := eq_true q157
            have p158 : 0 ≤ (x4_1 : Int) := of_decide_eq_true (by first | (with_reducible assumption) | assumption)
            have q158 : x4_1 < (l0.length : Int) := of_decide_eq_true (by first | (with_reducible assumption) | assumption)
            obtain ⟨ad158, e158, hx158_0, hx158_1⟩ := at_T35 HR0.out x4_1 p158 q158
            obtain rfl : ad157 = ad158 := (by injection e158)
            replace hx158_0 := (HB.out.cell (World.block_lt_of_cell? w _ hx158_0)).trans hx158_0
            replace hx158_1 := (HB.out.cell (World.block_lt_of_cell? w _ hx158_1)).trans hx158_1
            replace p158 := eq_true p158
            replace q158 := eq_true q158
            go_wp2
            repeat (go_quiet (fail); try go_wp2)
            go_roundg k1
            case measure => have := HK1.out; omega
            case rel => exact ⟨(x3_1), (wrap64 (x4_1 + 1)), (by first | rfl | (simp; done) | (simp [*]; done)), (by first | rfl | (simp; done) | (simp [*]; done)), H', ⟨by have := HK1.out; omega⟩, ⟨by repeat (first | (with_reducible first | exact HB.out | apply below_alloc | apply pw_below_drewN | apply below_drew1) | exact HB.out)⟩⟩
          · rw [if_neg c4] at H
            have c4b0 : (((rd_T35 l0 x4_1).f0) == ((rd_T35 l0 x4_1).f1)) = false := beq_eq_false_iff_ne.mpr c4
            have c4b1 : (((rd_T35 l0 x4_1).f0) != ((rd_T35 l0 x4_1).f1)) = true := bne_iff_ne.mpr c4
            have H' := Aside0.mk H
            clear H
            have p157 : 0 ≤ (x4_1 : Int) := of_decide_eq_true (by first | (with_reducible assumption) | assumption)
            have q157 : x4_1 < (l0.length : Int) := of_decide_eq_true (by first | (with_reducible assumption) | assumption)
            obtain ⟨ad157, e157, hx157_0, hx157_1⟩ := at_T35 HR0.out x4_1 p157 q157
            cases e157
            replace hx157_0 := (HB.out.cell (World.block_lt_of_cell? w _ hx157_0)).trans hx157_0
            replace hx157_1 := (HB.out.cell (World.block_lt_of_cell? w _ hx157_1)).trans hx157_1
            replace p157 := eq_true p157
            replace q157 := eq_true q157
            have p158 : 0 ≤ (x4_1 : Int) := of_decide_eq_true (by first | (with_reducible assumption) | assumption)
            have q158 : x4_1 < (l0.length : Int) := of_decide_eq_true (by first | (with_reducible assumption) | assumption)
            obtain ⟨ad158, e158, hx158_0, hx158_1⟩ := at_T35 HR0.out x4_1 p158 q158
            obtain rfl : ad157 = ad158 := (by injection e158)
            replace hx158_0 := (HB.out.cell (World.block_lt_of_cell? w _ hx158_0)).trans hx158_0
            replace hx158_1 := (HB.out.cell (World.block_lt_of_cell? w _ hx158_1)).trans hx158_1
            replace p158 := eq_true p158
            replace q158 := eq_true q158
            have p159 : 0 ≤ (x4_1 : Int) := of_decide_eq_true (by first | (with_reducible assumption) | assumption)
            have q159 : x4_1 < (l0.length : Int) := of_decide_eq_true (by first | (with_reducible assumption) | assumption)
            obtain ⟨ad159, e159, hx159_0, hx159_1⟩ := at_T35 HR0.out x4_1 p159 q159
            obtain rfl : ad157 = ad159 := (by injection e159)
            replace hx159_0 := (HB.out.cell (World.block_lt_of_cell? w _ hx159_0)).trans hx159_0
            replace hx159_1 := (HB.out.cell (World.block_lt_of_cell? w _ hx159_1)).trans hx159_1
            replace p159 := eq_true p159
            replace q159 := eq_true q159
            have p160 : 0 ≤ (x4_1 : Int) := of_decide_eq_true (by first | (with_reducible assumption) | assumption)
            have q160 : x4_1 < (l0.length : Int) := of_decide_eq_true (by first | (with_reducible assumption) | assumption)
            obtain ⟨ad160, e160, hx160_0, hx160_1⟩ := at_T35 HR0.out x4_1 p160 q160
            obtain rfl : ad157 = ad160 := (by injection e160)
            replace hx160_0 := (HB.out.cell (World.block_lt_of_cell? w _ hx160_0)).trans hx160_0
            replace hx160_1 := (HB.out.cell (World.block_lt_of_cell? w _ hx160_1)).trans hx160_1
            replace p160 := eq_true p160
            replace q160 := eq_true q160
            go_wp2
            repeat (go_quiet (fail); try go_wp2)
            go_loopg [5, 6, 7] k1 (fun kq v5 v6 v7 w' => ∃ (x5_2 : Int) (x6_2 : Int) (x7_2 : Int), v5 = .int .i64 x5_2 ∧ v6 = .int .i64 x6_2 ∧ v7 = .int .i64 x7_2 ∧ Aside0 (ratlineref18_Cost.l1 kq l0 (wrap64 (x3_1 + 1)) x4_1 x5_2 x6_2 x7_2 = some r) ∧ Aside0 (kq ≤ k1) ∧ Aside0 (Below w.heap.size w w'))
            case atStart => exact ⟨((rd_T35 l0 x4_1).f0), ((rd_T35 l0 x4_1).f1), (1), (by first | rfl | (simp; done) | (simp [*]; done)), (by first | rfl | (simp; done) | (simp [*]; done)), (by first | rfl | (simp; done) | (simp [*]; done)), H', ⟨Nat.le_refl _⟩, ⟨by repeat (first | (with_reducible first | exact HB.out | apply below_alloc | apply pw_below_drewN | apply below_drew1) | exact HB.out)⟩⟩
            case round =>
              clear H'
              try clear c1
              try clear p1
              try clear q1
              try clear hx1
              try clear c2
              try clear c2b0
              try clear p2
              try clear c3
              try clear c3b0
              try clear c4
              try clear c4b0
              try clear c4b1
              try clear hx157_0
              try clear hx157_1
              try clear hx158_0
              try clear hx158_1
              try clear hx159_0
              try clear hx159_1
              try clear hx160_0
              try clear hx160_1
              try clear p157
              try clear p158
              try clear p159
              try clear p160
              try clear q157
              try clear q158
              try clear q159
              try clear q160
              obtain ⟨x5_2, x6_2, x7_2, rfl, rfl, rfl, HA, HK2, HB⟩ := hrel
              cases gk with
              | zero => exact absurd HA.out (by simp [ratlineref18_Cost.l1])
              | succ k2 =>
                have H := HA.out
                clear HA
                simp only [ratlineref18_Cost.l1] at H
                have HC5 := Aside0.mk H
                clear H
                go_upto_region 8 with (fail)
                repeat (go_quiet (fail); go_upto_region 8 with (fail))
                go_cut [51] (fun v51 wc => ∃ (kq : Nat) (x51_4 : Bool), v51 = .bool x51_4 ∧ Aside0 (ratlineref18_Cost.j2 kq l0 (wrap64 (x3_1 + 1)) x4_1 x5_2 x6_2 x7_2 x51_4 = some r) ∧ Aside0 (kq ≤ k2) ∧ Aside0 (Below w.heap.size w wc))
                case first =>
                  have H := HC5.out
                  clear HC5
                  by_cases c6 : 0 ≤ x4_1
                  · rw [if_pos c6] at H
                    have c6b0 : decide (0 ≤ x4_1) = true := decide_eq_true c6
                    clear c6
                    (first | rw [c6b0] | (simp only [i64_w, i32_w]; rw [c6b0]) | skip)
                    by_cases c7 : x4_1 < (l0.length : Int)
                    · rw [if_pos c7] at H
                      have c7b0 : decide (x4_1 < (l0.length : Int)) = true := decide_eq_true c7
                      clear c7
                      by_cases c8 : x6_2 = ((rd_T35 l0 x4_1).f0)
                      · rw [if_pos c8] at H
                        have c8b0 : (x6_2 == ((rd_T35 l0 x4_1).f0)) = true := beq_iff_eq.mpr c8
                        have c8b1 : (x6_2 != ((rd_T35 l0 x4_1).f0)) = false := bne_eq_false_iff_eq.mpr c8
                        clear c8
                        have H' := Aside0.mk H
                        clear H
                        have p161 : 0 ≤ (x4_1 : Int) := of_decide_eq_true (by first | (with_reducible assumption) | assumption)
                        have q161 : x4_1 < (l0.length : Int) := of_decide_eq_true (by first | (with_reducible assumption) | assumption)
                        obtain ⟨ad161, e161, hx161_0, hx161_1⟩ := at_T35 HR0.out x4_1 p161 q161
                        obtain rfl : ad157 = ad161 := (by injection e161)
                        replace hx161_0 := (HB.out.cell (World.block_lt_of_cell? w _ hx161_0)).trans hx161_0
                        replace hx161_1 := (HB.out.cell (World.block_lt_of_cell? w _ hx161_1)).trans hx161_1
                        replace p161 := eq_true p161
                        replace q161 := eq_true q161
                        go_wp2
                        repeat (go_quiet (fail); try go_wp2)
                        go_meet
                        case rel => exact ⟨_, (false), (by first | rfl | (simp; done) | (simp [*]; done)), H', ⟨by have := HK1.out; have := HK2.out; first | omega | exact Nat.le_refl _⟩, ⟨by repeat (first | (with_reducible first | exact HB.out | apply below_alloc | apply pw_below_drewN | apply below_drew1) | exact HB.out)⟩⟩
                      · rw [if_neg c8] at H
                        have c8b0 : (x6_2 == ((rd_T35 l0 x4_1).f0)) = false := beq_eq_false_iff_ne.mpr c8
                        have c8b1 : (x6_2 != ((rd_T35 l0 x4_1).f0)) = true := bne_iff_ne.mpr c8
                        have H' := Aside0.mk H
                        clear H
                        have p161 : 0 ≤ (x4_1 : Int) := of_decide_eq_true (by first | (with_reducible assumption) | assumption)
                        have q161 : x4_1 < (l0.length : Int) := of_decide_eq_true (by first | (with_reducible assumption) | assumption)
                        obtain ⟨ad161, e161, hx161_0, hx161_1⟩ := at_T35 HR0.out x4_1 p161 q161
                        obtain rfl : ad157 = ad161 := (by injection e161)
                        replace hx161_0 := (HB.out.cell (World.block_lt_of_cell? w _ hx161_0)).trans hx161_0
                        replace hx161_1 := (HB.out.cell (World.block_lt_of_cell? w _ hx161_1)).trans hx161_1
                        replace p161 := eq_true p161
                        replace q161 := eq_true q161
                        go_wp2
                        repeat (go_quiet (fail); try go_wp2)
                        go_meet
                        case rel => exact ⟨_, (decide (x7_2 ≤ (l0.length : Int))), (by first | rfl | (simp; done) | (simp [*]; done)), H', ⟨by have := HK1.out; have := HK2.out; first | omega | exact Nat.le_refl _⟩, ⟨by repeat (first | (with_reducible first | exact HB.out | apply below_alloc | apply pw_below_drewN | apply below_drew1) | exact HB.out)⟩⟩
                    · rw [if_neg c7] at H
                      exact absurd H (by simp)
                  · rw [if_neg c6] at H
                    exact absurd H (by simp)
                case rest =>
                  clear HC5
                  try clear c1
                  try clear p1
                  try clear q1
                  try clear hx1
                  try clear c2
                  try clear c2b0
                  try clear p2
                  try clear c3
                  try clear c3b0
                  try clear c4
                  try clear c4b0
                  try clear c4b1
                  try clear c6
                  try clear c6b0
                  try clear p6
                  try clear c7
                  try clear c7b0
                  try clear c8
                  try clear c8b0
                  try clear c8b1
                  try clear hx157_0
                  try clear hx157_1
                  try clear hx158_0
                  try clear hx158_1
                  try clear hx159_0
                  try clear hx159_1
                  try clear hx160_0
                  try clear hx160_1
                  try clear hx161_0
                  try clear hx161_1
                  try clear p1
                  try clear p157
                  try clear p158
                  try clear p159
                  try clear p160
                  try clear p161
                  try clear p2
                  try clear q1
                  try clear q157
                  try clear q158
                  try clear q159
                  try clear q160
                  try clear q161
                  obtain ⟨kq, x51_4, rfl, HA, HJ4, HB⟩ := hcut
                  cases kq with
                  | zero => exact absurd HA.out (by simp [ratlineref18_Cost.j2])
                  | succ kj4 =>
                    have H := HA.out
                    clear HA
                    simp only [ratlineref18_Cost.j2] at H
                    by_cases c9 : x51_4 = true
                    · subst c9
                      have H1 : ((ratlineref18_source.f kj4 l0 x6_2).bind fun bt162 => (if bt162.2 = true then (ratlineref18_Cost.l1 kj4 l0 (wrap64 (x3_1 + 1)) x4_1 (mn x5_2 x6_2) bt162.1 (wrap64 (x7_2 + 1))) else (if 0 ≤ x4_1 then (if x4_1 < (l0.length : Int) then (if x6_2 = ((rd_T35 l0 x4_1).f0) then (if (mn x5_2 x6_2) = ((rd_T35 l0 x4_1).f0) then (ratlineref18_Cost.l0 kj4 l0 (wrap64 ((wrap64 (x3_1 + 1)) + 1)) (wrap64 (x4_1 + 1))) else (ratlineref18_Cost.l0 kj4 l0 (wrap64 (x3_1 + 1)) (wrap64 (x4_1 + 1)))) else (ratlineref18_Cost.l0 kj4 l0 (wrap64 (x3_1 + 1)) (wrap64 (x4_1 + 1)))) else (none)) else (none)))) = some r := by rw [if_pos rfl] at H; exact H
                      clear H
                      have H := H1
                      clear H1
                      obtain ⟨ji10, hji10⟩ : ∃ j_ : Int, (mn x5_2 x6_2) = j_ := ⟨_, rfl⟩
                      replace H : ((ratlineref18_source.f kj4 l0 x6_2).bind fun bt162 => (if bt162.2 = true then (ratlineref18_Cost.l1 kj4 l0 (wrap64 (x3_1 + 1)) x4_1 ji10 bt162.1 (wrap64 (x7_2 + 1))) else (if 0 ≤ x4_1 then (if x4_1 < (l0.length : Int) then (if x6_2 = ((rd_T35 l0 x4_1).f0) then (if (ji10) = ((rd_T35 l0 x4_1).f0) then (ratlineref18_Cost.l0 kj4 l0 (wrap64 ((wrap64 (x3_1 + 1)) + 1)) (wrap64 (x4_1 + 1))) else (ratlineref18_Cost.l0 kj4 l0 (wrap64 (x3_1 + 1)) (wrap64 (x4_1 + 1)))) else (ratlineref18_Cost.l0 kj4 l0 (wrap64 (x3_1 + 1)) (wrap64 (x4_1 + 1)))) else (none)) else (none)))) = some r := by first | (rw [hji10] at H; exact H) | (simp only [hji10] at H ⊢; exact H)
                      have hji10_ : (if x6_2 < x5_2 then x6_2 else x5_2) = ji10 := hji10
                      replace H := Option.bind_eq_some_iff.mp H
                      obtain ⟨⟨t162, t163⟩, A110, H⟩ := H
                      replace H : (if t163 = true then (ratlineref18_Cost.l1 kj4 l0 (wrap64 (x3_1 + 1)) x4_1 ji10 t162 (wrap64 (x7_2 + 1))) else (if 0 ≤ x4_1 then (if x4_1 < (l0.length : Int) then (if x6_2 = ((rd_T35 l0 x4_1).f0) then (if (ji10) = ((rd_T35 l0 x4_1).f0) then (ratlineref18_Cost.l0 kj4 l0 (wrap64 ((wrap64 (x3_1 + 1)) + 1)) (wrap64 (x4_1 + 1))) else (ratlineref18_Cost.l0 kj4 l0 (wrap64 (x3_1 + 1)) (wrap64 (x4_1 + 1)))) else (ratlineref18_Cost.l0 kj4 l0 (wrap64 (x3_1 + 1)) (wrap64 (x4_1 + 1)))) else (none)) else (none))) = some r := H
                      have A11 := Aside0.mk A110
                      clear A110
                      by_cases c12 : t163 = true
                      · subst c12
                        have H1 : (ratlineref18_Cost.l1 kj4 l0 (wrap64 (x3_1 + 1)) x4_1 ji10 t162 (wrap64 (x7_2 + 1))) = some r := by rw [if_pos rfl] at H; exact H
                        clear H
                        have H := H1
                        clear H1
                        have H' := Aside0.mk H
                        clear H
                        go_wp2_with (first | (go_at_call 20; (with_reducible refine (ratlineref18_source.calls kj4 _ _ l0 x6_2 t162 true _ ?side1 ?side2 A11.out).mono ?_); (case side1 => repeat (first | exact (Kd.C_below HR0.out HB.out) | (with_reducible refine Kd.C_alloc ?_ _) | (with_reducible refine Kd.C_drewN ?_ _) | (with_reducible refine Kd.C_drew ?_))); (case side2 => exact HC0.out); rintro e w' ⟨rfl, ⟨nd, rfl⟩⟩; (try first | exact ⟨rfl, _, World.drewN_drewN _ _ _⟩ | exact ⟨rfl, _, Eq.trans (World.drewN_drewN _ _ _) (congrArg (World.drewN _) (Nat.add_assoc _ _ _))⟩)))
                        repeat (go_quiet (first | (go_at_call 20; (with_reducible refine (ratlineref18_source.calls kj4 _ _ l0 x6_2 t162 true _ ?side1 ?side2 A11.out).mono ?_); (case side1 => repeat (first | exact (Kd.C_below HR0.out HB.out) | (with_reducible refine Kd.C_alloc ?_ _) | (with_reducible refine Kd.C_drewN ?_ _) | (with_reducible refine Kd.C_drew ?_))); (case side2 => exact HC0.out); rintro e w' ⟨rfl, ⟨nd, rfl⟩⟩; (try first | exact ⟨rfl, _, World.drewN_drewN _ _ _⟩ | exact ⟨rfl, _, Eq.trans (World.drewN_drewN _ _ _) (congrArg (World.drewN _) (Nat.add_assoc _ _ _))⟩))); try go_wp2_with (first | (go_at_call 20; (with_reducible refine (ratlineref18_source.calls kj4 _ _ l0 x6_2 t162 true _ ?side1 ?side2 A11.out).mono ?_); (case side1 => repeat (first | exact (Kd.C_below HR0.out HB.out) | (with_reducible refine Kd.C_alloc ?_ _) | (with_reducible refine Kd.C_drewN ?_ _) | (with_reducible refine Kd.C_drew ?_))); (case side2 => exact HC0.out); rintro e w' ⟨rfl, ⟨nd, rfl⟩⟩; (try first | exact ⟨rfl, _, World.drewN_drewN _ _ _⟩ | exact ⟨rfl, _, Eq.trans (World.drewN_drewN _ _ _) (congrArg (World.drewN _) (Nat.add_assoc _ _ _))⟩))))
                        go_roundg kj4
                        case measure => have := HK1.out; have := HK2.out; have := HJ4.out; omega
                        case rel => exact ⟨(ji10), (t162), (wrap64 (x7_2 + 1)), (by first | rfl | (simp; done) | (simp only [← hji10] <;> (first | rfl | simp)) | (simp [*]; done)), (by first | rfl | (simp; done) | (simp [*]; done)), (by first | rfl | (simp; done) | (simp [*]; done)), H', ⟨by have := HK1.out; have := HK2.out; have := HJ4.out; omega⟩, ⟨by repeat (first | (with_reducible first | exact HB.out | apply below_alloc | apply pw_below_drewN | apply below_drew1) | exact HB.out)⟩⟩
                      · replace c12 := Bool.eq_false_iff.mpr c12
                        subst c12
                        have H1 : (if 0 ≤ x4_1 then (if x4_1 < (l0.length : Int) then (if x6_2 = ((rd_T35 l0 x4_1).f0) then (if (ji10) = ((rd_T35 l0 x4_1).f0) then (ratlineref18_Cost.l0 kj4 l0 (wrap64 ((wrap64 (x3_1 + 1)) + 1)) (wrap64 (x4_1 + 1))) else (ratlineref18_Cost.l0 kj4 l0 (wrap64 (x3_1 + 1)) (wrap64 (x4_1 + 1)))) else (ratlineref18_Cost.l0 kj4 l0 (wrap64 (x3_1 + 1)) (wrap64 (x4_1 + 1)))) else (none)) else (none)) = some r := by rw [if_neg (show ¬ (false = true) by decide)] at H; exact H
                        clear H
                        have H := H1
                        clear H1
                        by_cases c13 : 0 ≤ x4_1
                        · rw [if_pos c13] at H
                          have c13b0 : decide (0 ≤ x4_1) = true := decide_eq_true c13
                          clear c13
                          by_cases c14 : x4_1 < (l0.length : Int)
                          · rw [if_pos c14] at H
                            have c14b0 : decide (x4_1 < (l0.length : Int)) = true := decide_eq_true c14
                            clear c14
                            by_cases c15 : x6_2 = ((rd_T35 l0 x4_1).f0)
                            · rw [if_pos c15] at H
                              have c15b0 : (x6_2 == ((rd_T35 l0 x4_1).f0)) = true := beq_iff_eq.mpr c15
                              have c15b1 : (x6_2 != ((rd_T35 l0 x4_1).f0)) = false := bne_eq_false_iff_eq.mpr c15
                              clear c15
                              by_cases c16 : (ji10) = ((rd_T35 l0 x4_1).f0)
                              · rw [if_pos c16] at H
                                have c16b0 : ((ji10) == ((rd_T35 l0 x4_1).f0)) = true := beq_iff_eq.mpr c16
                                have c16b1 : ((ji10) != ((rd_T35 l0 x4_1).f0)) = false := bne_eq_false_iff_eq.mpr c16
                                clear c16
                                have H' := Aside0.mk H
                                clear H
                                go_wp2_with (first | (go_at_call 20; (with_reducible refine (ratlineref18_source.calls kj4 _ _ l0 x6_2 t162 false _ ?side1 ?side2 A11.out).mono ?_); (case side1 => repeat (first | exact (Kd.C_below HR0.out HB.out) | (with_reducible refine Kd.C_alloc ?_ _) | (with_reducible refine Kd.C_drewN ?_ _) | (with_reducible refine Kd.C_drew ?_))); (case side2 => exact HC0.out); rintro e w' ⟨rfl, ⟨nd, rfl⟩⟩; (try first | exact ⟨rfl, _, World.drewN_drewN _ _ _⟩ | exact ⟨rfl, _, Eq.trans (World.drewN_drewN _ _ _) (congrArg (World.drewN _) (Nat.add_assoc _ _ _))⟩); have p164 : 0 ≤ (x4_1 : Int) := of_decide_eq_true (by first | (with_reducible assumption) | assumption); have q164 : x4_1 < (l0.length : Int) := of_decide_eq_true (by first | (with_reducible assumption) | assumption); obtain ⟨ad164, e164, hx164_0, hx164_1⟩ := at_T35 HR0.out x4_1 p164 q164; obtain rfl : ad157 = ad164 := (by injection e164); replace hx164_0 := (HB.out.cell (World.block_lt_of_cell? w _ hx164_0)).trans hx164_0; replace hx164_1 := (HB.out.cell (World.block_lt_of_cell? w _ hx164_1)).trans hx164_1; replace p164 := eq_true p164; replace q164 := eq_true q164; have p165 : 0 ≤ (x4_1 : Int) := of_decide_eq_true (by first | (with_reducible assumption) | assumption); have q165 : x4_1 < (l0.length : Int) := of_decide_eq_true (by first | (with_reducible assumption) | assumption); obtain ⟨ad165, e165, hx165_0, hx165_1⟩ := at_T35 HR0.out x4_1 p165 q165; obtain rfl : ad157 = ad165 := (by injection e165); replace hx165_0 := (HB.out.cell (World.block_lt_of_cell? w _ hx165_0)).trans hx165_0; replace hx165_1 := (HB.out.cell (World.block_lt_of_cell? w _ hx165_1)).trans hx165_1; replace p165 := eq_true p165; replace q165 := eq_true q165))
                                repeat (go_quiet (first | (go_at_call 20; (with_reducible refine (ratlineref18_source.calls kj4 _ _ l0 x6_2 t162 false _ ?side1 ?side2 A11.out).mono ?_); (case side1 => repeat (first | exact (Kd.C_below HR0.out HB.out) | (with_reducible refine Kd.C_alloc ?_ _) | (with_reducible refine Kd.C_drewN ?_ _) | (with_reducible refine Kd.C_drew ?_))); (case side2 => exact HC0.out); rintro e w' ⟨rfl, ⟨nd, rfl⟩⟩; (try first | exact ⟨rfl, _, World.drewN_drewN _ _ _⟩ | exact ⟨rfl, _, Eq.trans (World.drewN_drewN _ _ _) (congrArg (World.drewN _) (Nat.add_assoc _ _ _))⟩); have p164 : 0 ≤ (x4_1 : Int) := of_decide_eq_true (by first | (with_reducible assumption) | assumption); have q164 : x4_1 < (l0.length : Int) := of_decide_eq_true (by first | (with_reducible assumption) | assumption); obtain ⟨ad164, e164, hx164_0, hx164_1⟩ := at_T35 HR0.out x4_1 p164 q164; obtain rfl : ad157 = ad164 := (by injection e164); replace hx164_0 := (HB.out.cell (World.block_lt_of_cell? w _ hx164_0)).trans hx164_0; replace hx164_1 := (HB.out.cell (World.block_lt_of_cell? w _ hx164_1)).trans hx164_1; replace p164 := eq_true p164; replace q164 := eq_true q164; have p165 : 0 ≤ (x4_1 : Int) := of_decide_eq_true (by first | (with_reducible assumption) | assumption); have q165 : x4_1 < (l0.length : Int) := of_decide_eq_true (by first | (with_reducible assumption) | assumption); obtain ⟨ad165, e165, hx165_0, hx165_1⟩ := at_T35 HR0.out x4_1 p165 q165; obtain rfl : ad157 = ad165 := (by injection e165); replace hx165_0 := (HB.out.cell (World.block_lt_of_cell? w _ hx165_0)).trans hx165_0; replace hx165_1 := (HB.out.cell (World.block_lt_of_cell? w _ hx165_1)).trans hx165_1; replace p165 := eq_true p165; replace q165 := eq_true q165)); try go_wp2_with (first | (go_at_call 20; (with_reducible refine (ratlineref18_source.calls kj4 _ _ l0 x6_2 t162 false _ ?side1 ?side2 A11.out).mono ?_); (case side1 => repeat (first | exact (Kd.C_below HR0.out HB.out) | (with_reducible refine Kd.C_alloc ?_ _) | (with_reducible refine Kd.C_drewN ?_ _) | (with_reducible refine Kd.C_drew ?_))); (case side2 => exact HC0.out); rintro e w' ⟨rfl, ⟨nd, rfl⟩⟩; (try first | exact ⟨rfl, _, World.drewN_drewN _ _ _⟩ | exact ⟨rfl, _, Eq.trans (World.drewN_drewN _ _ _) (congrArg (World.drewN _) (Nat.add_assoc _ _ _))⟩); have p164 : 0 ≤ (x4_1 : Int) := of_decide_eq_true (by first | (with_reducible assumption) | assumption); have q164 : x4_1 < (l0.length : Int) := of_decide_eq_true (by first | (with_reducible assumption) | assumption); obtain ⟨ad164, e164, hx164_0, hx164_1⟩ := at_T35 HR0.out x4_1 p164 q164; obtain rfl : ad157 = ad164 := (by injection e164); replace hx164_0 := (HB.out.cell (World.block_lt_of_cell? w _ hx164_0)).trans hx164_0; replace hx164_1 := (HB.out.cell (World.block_lt_of_cell? w _ hx164_1)).trans hx164_1; replace p164 := eq_true p164; replace q164 := eq_true q164; have p165 : 0 ≤ (x4_1 : Int) := of_decide_eq_true (by first | (with_reducible assumption) | assumption); have q165 : x4_1 < (l0.length : Int) := of_decide_eq_true (by first | (with_reducible assumption) | assumption); obtain ⟨ad165, e165, hx165_0, hx165_1⟩ := at_T35 HR0.out x4_1 p165 q165; obtain rfl : ad157 = ad165 := (by injection e165); replace hx165_0 := (HB.out.cell (World.block_lt_of_cell? w _ hx165_0)).trans hx165_0; replace hx165_1 := (HB.out.cell (World.block_lt_of_cell? w _ hx165_1)).trans hx165_1; replace p165 := eq_true p165; replace q165 := eq_true q165)))
                                go_roundg kj4
                                case measure => have := HK1.out; have := HK2.out; have := HJ4.out; omega
                                case rel => exact ⟨(wrap64 ((wrap64 (x3_1 + 1)) + 1)), (wrap64 (x4_1 + 1)), (by first | rfl | (simp; done) | (simp [*]; done)), (by first | rfl | (simp; done) | (simp [*]; done)), H', ⟨by have := HK1.out; have := HK2.out; have := HJ4.out; omega⟩, ⟨by repeat (first | (with_reducible first | exact HB.out | apply below_alloc | apply pw_below_drewN | apply below_drew1) | exact HB.out)⟩⟩
                              · rw [if_neg c16] at H
                                have c16b0 : ((ji10) == ((rd_T35 l0 x4_1).f0)) = false := beq_eq_false_iff_ne.mpr c16
                                have c16b1 : ((ji10) != ((rd_T35 l0 x4_1).f0)) = true := bne_iff_ne.mpr c16
                                have H' := Aside0.mk H
                                clear H
                                go_wp2_with (first | (go_at_call 20; (with_reducible refine (ratlineref18_source.calls kj4 _ _ l0 x6_2 t162 false _ ?side1 ?side2 A11.out).mono ?_); (case side1 => repeat (first | exact (Kd.C_below HR0.out HB.out) | (with_reducible refine Kd.C_alloc ?_ _) | (with_reducible refine Kd.C_drewN ?_ _) | (with_reducible refine Kd.C_drew ?_))); (case side2 => exact HC0.out); rintro e w' ⟨rfl, ⟨nd, rfl⟩⟩; (try first | exact ⟨rfl, _, World.drewN_drewN _ _ _⟩ | exact ⟨rfl, _, Eq.trans (World.drewN_drewN _ _ _) (congrArg (World.drewN _) (Nat.add_assoc _ _ _))⟩); have p164 : 0 ≤ (x4_1 : Int) := of_decide_eq_true (by first | (with_reducible assumption) | assumption); have q164 : x4_1 < (l0.length : Int) := of_decide_eq_true (by first | (with_reducible assumption) | assumption); obtain ⟨ad164, e164, hx164_0, hx164_1⟩ := at_T35 HR0.out x4_1 p164 q164; obtain rfl : ad157 = ad164 := (by injection e164); replace hx164_0 := (HB.out.cell (World.block_lt_of_cell? w _ hx164_0)).trans hx164_0; replace hx164_1 := (HB.out.cell (World.block_lt_of_cell? w _ hx164_1)).trans hx164_1; replace p164 := eq_true p164; replace q164 := eq_true q164; have p165 : 0 ≤ (x4_1 : Int) := of_decide_eq_true (by first | (with_reducible assumption) | assumption); have q165 : x4_1 < (l0.length : Int) := of_decide_eq_true (by first | (with_reducible assumption) | assumption); obtain ⟨ad165, e165, hx165_0, hx165_1⟩ := at_T35 HR0.out x4_1 p165 q165; obtain rfl : ad157 = ad165 := (by injection e165); replace hx165_0 := (HB.out.cell (World.block_lt_of_cell? w _ hx165_0)).trans hx165_0; replace hx165_1 := (HB.out.cell (World.block_lt_of_cell? w _ hx165_1)).trans hx165_1; replace p165 := eq_true p165; replace q165 := eq_true q165))
                                repeat (go_quiet (first | (go_at_call 20; (with_reducible refine (ratlineref18_source.calls kj4 _ _ l0 x6_2 t162 false _ ?side1 ?side2 A11.out).mono ?_); (case side1 => repeat (first | exact (Kd.C_below HR0.out HB.out) | (with_reducible refine Kd.C_alloc ?_ _) | (with_reducible refine Kd.C_drewN ?_ _) | (with_reducible refine Kd.C_drew ?_))); (case side2 => exact HC0.out); rintro e w' ⟨rfl, ⟨nd, rfl⟩⟩; (try first | exact ⟨rfl, _, World.drewN_drewN _ _ _⟩ | exact ⟨rfl, _, Eq.trans (World.drewN_drewN _ _ _) (congrArg (World.drewN _) (Nat.add_assoc _ _ _))⟩); have p164 : 0 ≤ (x4_1 : Int) := of_decide_eq_true (by first | (with_reducible assumption) | assumption); have q164 : x4_1 < (l0.length : Int) := of_decide_eq_true (by first | (with_reducible assumption) | assumption); obtain ⟨ad164, e164, hx164_0, hx164_1⟩ := at_T35 HR0.out x4_1 p164 q164; obtain rfl : ad157 = ad164 := (by injection e164); replace hx164_0 := (HB.out.cell (World.block_lt_of_cell? w _ hx164_0)).trans hx164_0; replace hx164_1 := (HB.out.cell (World.block_lt_of_cell? w _ hx164_1)).trans hx164_1; replace p164 := eq_true p164; replace q164 := eq_true q164; have p165 : 0 ≤ (x4_1 : Int) := of_decide_eq_true (by first | (with_reducible assumption) | assumption); have q165 : x4_1 < (l0.length : Int) := of_decide_eq_true (by first | (with_reducible assumption) | assumption); obtain ⟨ad165, e165, hx165_0, hx165_1⟩ := at_T35 HR0.out x4_1 p165 q165; obtain rfl : ad157 = ad165 := (by injection e165); replace hx165_0 := (HB.out.cell (World.block_lt_of_cell? w _ hx165_0)).trans hx165_0; replace hx165_1 := (HB.out.cell (World.block_lt_of_cell? w _ hx165_1)).trans hx165_1; replace p165 := eq_true p165; replace q165 := eq_true q165)); try go_wp2_with (first | (go_at_call 20; (with_reducible refine (ratlineref18_source.calls kj4 _ _ l0 x6_2 t162 false _ ?side1 ?side2 A11.out).mono ?_); (case side1 => repeat (first | exact (Kd.C_below HR0.out HB.out) | (with_reducible refine Kd.C_alloc ?_ _) | (with_reducible refine Kd.C_drewN ?_ _) | (with_reducible refine Kd.C_drew ?_))); (case side2 => exact HC0.out); rintro e w' ⟨rfl, ⟨nd, rfl⟩⟩; (try first | exact ⟨rfl, _, World.drewN_drewN _ _ _⟩ | exact ⟨rfl, _, Eq.trans (World.drewN_drewN _ _ _) (congrArg (World.drewN _) (Nat.add_assoc _ _ _))⟩); have p164 : 0 ≤ (x4_1 : Int) := of_decide_eq_true (by first | (with_reducible assumption) | assumption); have q164 : x4_1 < (l0.length : Int) := of_decide_eq_true (by first | (with_reducible assumption) | assumption); obtain ⟨ad164, e164, hx164_0, hx164_1⟩ := at_T35 HR0.out x4_1 p164 q164; obtain rfl : ad157 = ad164 := (by injection e164); replace hx164_0 := (HB.out.cell (World.block_lt_of_cell? w _ hx164_0)).trans hx164_0; replace hx164_1 := (HB.out.cell (World.block_lt_of_cell? w _ hx164_1)).trans hx164_1; replace p164 := eq_true p164; replace q164 := eq_true q164; have p165 : 0 ≤ (x4_1 : Int) := of_decide_eq_true (by first | (with_reducible assumption) | assumption); have q165 : x4_1 < (l0.length : Int) := of_decide_eq_true (by first | (with_reducible assumption) | assumption); obtain ⟨ad165, e165, hx165_0, hx165_1⟩ := at_T35 HR0.out x4_1 p165 q165; obtain rfl : ad157 = ad165 := (by injection e165); replace hx165_0 := (HB.out.cell (World.block_lt_of_cell? w _ hx165_0)).trans hx165_0; replace hx165_1 := (HB.out.cell (World.block_lt_of_cell? w _ hx165_1)).trans hx165_1; replace p165 := eq_true p165; replace q165 := eq_true q165)))
                                go_roundg kj4
                                case measure => have := HK1.out; have := HK2.out; have := HJ4.out; omega
                                case rel => exact ⟨((wrap64 (x3_1 + 1))), (wrap64 (x4_1 + 1)), (by first | rfl | (simp; done) | (simp [*]; done)), (by first | rfl | (simp; done) | (simp [*]; done)), H', ⟨by have := HK1.out; have := HK2.out; have := HJ4.out; omega⟩, ⟨by repeat (first | (with_reducible first | exact HB.out | apply below_alloc | apply pw_below_drewN | apply below_drew1) | exact HB.out)⟩⟩
                            · rw [if_neg c15] at H
                              have c15b0 : (x6_2 == ((rd_T35 l0 x4_1).f0)) = false := beq_eq_false_iff_ne.mpr c15
                              have c15b1 : (x6_2 != ((rd_T35 l0 x4_1).f0)) = true := bne_iff_ne.mpr c15
                              have H' := Aside0.mk H
                              clear H
                              go_wp2_with (first | (go_at_call 20; (with_reducible refine (ratlineref18_source.calls kj4 _ _ l0 x6_2 t162 false _ ?side1 ?side2 A11.out).mono ?_); (case side1 => repeat (first | exact (Kd.C_below HR0.out HB.out) | (with_reducible refine Kd.C_alloc ?_ _) | (with_reducible refine Kd.C_drewN ?_ _) | (with_reducible refine Kd.C_drew ?_))); (case side2 => exact HC0.out); rintro e w' ⟨rfl, ⟨nd, rfl⟩⟩; (try first | exact ⟨rfl, _, World.drewN_drewN _ _ _⟩ | exact ⟨rfl, _, Eq.trans (World.drewN_drewN _ _ _) (congrArg (World.drewN _) (Nat.add_assoc _ _ _))⟩); have p164 : 0 ≤ (x4_1 : Int) := of_decide_eq_true (by first | (with_reducible assumption) | assumption); have q164 : x4_1 < (l0.length : Int) := of_decide_eq_true (by first | (with_reducible assumption) | assumption); obtain ⟨ad164, e164, hx164_0, hx164_1⟩ := at_T35 HR0.out x4_1 p164 q164; obtain rfl : ad157 = ad164 := (by injection e164); replace hx164_0 := (HB.out.cell (World.block_lt_of_cell? w _ hx164_0)).trans hx164_0; replace hx164_1 := (HB.out.cell (World.block_lt_of_cell? w _ hx164_1)).trans hx164_1; replace p164 := eq_true p164; replace q164 := eq_true q164))
                              repeat (go_quiet (first | (go_at_call 20; (with_reducible refine (ratlineref18_source.calls kj4 _ _ l0 x6_2 t162 false _ ?side1 ?side2 A11.out).mono ?_); (case side1 => repeat (first | exact (Kd.C_below HR0.out HB.out) | (with_reducible refine Kd.C_alloc ?_ _) | (with_reducible refine Kd.C_drewN ?_ _) | (with_reducible refine Kd.C_drew ?_))); (case side2 => exact HC0.out); rintro e w' ⟨rfl, ⟨nd, rfl⟩⟩; (try first | exact ⟨rfl, _, World.drewN_drewN _ _ _⟩ | exact ⟨rfl, _, Eq.trans (World.drewN_drewN _ _ _) (congrArg (World.drewN _) (Nat.add_assoc _ _ _))⟩); have p164 : 0 ≤ (x4_1 : Int) := of_decide_eq_true (by first | (with_reducible assumption) | assumption); have q164 : x4_1 < (l0.length : Int) := of_decide_eq_true (by first | (with_reducible assumption) | assumption); obtain ⟨ad164, e164, hx164_0, hx164_1⟩ := at_T35 HR0.out x4_1 p164 q164; obtain rfl : ad157 = ad164 := (by injection e164); replace hx164_0 := (HB.out.cell (World.block_lt_of_cell? w _ hx164_0)).trans hx164_0; replace hx164_1 := (HB.out.cell (World.block_lt_of_cell? w _ hx164_1)).trans hx164_1; replace p164 := eq_true p164; replace q164 := eq_true q164)); try go_wp2_with (first | (go_at_call 20; (with_reducible refine (ratlineref18_source.calls kj4 _ _ l0 x6_2 t162 false _ ?side1 ?side2 A11.out).mono ?_); (case side1 => repeat (first | exact (Kd.C_below HR0.out HB.out) | (with_reducible refine Kd.C_alloc ?_ _) | (with_reducible refine Kd.C_drewN ?_ _) | (with_reducible refine Kd.C_drew ?_))); (case side2 => exact HC0.out); rintro e w' ⟨rfl, ⟨nd, rfl⟩⟩; (try first | exact ⟨rfl, _, World.drewN_drewN _ _ _⟩ | exact ⟨rfl, _, Eq.trans (World.drewN_drewN _ _ _) (congrArg (World.drewN _) (Nat.add_assoc _ _ _))⟩); have p164 : 0 ≤ (x4_1 : Int) := of_decide_eq_true (by first | (with_reducible assumption) | assumption); have q164 : x4_1 < (l0.length : Int) := of_decide_eq_true (by first | (with_reducible assumption) | assumption); obtain ⟨ad164, e164, hx164_0, hx164_1⟩ := at_T35 HR0.out x4_1 p164 q164; obtain rfl : ad157 = ad164 := (by injection e164); replace hx164_0 := (HB.out.cell (World.block_lt_of_cell? w _ hx164_0)).trans hx164_0; replace hx164_1 := (HB.out.cell (World.block_lt_of_cell? w _ hx164_1)).trans hx164_1; replace p164 := eq_true p164; replace q164 := eq_true q164)))
                              go_roundg kj4
                              case measure => have := HK1.out; have := HK2.out; have := HJ4.out; omega
                              case rel => exact ⟨((wrap64 (x3_1 + 1))), (wrap64 (x4_1 + 1)), (by first | rfl | (simp; done) | (simp [*]; done)), (by first | rfl | (simp; done) | (simp [*]; done)), H', ⟨by have := HK1.out; have := HK2.out; have := HJ4.out; omega⟩, ⟨by repeat (first | (with_reducible first | exact HB.out | apply below_alloc | apply pw_below_drewN | apply below_drew1) | exact HB.out)⟩⟩
                          · rw [if_neg c14] at H
                            exact absurd H (by simp)
                        · rw [if_neg c13] at H
                          exact absurd H (by simp)
                    · replace c9 := Bool.eq_false_iff.mpr c9
                      subst c9
                      have H1 : (if 0 ≤ x4_1 then (if x4_1 < (l0.length : Int) then (if x6_2 = ((rd_T35 l0 x4_1).f0) then (if x5_2 = ((rd_T35 l0 x4_1).f0) then (ratlineref18_Cost.l0 kj4 l0 (wrap64 ((wrap64 (x3_1 + 1)) + 1)) (wrap64 (x4_1 + 1))) else (ratlineref18_Cost.l0 kj4 l0 (wrap64 (x3_1 + 1)) (wrap64 (x4_1 + 1)))) else (ratlineref18_Cost.l0 kj4 l0 (wrap64 (x3_1 + 1)) (wrap64 (x4_1 + 1)))) else (none)) else (none)) = some r := by rw [if_neg (show ¬ (false = true) by decide)] at H; exact H
                      clear H
                      have H := H1
                      clear H1
                      by_cases c17 : 0 ≤ x4_1
                      · rw [if_pos c17] at H
                        have c17b0 : decide (0 ≤ x4_1) = true := decide_eq_true c17
                        clear c17
                        by_cases c18 : x4_1 < (l0.length : Int)
                        · rw [if_pos c18] at H
                          have c18b0 : decide (x4_1 < (l0.length : Int)) = true := decide_eq_true c18
                          clear c18
                          by_cases c19 : x6_2 = ((rd_T35 l0 x4_1).f0)
                          · rw [if_pos c19] at H
                            have c19b0 : (x6_2 == ((rd_T35 l0 x4_1).f0)) = true := beq_iff_eq.mpr c19
                            have c19b1 : (x6_2 != ((rd_T35 l0 x4_1).f0)) = false := bne_eq_false_iff_eq.mpr c19
                            clear c19
                            by_cases c20 : x5_2 = ((rd_T35 l0 x4_1).f0)
                            · rw [if_pos c20] at H
                              have c20b0 : (x5_2 == ((rd_T35 l0 x4_1).f0)) = true := beq_iff_eq.mpr c20
                              have c20b1 : (x5_2 != ((rd_T35 l0 x4_1).f0)) = false := bne_eq_false_iff_eq.mpr c20
                              clear c20
                              have H' := Aside0.mk H
                              clear H
                              have p166 : 0 ≤ (x4_1 : Int) := of_decide_eq_true (by first | (with_reducible assumption) | assumption)
                              have q166 : x4_1 < (l0.length : Int) := of_decide_eq_true (by first | (with_reducible assumption) | assumption)
                              obtain ⟨ad166, e166, hx166_0, hx166_1⟩ := at_T35 HR0.out x4_1 p166 q166
                              obtain rfl : ad157 = ad166 := (by injection e166)
                              replace hx166_0 := (HB.out.cell (World.block_lt_of_cell? w _ hx166_0)).trans hx166_0
                              replace hx166_1 := (HB.out.cell (World.block_lt_of_cell? w _ hx166_1)).trans hx166_1
                              replace p166 := eq_true p166
                              replace q166 := eq_true q166
                              have p167 : 0 ≤ (x4_1 : Int) := of_decide_eq_true (by first | (with_reducible assumption) | assumption)
                              have q167 : x4_1 < (l0.length : Int) := of_decide_eq_true (by first | (with_reducible assumption) | assumption)
                              obtain ⟨ad167, e167, hx167_0, hx167_1⟩ := at_T35 HR0.out x4_1 p167 q167
                              obtain rfl : ad157 = ad167 := (by injection e167)
                              replace hx167_0 := (HB.out.cell (World.block_lt_of_cell? w _ hx167_0)).trans hx167_0
                              replace hx167_1 := (HB.out.cell (World.block_lt_of_cell? w _ hx167_1)).trans hx167_1
                              replace p167 := eq_true p167
                              replace q167 := eq_true q167
                              go_wp2
                              repeat (go_quiet (fail); try go_wp2)
                              go_roundg kj4
                              case measure => have := HK1.out; have := HK2.out; have := HJ4.out; omega
                              case rel => exact ⟨(wrap64 ((wrap64 (x3_1 + 1)) + 1)), (wrap64 (x4_1 + 1)), (by first | rfl | (simp; done) | (simp [*]; done)), (by first | rfl | (simp; done) | (simp [*]; done)), H', ⟨by have := HK1.out; have := HK2.out; have := HJ4.out; omega⟩, ⟨by repeat (first | (with_reducible first | exact HB.out | apply below_alloc | apply pw_below_drewN | apply below_drew1) | exact HB.out)⟩⟩
                            · rw [if_neg c20] at H
                              have c20b0 : (x5_2 == ((rd_T35 l0 x4_1).f0)) = false := beq_eq_false_iff_ne.mpr c20
                              have c20b1 : (x5_2 != ((rd_T35 l0 x4_1).f0)) = true := bne_iff_ne.mpr c20
                              have H' := Aside0.mk H
                              clear H
                              have p166 : 0 ≤ (x4_1 : Int) := of_decide_eq_true (by first | (with_reducible assumption) | assumption)
                              have q166 : x4_1 < (l0.length : Int) := of_decide_eq_true (by first | (with_reducible assumption) | assumption)
                              obtain ⟨ad166, e166, hx166_0, hx166_1⟩ := at_T35 HR0.out x4_1 p166 q166
                              obtain rfl : ad157 = ad166 := (by injection e166)
                              replace hx166_0 := (HB.out.cell (World.block_lt_of_cell? w _ hx166_0)).trans hx166_0
                              replace hx166_1 := (HB.out.cell (World.block_lt_of_cell? w _ hx166_1)).trans hx166_1
                              replace p166 := eq_true p166
                              replace q166 := eq_true q166
                              have p167 : 0 ≤ (x4_1 : Int) := of_decide_eq_true (by first | (with_reducible assumption) | assumption)
                              have q167 : x4_1 < (l0.length : Int) := of_decide_eq_true (by first | (with_reducible assumption) | assumption)
                              obtain ⟨ad167, e167, hx167_0, hx167_1⟩ := at_T35 HR0.out x4_1 p167 q167
                              obtain rfl : ad157 = ad167 := (by injection e167)
                              replace hx167_0 := (HB.out.cell (World.block_lt_of_cell? w _ hx167_0)).trans hx167_0
                              replace hx167_1 := (HB.out.cell (World.block_lt_of_cell? w _ hx167_1)).trans hx167_1
                              replace p167 := eq_true p167
                              replace q167 := eq_true q167
                              go_wp2
                              repeat (go_quiet (fail); try go_wp2)
                              go_roundg kj4
                              case measure => have := HK1.out; have := HK2.out; have := HJ4.out; omega
                              case rel => exact ⟨((wrap64 (x3_1 + 1))), (wrap64 (x4_1 + 1)), (by first | rfl | (simp; done) | (simp [*]; done)), (by first | rfl | (simp; done) | (simp [*]; done)), H', ⟨by have := HK1.out; have := HK2.out; have := HJ4.out; omega⟩, ⟨by repeat (first | (with_reducible first | exact HB.out | apply below_alloc | apply pw_below_drewN | apply below_drew1) | exact HB.out)⟩⟩
                          · rw [if_neg c19] at H
                            have c19b0 : (x6_2 == ((rd_T35 l0 x4_1).f0)) = false := beq_eq_false_iff_ne.mpr c19
                            have c19b1 : (x6_2 != ((rd_T35 l0 x4_1).f0)) = true := bne_iff_ne.mpr c19
                            have H' := Aside0.mk H
                            clear H
                            have p166 : 0 ≤ (x4_1 : Int) := of_decide_eq_true (by first | (with_reducible assumption) | assumption)
                            have q166 : x4_1 < (l0.length : Int) := of_decide_eq_true (by first | (with_reducible assumption) | assumption)
                            obtain ⟨ad166, e166, hx166_0, hx166_1⟩ := at_T35 HR0.out x4_1 p166 q166
                            obtain rfl : ad157 = ad166 := (by injection e166)
                            replace hx166_0 := (HB.out.cell (World.block_lt_of_cell? w _ hx166_0)).trans hx166_0
                            replace hx166_1 := (HB.out.cell (World.block_lt_of_cell? w _ hx166_1)).trans hx166_1
                            replace p166 := eq_true p166
                            replace q166 := eq_true q166
                            go_wp2
                            repeat (go_quiet (fail); try go_wp2)
                            go_roundg kj4
                            case measure => have := HK1.out; have := HK2.out; have := HJ4.out; omega
                            case rel => exact ⟨((wrap64 (x3_1 + 1))), (wrap64 (x4_1 + 1)), (by first | rfl | (simp; done) | (simp [*]; done)), (by first | rfl | (simp; done) | (simp [*]; done)), H', ⟨by have := HK1.out; have := HK2.out; have := HJ4.out; omega⟩, ⟨by repeat (first | (with_reducible first | exact HB.out | apply below_alloc | apply pw_below_drewN | apply below_drew1) | exact HB.out)⟩⟩
                        · rw [if_neg c18] at H
                          exact absurd H (by simp)
                      · rw [if_neg c17] at H
                        exact absurd H (by simp)
        · rw [if_neg c3] at H
          exact absurd H (by simp)
      · rw [if_neg c2] at H
        have c2b0 : decide (x4_1 < (l0.length : Int)) = false := decide_eq_false c2
        clear c2
        obtain rfl := Option.some.inj H
        go_wp2
        repeat (go_quiet (fail); try go_wp2)
        go_ret
        exact ⟨by first | rfl | (simp [errW_none, errW_some] <;> rfl) | (simp [*, errW_none, errW_some] <;> rfl), by repeat (first | (with_reducible first | exact HB.out | apply below_alloc | apply pw_below_drewN | apply below_drew1) | exact HB.out)⟩

end Go.Proofs.Ytcfomfcalpnbcaa.PG
