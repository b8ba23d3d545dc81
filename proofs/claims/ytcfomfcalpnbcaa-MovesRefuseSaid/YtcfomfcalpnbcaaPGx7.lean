/- moves.Cost: what it comes to, walked by hand. -/
import Derived.Test.YtcfomfcalpnbcaaMapi
namespace Go.Proofs.Ytcfomfcalpnbcaa.PG
open Go.RowKit Go.Proofs.YtcfomfcalpnbcaaW.PrintWords Go.Proofs.YtcfomfcalpnbcaaW.PrintLast Go.Proofs.YtcfomfcalpnbcaaW.PrintMore
attribute [local go_sem] max2_int min2_int max_two min_two max_three min_three max_four min_four
set_option linter.unusedVariables false
set_option linter.unusedSimpArgs false
mutual
def moves_Cost.l0 : Nat → List S34 → List (Int × Option Int) → Int → Option Int
  | 0, _, _, _ => none
  | k + 1, l, m, i => if i < (l.length : Int) then (if 0 ≤ i then (if (Lit.int .i64 (rd_T34 l i).f0).wf = true then (if (Lit.int .i64 (rd_T34 l i).f1).wf = true then (if m.length < 1000000 then (if (rd_T34 l i).f0 = (rd_T34 l i).f1 then moves_Cost.l0 k l m (wrap64 (i + 1)) else moves_Cost.l0 k l (((rd_T34 l i).f0, some (rd_T34 l i).f1) :: m) (wrap64 (i + 1))) else none) else none) else none) else none) else moves_Cost.l1 k l m 0 0
def moves_Cost.l1 : Nat → List S34 → List (Int × Option Int) → Int → Int → Option Int
  | 0, _, _, _, _ => none
  | k + 1, l, m, n, i => if i < (l.length : Int) then (if 0 ≤ i then (if (rd_T34 l i).f0 = (rd_T34 l i).f1 then moves_Cost.l1 k l m n (wrap64 (i + 1)) else moves_Cost.l2 k l m (wrap64 (n + 1)) i (rd_T34 l i).f0 (rd_T34 l i).f1 0) else none) else some n
def moves_Cost.l2 : Nat → List S34 → List (Int × Option Int) → Int → Int → Int → Int → Int → Option Int
  | 0, _, _, _, _, _, _, _ => none
  | k + 1, l, m, n, i, least, at_, j => if j < (l.length : Int) then (if at_ = (rd_T34 l i).f0 then (if mn least at_ = (rd_T34 l i).f0 then moves_Cost.l1 k l m (wrap64 (n + 1)) (wrap64 (i + 1)) else moves_Cost.l1 k l m n (wrap64 (i + 1))) else (if (Lit.int .i64 at_).wf = true then (if (mval m at_).isSome = true then moves_Cost.l2 k l m n i (mn least at_) ((mval m at_).getD 0) (wrap64 (j + 1)) else moves_Cost.l1 k l m n (wrap64 (i + 1))) else none)) else (if at_ = (rd_T34 l i).f0 then (if least = (rd_T34 l i).f0 then moves_Cost.l1 k l m (wrap64 (n + 1)) (wrap64 (i + 1)) else moves_Cost.l1 k l m n (wrap64 (i + 1))) else moves_Cost.l1 k l m n (wrap64 (i + 1)))
end
def moves_Cost.f (k : Nat) (l : List S34) : Option Int := moves_Cost.l0 k l [] 0
theorem moves_Cost.mono_l : ∀ k, (∀ y0 y1 y2, LeO (moves_Cost.l0 k y0 y1 y2) (moves_Cost.l0 (k + 1) y0 y1 y2)) ∧ (∀ y0 y1 y2 y3, LeO (moves_Cost.l1 k y0 y1 y2 y3) (moves_Cost.l1 (k + 1) y0 y1 y2 y3)) ∧ (∀ y0 y1 y2 y3 y4 y5 y6, LeO (moves_Cost.l2 k y0 y1 y2 y3 y4 y5 y6) (moves_Cost.l2 (k + 1) y0 y1 y2 y3 y4 y5 y6))
  | 0 => ⟨fun _ _ _ r h => by simp [moves_Cost.l0] at h, fun _ _ _ _ r h => by simp [moves_Cost.l1] at h, fun _ _ _ _ _ _ _ r h => by simp [moves_Cost.l2] at h⟩
  | k + 1 => by
    obtain ⟨ih0, ih1, ih2⟩ := moves_Cost.mono_l k
    refine ⟨?_, ?_, ?_⟩
    · intro y0 y1 y2
      unfold moves_Cost.l0
      repeat' first
      | (with_reducible exact ih0 _ _ _)
      | (with_reducible exact ih1 _ _ _ _)
      | (with_reducible exact ih2 _ _ _ _ _ _ _)
      | (with_reducible exact LeO.refl _)
      | (with_reducible exact LeO.none _)
      | (with_reducible refine LeO.ite ?_ ?_)
      | exact LeO.refl _
      | exact LeO.none _
      | refine LeO.ite ?_ ?_
    · intro y0 y1 y2 y3
      unfold moves_Cost.l1
      repeat' first
      | (with_reducible exact ih0 _ _ _)
      | (with_reducible exact ih1 _ _ _ _)
      | (with_reducible exact ih2 _ _ _ _ _ _ _)
      | (with_reducible exact LeO.refl _)
      | (with_reducible exact LeO.none _)
      | (with_reducible refine LeO.ite ?_ ?_)
      | exact LeO.refl _
      | exact LeO.none _
      | refine LeO.ite ?_ ?_
    · intro y0 y1 y2 y3 y4 y5 y6
      unfold moves_Cost.l2
      repeat' first
      | (with_reducible exact ih0 _ _ _)
      | (with_reducible exact ih1 _ _ _ _)
      | (with_reducible exact ih2 _ _ _ _ _ _ _)
      | (with_reducible exact LeO.refl _)
      | (with_reducible exact LeO.none _)
      | (with_reducible refine LeO.ite ?_ ?_)
      | exact LeO.refl _
      | exact LeO.none _
      | refine LeO.ite ?_ ?_
theorem moves_Cost.mono : ∀ a0 k, LeO (moves_Cost.f k a0) (moves_Cost.f (k + 1) a0) := fun a0 k => (moves_Cost.mono_l k).1 _ _ _
set_option maxHeartbeats 8000000 in
set_option maxRecDepth 100000 in
theorem moves_Cost.calls (k : Nat) (A0 : Option Addr) (c0 : Nat) (l0 : List S34) (r : Int) (w : World) (hr0 : Kd.C k34 w A0 l0.length l0) (hc0 : l0.length ≤ c0) (h : moves_Cost.f k l0 = some r) :
    Calls Try.prog 12 #[.slice A0 l0.length c0] w fun e w' => e = .returned (.int .i64 r) ∧ Below w.heap.size w w' := by
  have hmm := @run_makeMap Try.prog
  have hu34 := Try.underlying34
  have HR0 := Aside0.mk hr0
  have HC0 := Aside0.mk hc0
  clear hr0 hc0
  have H' : Aside0 (moves_Cost.l0 k l0 [] 0 = some r) := ⟨h⟩
  clear h
  go_enter Try.func12, Try.ntmps12
  go_wp2
  go_loopg [15] k (fun kq v15 w' => ∃ (m : List (Int × Option Int)) (i : Int), v15 = .int .i64 i ∧ Aside0 (moves_Cost.l0 kq l0 m i = some r) ∧ Aside0 (kq ≤ k) ∧ Aside0 (MapI w' w.heap.size m) ∧ Aside0 (Below w.heap.size w w'))
  case atStart => exact ⟨[], 0, rfl, H', ⟨Nat.le_refl _⟩, ⟨MapI.made w⟩, ⟨below_alloc (Below.refl _ _) _⟩⟩
  case round =>
    clear H'
    obtain ⟨m, i, rfl, HA, HK1, HM, HB⟩ := hrel
    cases gk with
    | zero => exact absurd HA.out (by simp [moves_Cost.l0])
    | succ k1 =>
      have H := HA.out
      clear HA
      simp only [moves_Cost.l0] at H
      by_cases c1 : i < (l0.length : Int)
      · rw [if_pos c1] at H
        have c1b : decide (i < (l0.length : Int)) = true := decide_eq_true c1
        by_cases c2 : 0 ≤ i
        · rw [if_pos c2] at H
          have c2b : decide (0 ≤ i) = true := decide_eq_true c2
          by_cases c3 : (Lit.int .i64 (rd_T34 l0 i).f0).wf = true
          · rw [if_pos c3] at H
            by_cases c3' : (Lit.int .i64 (rd_T34 l0 i).f1).wf = true
            · rw [if_pos c3'] at H
              by_cases c4 : m.length < 1000000
              · rw [if_pos c4] at H
                obtain ⟨ad, e0, hx0, hx1⟩ := at_T34 HR0.out i c2 c1
                cases e0
                replace hx0 := (HB.out.cell (World.block_lt_of_cell? w _ hx0)).trans hx0
                replace hx1 := (HB.out.cell (World.block_lt_of_cell? w _ hx1)).trans hx1
                replace c1 := eq_true c1
                replace c2 := eq_true c2
                go_upto_region 5 with (fail)
                have hSb : w.heap.size < wr.heap.size := HM.out.lt
                refine rebase (P := fun W_ => Code.wp _ _ _ _ W_) (fun W_ => W_.cell? ⟨wr.heap.size, 0, none⟩ = some (.int .i64 (rd_T34 l0 i).f0) ∧ W_.cell? ⟨wr.heap.size, 1, none⟩ = some (.int .i64 (rd_T34 l0 i).f1) ∧ MapI W_ w.heap.size m ∧ Below w.heap.size w W_) ⟨(blk_cell (blk_new wr _) 0).trans rfl, (blk_cell (blk_new wr _) 1).trans rfl, HM.out.kept (World.grownBy_alloc wr _ none) (by simp), below_alloc HB.out _⟩ ?_
                rintro W ⟨hc0, hc1, hS0, hB0⟩
                obtain ⟨W2, hst, hS2, hg2⟩ := hS0.store (rd_T34 l0 i).f0 (rd_T34 l0 i).f1 c3 c3' c4
                by_cases c5 : (rd_T34 l0 i).f0 = (rd_T34 l0 i).f1
                · rw [if_pos c5] at H
                  have c5b : ((rd_T34 l0 i).f0 != (rd_T34 l0 i).f1) = false := bne_eq_false_iff_eq.mpr c5
                  have c5c : ((rd_T34 l0 i).f0 == (rd_T34 l0 i).f1) = true := beq_iff_eq.mpr c5
                  go_wp2
                  go_roundg k1
                  case measure => have := HK1.out; omega
                  case rel => exact ⟨_, _, rfl, ⟨H⟩, ⟨by have := HK1.out; omega⟩, ⟨hS0⟩, ⟨hB0⟩⟩
                · rw [if_neg c5] at H
                  have c5b : ((rd_T34 l0 i).f0 != (rd_T34 l0 i).f1) = true := bne_iff_ne.mpr c5
                  have c5c : ((rd_T34 l0 i).f0 == (rd_T34 l0 i).f1) = false := beq_eq_false_iff_ne.mpr c5
                  go_wp2
                  go_roundg k1
                  case measure => have := HK1.out; omega
                  case rel => exact ⟨_, _, rfl, ⟨H⟩, ⟨by have := HK1.out; omega⟩, ⟨hS2⟩, ⟨hB0.grown hg2 hB0.size (fun j hj => by cases hj; exact Nat.le_refl _)⟩⟩
              · rw [if_neg c4] at H
                exact absurd H (by simp)
            · rw [if_neg c3'] at H
              exact absurd H (by simp)
          · rw [if_neg c3] at H
            exact absurd H (by simp)
        · rw [if_neg c2] at H
          exact absurd H (by simp)
      · rw [if_neg c1] at H
        have c1b : decide (i < (l0.length : Int)) = false := decide_eq_false c1
        have H' := Aside0.mk H
        clear H
        go_wp2
        go_loopg [6, 32] k1 (fun kq v6 v32 w' => ∃ (n i : Int), v6 = .int .i64 n ∧ v32 = .int .i64 i ∧ Aside0 (moves_Cost.l1 kq l0 m n i = some r) ∧ Aside0 (kq ≤ k1) ∧ Aside0 (MapI w' w.heap.size m) ∧ Aside0 (Below w.heap.size w w'))
        case atStart => exact ⟨0, 0, rfl, rfl, H', ⟨Nat.le_refl _⟩, HM, HB⟩
        case round =>
          clear H' c1 c1b
          obtain ⟨n, i, rfl, rfl, HA, HK2, HM, HB⟩ := hrel
          cases gk with
          | zero => exact absurd HA.out (by simp [moves_Cost.l1])
          | succ k2 =>
            have H := HA.out
            clear HA
            simp only [moves_Cost.l1] at H
            by_cases c1 : i < (l0.length : Int)
            · rw [if_pos c1] at H
              have c1b : decide (i < (l0.length : Int)) = true := decide_eq_true c1
              by_cases c2 : 0 ≤ i
              · rw [if_pos c2] at H
                have c2b : decide (0 ≤ i) = true := decide_eq_true c2
                obtain ⟨ad, e0, hx0, hx1⟩ := at_T34 HR0.out i c2 c1
                cases e0
                replace hx0 := (HB.out.cell (World.block_lt_of_cell? w _ hx0)).trans hx0
                replace hx1 := (HB.out.cell (World.block_lt_of_cell? w _ hx1)).trans hx1
                replace c1 := eq_true c1
                replace c2 := eq_true c2
                go_upto_region 12 with (fail)
                have hSb : w.heap.size < wr.heap.size := HM.out.lt
                refine rebase (P := fun W_ => Code.wp _ _ _ _ W_) (fun W_ => W_.cell? ⟨wr.heap.size, 0, none⟩ = some (.int .i64 (rd_T34 l0 i).f0) ∧ W_.cell? ⟨wr.heap.size, 1, none⟩ = some (.int .i64 (rd_T34 l0 i).f1) ∧ MapI W_ w.heap.size m ∧ Below w.heap.size w W_) ⟨(blk_cell (blk_new wr _) 0).trans rfl, (blk_cell (blk_new wr _) 1).trans rfl, HM.out.kept (World.grownBy_alloc wr _ none) (by simp), below_alloc HB.out _⟩ ?_
                rintro W ⟨hc0, hc1, hS0, hB0⟩
                by_cases c5 : (rd_T34 l0 i).f0 = (rd_T34 l0 i).f1
                · rw [if_pos c5] at H
                  have c5c : ((rd_T34 l0 i).f0 == (rd_T34 l0 i).f1) = true := beq_iff_eq.mpr c5
                  go_wp2
                  go_roundg k2
                  case measure => have := HK1.out; have := HK2.out; omega
                  case rel => exact ⟨_, _, rfl, rfl, ⟨H⟩, ⟨by have := HK2.out; omega⟩, ⟨hS0⟩, ⟨hB0⟩⟩
                · rw [if_neg c5] at H
                  have c5c : ((rd_T34 l0 i).f0 == (rd_T34 l0 i).f1) = false := beq_eq_false_iff_ne.mpr c5
                  have H' := Aside0.mk H
                  clear H
                  go_wp2
                  go_quiet (fail)
                  go_wp2
                  go_loopg [9, 10, 11, 49] k2 (fun kq v9 v10 v11 v49 w' => ∃ (least at_ j : Int), v9 = .int .i64 least ∧ v10 = .int .i64 at_ ∧ v11 = .bool true ∧ v49 = .int .i64 j ∧ Aside0 (moves_Cost.l2 kq l0 m (wrap64 (n + 1)) i least at_ j = some r) ∧ Aside0 (kq ≤ k2) ∧ Aside0 (w'.cell? ⟨wr.heap.size, 0, none⟩ = some (.int .i64 (rd_T34 l0 i).f0)) ∧ Aside0 (MapI w' w.heap.size m) ∧ Aside0 (Below w.heap.size w w'))
                  case atStart => exact ⟨_, _, _, rfl, rfl, rfl, rfl, H', ⟨Nat.le_refl _⟩, ⟨hc0⟩, ⟨hS0⟩, ⟨by apply pw_below_drewN; exact hB0⟩⟩
                  case round =>
                    clear H' hc0 hc1 hS0 hB0
                    obtain ⟨least, at_, j, rfl, rfl, rfl, rfl, HA, HK3, HC, HM1, HB1⟩ := hrel
                    cases gk with
                    | zero => exact absurd HA.out (by simp [moves_Cost.l2])
                    | succ k3 =>
                      have H := HA.out
                      clear HA
                      simp only [moves_Cost.l2] at H
                      have hc0 := HC.out
                      have hS1 := HM1.out
                      have hB1 := HB1.out
                      by_cases d1 : j < (l0.length : Int)
                      · rw [if_pos d1] at H
                        have d1b : decide (j < (l0.length : Int)) = true := decide_eq_true d1
                        by_cases e : at_ < least
                        · have hm : mn least at_ = at_ := by unfold mn; rw [if_pos e]
                          rw [hm] at H
                          have eb : (at_ < least) = True := eq_true e
                          by_cases d2 : at_ = (rd_T34 l0 i).f0
                          · rw [if_pos d2] at H
                            have d2b : (at_ == (rd_T34 l0 i).f0) = true := beq_iff_eq.mpr d2
                            by_cases d3 : at_ = (rd_T34 l0 i).f0
                            · rw [if_pos d3] at H
                              have d3b : (at_ == (rd_T34 l0 i).f0) = true := beq_iff_eq.mpr d3
                              go_wp2
                              go_roundg k3
                              case measure => have := HK1.out; have := HK2.out; have := HK3.out; omega
                              case rel => exact ⟨_, _, rfl, rfl, ⟨H⟩, ⟨by have := HK2.out; have := HK3.out; omega⟩, ⟨hS1⟩, ⟨hB1⟩⟩
                            · exact absurd d2 d3
                          · rw [if_neg d2] at H
                            have d2b : (at_ == (rd_T34 l0 i).f0) = false := beq_eq_false_iff_ne.mpr d2
                            by_cases d4 : (Lit.int .i64 at_).wf = true
                            · rw [if_pos d4] at H
                              have hlk := hS1.lookOk at_ d4
                              by_cases d5 : (mval m at_).isSome = true
                              · rw [if_pos d5] at H
                                rw [d5] at hlk
                                go_wp2
                                go_roundg k3
                                case measure => have := HK3.out; omega
                                case rel => exact ⟨_, _, _, rfl, rfl, rfl, rfl, ⟨H⟩, ⟨by have := HK3.out; omega⟩, ⟨hc0⟩, ⟨hS1⟩, ⟨hB1⟩⟩
                              · rw [if_neg d5] at H
                                have d5b : (mval m at_).isSome = false := by simpa using d5
                                rw [d5b] at hlk
                                go_wp2
                                go_roundg k3
                                case measure => have := HK1.out; have := HK2.out; have := HK3.out; omega
                                case rel => exact ⟨_, _, rfl, rfl, ⟨H⟩, ⟨by have := HK2.out; have := HK3.out; omega⟩, ⟨hS1⟩, ⟨hB1⟩⟩
                            · rw [if_neg d4] at H
                              exact absurd H (by simp)
                        · have hm : mn least at_ = least := by unfold mn; rw [if_neg e]
                          rw [hm] at H
                          have eb : (at_ < least) = False := eq_false e
                          by_cases d2 : at_ = (rd_T34 l0 i).f0
                          · rw [if_pos d2] at H
                            have d2b : (at_ == (rd_T34 l0 i).f0) = true := beq_iff_eq.mpr d2
                            by_cases d3 : least = (rd_T34 l0 i).f0
                            · rw [if_pos d3] at H
                              have d3b : (least == (rd_T34 l0 i).f0) = true := beq_iff_eq.mpr d3
                              go_wp2
                              go_roundg k3
                              case measure => have := HK1.out; have := HK2.out; have := HK3.out; omega
                              case rel => exact ⟨_, _, rfl, rfl, ⟨H⟩, ⟨by have := HK2.out; have := HK3.out; omega⟩, ⟨hS1⟩, ⟨hB1⟩⟩
                            · rw [if_neg d3] at H
                              have d3b : (least == (rd_T34 l0 i).f0) = false := beq_eq_false_iff_ne.mpr d3
                              go_wp2
                              go_roundg k3
                              case measure => have := HK1.out; have := HK2.out; have := HK3.out; omega
                              case rel => exact ⟨_, _, rfl, rfl, ⟨H⟩, ⟨by have := HK2.out; have := HK3.out; omega⟩, ⟨hS1⟩, ⟨hB1⟩⟩
                          · rw [if_neg d2] at H
                            have d2b : (at_ == (rd_T34 l0 i).f0) = false := beq_eq_false_iff_ne.mpr d2
                            by_cases d4 : (Lit.int .i64 at_).wf = true
                            · rw [if_pos d4] at H
                              have hlk := hS1.lookOk at_ d4
                              by_cases d5 : (mval m at_).isSome = true
                              · rw [if_pos d5] at H
                                rw [d5] at hlk
                                go_wp2
                                go_roundg k3
                                case measure => have := HK3.out; omega
                                case rel => exact ⟨_, _, _, rfl, rfl, rfl, rfl, ⟨H⟩, ⟨by have := HK3.out; omega⟩, ⟨hc0⟩, ⟨hS1⟩, ⟨hB1⟩⟩
                              · rw [if_neg d5] at H
                                have d5b : (mval m at_).isSome = false := by simpa using d5
                                rw [d5b] at hlk
                                go_wp2
                                go_roundg k3
                                case measure => have := HK1.out; have := HK2.out; have := HK3.out; omega
                                case rel => exact ⟨_, _, rfl, rfl, ⟨H⟩, ⟨by have := HK2.out; have := HK3.out; omega⟩, ⟨hS1⟩, ⟨hB1⟩⟩
                            · rw [if_neg d4] at H
                              exact absurd H (by simp)
                      · rw [if_neg d1] at H
                        have d1b : decide (j < (l0.length : Int)) = false := decide_eq_false d1
                        by_cases d2 : at_ = (rd_T34 l0 i).f0
                        · rw [if_pos d2] at H
                          have d2b : (at_ == (rd_T34 l0 i).f0) = true := beq_iff_eq.mpr d2
                          by_cases d3 : least = (rd_T34 l0 i).f0
                          · rw [if_pos d3] at H
                            have d3b : (least == (rd_T34 l0 i).f0) = true := beq_iff_eq.mpr d3
                            go_wp2
                            go_roundg k3
                            case measure => have := HK1.out; have := HK2.out; have := HK3.out; omega
                            case rel => exact ⟨_, _, rfl, rfl, ⟨H⟩, ⟨by have := HK2.out; have := HK3.out; omega⟩, ⟨hS1⟩, ⟨hB1⟩⟩
                          · rw [if_neg d3] at H
                            have d3b : (least == (rd_T34 l0 i).f0) = false := beq_eq_false_iff_ne.mpr d3
                            go_wp2
                            go_roundg k3
                            case measure => have := HK1.out; have := HK2.out; have := HK3.out; omega
                            case rel => exact ⟨_, _, rfl, rfl, ⟨H⟩, ⟨by have := HK2.out; have := HK3.out; omega⟩, ⟨hS1⟩, ⟨hB1⟩⟩
                        · rw [if_neg d2] at H
                          have d2b : (at_ == (rd_T34 l0 i).f0) = false := beq_eq_false_iff_ne.mpr d2
                          go_wp2
                          go_roundg k3
                          case measure => have := HK1.out; have := HK2.out; have := HK3.out; omega
                          case rel => exact ⟨_, _, rfl, rfl, ⟨H⟩, ⟨by have := HK2.out; have := HK3.out; omega⟩, ⟨hS1⟩, ⟨hB1⟩⟩
              · rw [if_neg c2] at H
                exact absurd H (by simp)
            · rw [if_neg c1] at H
              have c1b : decide (i < (l0.length : Int)) = false := decide_eq_false c1
              obtain rfl := Option.some.inj H
              go_wp2
              go_ret
              exact ⟨rfl, HB.out⟩
end Go.Proofs.Ytcfomfcalpnbcaa.PG
