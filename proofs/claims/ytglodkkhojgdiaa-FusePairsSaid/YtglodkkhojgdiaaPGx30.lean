-- By the session's own program out of the kit's print, with texts of the session's own for the functions that the print does not take.
import Derived.Test.YtglodkkhojgdiaaPGx0
namespace Go.Proofs.Ytglodkkhojgdiaa.PG
open Go.RowKit Go.Proofs.YtglodkkhojgdiaaW.PrintWords Go.Proofs.YtglodkkhojgdiaaW.PrintLast Go.Proofs.YtglodkkhojgdiaaW.PrintMore
attribute [local go_sem] max2_int min2_int max_two min_two max_three min_three max_four min_four   -- for this text's walks alone
set_option linter.unusedVariables false
set_option linter.unusedSimpArgs false

/-! ### ratlineref21_Pair: function 7 -/
mutual
def ratlineref21_Pair.j0 : Nat → Bool → Int → Int → Int → Int → Int → Int → Int → Int → Int → Int → Option (Int × Int × Int × Int × Int × Bool)
  | 0, _, _, _, _, _, _, _, _, _, _, _ => none
  | k + 1, x6, x234000, x234001, x234002, x234003, x234004, x235000, x235001, x235002, x235003, x235004 => if x6 = true then (some (15, x234001, x234002, x235001, x235002, true)) else (if x234000 = 1 then (if x235000 = 7 then (if x234001 = x235001 then (if x234002 ≥ 0 then (ratlineref21_Pair.j1 k (decide (x234002 ≤ 60000)) x234000 x234001 x234002 x234003 x234004 x235000 x235001 x235002 x235003 x235004) else (ratlineref21_Pair.j1 k false x234000 x234001 x234002 x234003 x234004 x235000 x235001 x235002 x235003 x235004)) else (ratlineref21_Pair.j1 k false x234000 x234001 x234002 x234003 x234004 x235000 x235001 x235002 x235003 x235004)) else (ratlineref21_Pair.j1 k false x234000 x234001 x234002 x234003 x234004 x235000 x235001 x235002 x235003 x235004)) else (ratlineref21_Pair.j1 k false x234000 x234001 x234002 x234003 x234004 x235000 x235001 x235002 x235003 x235004))
def ratlineref21_Pair.j1 : Nat → Bool → Int → Int → Int → Int → Int → Int → Int → Int → Int → Int → Option (Int × Int × Int × Int × Int × Bool)
  | 0, _, _, _, _, _, _, _, _, _, _, _ => none
  | k + 1, x64, x234000, x234001, x234002, x234003, x234004, x235000, x235001, x235002, x235003, x235004 => if x64 = true then (some (16, x234002, 0, 0, 0, true)) else (if x234000 = 9 then (if x235000 = 4 then (if x234001 ≥ 0 then (if x234001 ≤ 4095 then (if x235001 ≥ 0 then (if x235001 ≤ 4095 then (some (17, x234001, x235001, 0, 0, true)) else (some (0, 0, 0, 0, 0, false))) else (some (0, 0, 0, 0, 0, false))) else (some (0, 0, 0, 0, 0, false))) else (some (0, 0, 0, 0, 0, false))) else (some (0, 0, 0, 0, 0, false))) else (some (0, 0, 0, 0, 0, false)))
end
def ratlineref21_Pair.f (k : Nat) (a0_0 : Int) (a0_1 : Int) (a0_2 : Int) (a0_3 : Int) (a0_4 : Int) (a1_0 : Int) (a1_1 : Int) (a1_2 : Int) (a1_3 : Int) (a1_4 : Int) : Option (Int × Int × Int × Int × Int × Bool) := if a0_0 = 2 then (if a1_0 = 2 then (if a0_1 ≥ 0 then (if a0_2 ≥ 0 then (if a1_1 ≥ 0 then (if a1_2 ≥ 0 then (if a0_1 < 64 then (if a0_2 < 64 then (if a1_1 < 64 then (ratlineref21_Pair.j0 k (decide (a1_2 < 64)) a0_0 a0_1 a0_2 a0_3 a0_4 a1_0 a1_1 a1_2 a1_3 a1_4) else (ratlineref21_Pair.j0 k false a0_0 a0_1 a0_2 a0_3 a0_4 a1_0 a1_1 a1_2 a1_3 a1_4)) else (ratlineref21_Pair.j0 k false a0_0 a0_1 a0_2 a0_3 a0_4 a1_0 a1_1 a1_2 a1_3 a1_4)) else (ratlineref21_Pair.j0 k false a0_0 a0_1 a0_2 a0_3 a0_4 a1_0 a1_1 a1_2 a1_3 a1_4)) else (ratlineref21_Pair.j0 k false a0_0 a0_1 a0_2 a0_3 a0_4 a1_0 a1_1 a1_2 a1_3 a1_4)) else (ratlineref21_Pair.j0 k false a0_0 a0_1 a0_2 a0_3 a0_4 a1_0 a1_1 a1_2 a1_3 a1_4)) else (ratlineref21_Pair.j0 k false a0_0 a0_1 a0_2 a0_3 a0_4 a1_0 a1_1 a1_2 a1_3 a1_4)) else (ratlineref21_Pair.j0 k false a0_0 a0_1 a0_2 a0_3 a0_4 a1_0 a1_1 a1_2 a1_3 a1_4)) else (ratlineref21_Pair.j0 k false a0_0 a0_1 a0_2 a0_3 a0_4 a1_0 a1_1 a1_2 a1_3 a1_4)) else (ratlineref21_Pair.j0 k false a0_0 a0_1 a0_2 a0_3 a0_4 a1_0 a1_1 a1_2 a1_3 a1_4)
theorem ratlineref21_Pair.mono_l : ∀ k, (∀ y0 y1 y2 y3 y4 y5 y6 y7 y8 y9 y10, LeO (ratlineref21_Pair.j0 k y0 y1 y2 y3 y4 y5 y6 y7 y8 y9 y10) (ratlineref21_Pair.j0 (k + 1) y0 y1 y2 y3 y4 y5 y6 y7 y8 y9 y10)) ∧ (∀ y0 y1 y2 y3 y4 y5 y6 y7 y8 y9 y10, LeO (ratlineref21_Pair.j1 k y0 y1 y2 y3 y4 y5 y6 y7 y8 y9 y10) (ratlineref21_Pair.j1 (k + 1) y0 y1 y2 y3 y4 y5 y6 y7 y8 y9 y10))
  | 0 => ⟨fun _ _ _ _ _ _ _ _ _ _ _ r h => by simp [ratlineref21_Pair.j0] at h, fun _ _ _ _ _ _ _ _ _ _ _ r h => by simp [ratlineref21_Pair.j1] at h⟩
  | k + 1 => by
    obtain ⟨ih0, ih1⟩ := ratlineref21_Pair.mono_l k
    refine ⟨?_, ?_⟩
    · intro y0 y1 y2 y3 y4 y5 y6 y7 y8 y9 y10
      unfold ratlineref21_Pair.j0
      repeat' first
      | (with_reducible exact ih0 _ _ _ _ _ _ _ _ _ _ _)
      | (with_reducible exact ih1 _ _ _ _ _ _ _ _ _ _ _)
      | (with_reducible exact LeO.refl _)
      | (with_reducible exact LeO.none _)
      | (with_reducible refine LeO.ite ?_ ?_)
      | (with_reducible refine LeO.bind ?_ (fun _ => ?_))
      | exact ih0 _ _ _ _ _ _ _ _ _ _ _
      | exact ih1 _ _ _ _ _ _ _ _ _ _ _
      | exact LeO.none _
      | refine LeO.ite ?_ ?_
      | refine LeO.bind ?_ (fun _ => ?_)
    · intro y0 y1 y2 y3 y4 y5 y6 y7 y8 y9 y10
      unfold ratlineref21_Pair.j1
      repeat' first
      | (with_reducible exact ih0 _ _ _ _ _ _ _ _ _ _ _)
      | (with_reducible exact ih1 _ _ _ _ _ _ _ _ _ _ _)
      | (with_reducible exact LeO.refl _)
      | (with_reducible exact LeO.none _)
      | (with_reducible refine LeO.ite ?_ ?_)
      | (with_reducible refine LeO.bind ?_ (fun _ => ?_))
      | exact ih0 _ _ _ _ _ _ _ _ _ _ _
      | exact ih1 _ _ _ _ _ _ _ _ _ _ _
      | exact LeO.none _
      | refine LeO.ite ?_ ?_
      | refine LeO.bind ?_ (fun _ => ?_)
theorem ratlineref21_Pair.mono : ∀ a0 a1 a2 a3 a4 a5 a6 a7 a8 a9 k, LeO (ratlineref21_Pair.f k a0 a1 a2 a3 a4 a5 a6 a7 a8 a9) (ratlineref21_Pair.f (k + 1) a0 a1 a2 a3 a4 a5 a6 a7 a8 a9) := by
  intro a0 a1 a2 a3 a4 a5 a6 a7 a8 a9 k
  obtain ⟨ih0, ih1⟩ := ratlineref21_Pair.mono_l k
  unfold ratlineref21_Pair.f
  repeat' first
      | (with_reducible exact ih0 _ _ _ _ _ _ _ _ _ _ _)
      | (with_reducible exact ih1 _ _ _ _ _ _ _ _ _ _ _)
      | (with_reducible exact LeO.refl _)
      | (with_reducible exact LeO.none _)
      | (with_reducible refine LeO.ite ?_ ?_)
      | (with_reducible refine LeO.bind ?_ (fun _ => ?_))
      | exact ih0 _ _ _ _ _ _ _ _ _ _ _
      | exact ih1 _ _ _ _ _ _ _ _ _ _ _
      | exact LeO.none _
      | refine LeO.ite ?_ ?_
      | refine LeO.bind ?_ (fun _ => ?_)
set_option maxHeartbeats 8000000 in
set_option maxRecDepth 100000 in
theorem ratlineref21_Pair.calls (k : Nat) (a0_0 : Int) (a0_1 : Int) (a0_2 : Int) (a0_3 : Int) (a0_4 : Int) (a1_0 : Int) (a1_1 : Int) (a1_2 : Int) (a1_3 : Int) (a1_4 : Int) (r1 : Int) (r2 : Int) (r3 : Int) (r4 : Int) (r5 : Int) (r6 : Bool) (w : World) (h : ratlineref21_Pair.f k a0_0 a0_1 a0_2 a0_3 a0_4 a1_0 a1_1 a1_2 a1_3 a1_4 = some (r1, r2, r3, r4, r5, r6)) :
    Calls Try.prog 7 #[.agg #[.int .i64 a0_0, .int .i64 a0_1, .int .i64 a0_2, .int .i64 a0_3, .int .i64 a0_4], .agg #[.int .i64 a1_0, .int .i64 a1_1, .int .i64 a1_2, .int .i64 a1_3, .int .i64 a1_4]] w fun e w' => e = .returned (.tuple #[.agg #[.int .i64 r1, .int .i64 r2, .int .i64 r3, .int .i64 r4, .int .i64 r5], .bool r6]) ∧ Below w.heap.size w w' := by
  have hu23 := Try.underlying23
  have HB := Aside0.mk (Below.refl w.heap.size w)
  have H : (if a0_0 = 2 then (if a1_0 = 2 then (if a0_1 ≥ 0 then (if a0_2 ≥ 0 then (if a1_1 ≥ 0 then (if a1_2 ≥ 0 then (if a0_1 < 64 then (if a0_2 < 64 then (if a1_1 < 64 then (ratlineref21_Pair.j0 k (decide (a1_2 < 64)) a0_0 a0_1 a0_2 a0_3 a0_4 a1_0 a1_1 a1_2 a1_3 a1_4) else (ratlineref21_Pair.j0 k false a0_0 a0_1 a0_2 a0_3 a0_4 a1_0 a1_1 a1_2 a1_3 a1_4)) else (ratlineref21_Pair.j0 k false a0_0 a0_1 a0_2 a0_3 a0_4 a1_0 a1_1 a1_2 a1_3 a1_4)) else (ratlineref21_Pair.j0 k false a0_0 a0_1 a0_2 a0_3 a0_4 a1_0 a1_1 a1_2 a1_3 a1_4)) else (ratlineref21_Pair.j0 k false a0_0 a0_1 a0_2 a0_3 a0_4 a1_0 a1_1 a1_2 a1_3 a1_4)) else (ratlineref21_Pair.j0 k false a0_0 a0_1 a0_2 a0_3 a0_4 a1_0 a1_1 a1_2 a1_3 a1_4)) else (ratlineref21_Pair.j0 k false a0_0 a0_1 a0_2 a0_3 a0_4 a1_0 a1_1 a1_2 a1_3 a1_4)) else (ratlineref21_Pair.j0 k false a0_0 a0_1 a0_2 a0_3 a0_4 a1_0 a1_1 a1_2 a1_3 a1_4)) else (ratlineref21_Pair.j0 k false a0_0 a0_1 a0_2 a0_3 a0_4 a1_0 a1_1 a1_2 a1_3 a1_4)) else (ratlineref21_Pair.j0 k false a0_0 a0_1 a0_2 a0_3 a0_4 a1_0 a1_1 a1_2 a1_3 a1_4)) = some (r1, r2, r3, r4, r5, r6) := h
  clear h
  have HC3 := Aside0.mk H
  clear H
  go_enter Try.func7, Try.ntmps7
  go_upto_region 1 with (first | ((with_reducible refine gate_dst (N := 2) rfl ?_); refine box_event ?hg (N := 2) ?hd (cs := #[.int .i64 a0_0, .int .i64 a0_1, .int .i64 a0_2, .int .i64 a0_3, .int .i64 a0_4]) (t := 23) ?hr ?_; (case hd => rfl); (case hg => rfl); (case hr => first | (go_simp; done) | (go_simp; rfl)); intro gb233 hg w4 hbox hb; have n0_ := Aside0.mk (below_step (by repeat (first | (with_reducible first | exact HB.out | apply below_alloc | apply pw_below_drewN | apply below_drew1) | exact HB.out)) hb); have n1_ := Aside0.mk (hbox); have n2_ := Aside0.mk ((by rw [hg]; exact (below_size (by repeat (first | (with_reducible first | exact HB.out | apply below_alloc | apply pw_below_drewN | apply below_drew1) | exact HB.out))) : w.heap.size ≤ gb233)); have n3_ := Aside0.mk ((by rw [hg]; exact (below_size (by repeat (first | (with_reducible first | exact HB.out | apply below_alloc | apply pw_below_drewN | apply below_drew1) | exact HB.out))) : w.heap.size ≤ gb233)); clear HB; have HB := n0_; have BK233 := n1_; have GW233 := n2_; have GE233 := n3_; clear n0_ n1_ n2_ n3_; clear hb hbox hg) | ((with_reducible refine gate_dst (N := 3) rfl ?_); refine box_event ?hg (N := 3) ?hd (cs := #[.int .i64 a1_0, .int .i64 a1_1, .int .i64 a1_2, .int .i64 a1_3, .int .i64 a1_4]) (t := 23) ?hr ?_; (case hd => rfl); (case hg => rfl); (case hr => first | (go_simp; done) | (go_simp; rfl)); intro gb234 hg w5 hbox hb; have n0_ := Aside0.mk (blk_below (g := gb233) (o := .cells #[.int .i64 a0_0, .int .i64 a0_1, .int .i64 a0_2, .int .i64 a0_3, .int .i64 a0_4] 23 (0, 0)) (by (with_reducible repeat (first | refine blk_drewN ?_ _ | refine blk_drew ?_ | refine blk_alloc ?_ _)); exact BK233.out) hb); have n1_ := Aside0.mk (below_step (by repeat (first | (with_reducible first | exact HB.out | apply below_alloc | apply pw_below_drewN | apply below_drew1 | refine below_set ?_ GE233.out) | exact HB.out)) hb); have n2_ := Aside0.mk (hbox); have n3_ := Aside0.mk ((by rw [hg]; exact (below_size (by repeat (first | (with_reducible first | exact HB.out | apply below_alloc | apply pw_below_drewN | apply below_drew1 | refine below_set ?_ GE233.out) | exact HB.out))) : w.heap.size ≤ gb234)); have n4_ := Aside0.mk ((by rw [hg]; exact (below_size (by repeat (first | (with_reducible first | exact HB.out | apply below_alloc | apply pw_below_drewN | apply below_drew1 | refine below_set ?_ GE233.out) | exact HB.out))) : w.heap.size ≤ gb234)); have n5_ := Aside0.mk ((by rw [hg]; exact Nat.ne_of_lt (blk_lt (g := gb233) (o := .cells #[.int .i64 a0_0, .int .i64 a0_1, .int .i64 a0_2, .int .i64 a0_3, .int .i64 a0_4] 23 (0, 0)) (by (with_reducible repeat (first | refine blk_drewN ?_ _ | refine blk_drew ?_ | refine blk_alloc ?_ _)); exact BK233.out)) : gb233 ≠ gb234)); have n6_ := Aside0.mk ((by rw [hg]; exact Nat.ne_of_gt (blk_lt (g := gb233) (o := .cells #[.int .i64 a0_0, .int .i64 a0_1, .int .i64 a0_2, .int .i64 a0_3, .int .i64 a0_4] 23 (0, 0)) (by (with_reducible repeat (first | refine blk_drewN ?_ _ | refine blk_drew ?_ | refine blk_alloc ?_ _)); exact BK233.out)) : gb234 ≠ gb233)); clear BK233; clear HB; have BK233 := n0_; have HB := n1_; have BK234 := n2_; have GW234 := n3_; have GE234 := n4_; have NB233_234 := n5_; have NB234_233 := n6_; clear n0_ n1_ n2_ n3_ n4_ n5_ n6_; clear hb hbox hg) | ((with_reducible refine gate_dst (N := 4) rfl ?_); refine box_event ?hg (N := 4) ?hd (cs := #[.int .i64 0, .int .i64 0, .int .i64 0, .int .i64 0, .int .i64 0]) (t := 23) ?hr ?_; (case hd => rfl); (case hg => rfl); (case hr => first | (go_simp; done) | (go_simp; rfl)); intro gb235 hg w6 hbox hb; have n0_ := Aside0.mk (blk_below (g := gb233) (o := .cells #[.int .i64 a0_0, .int .i64 a0_1, .int .i64 a0_2, .int .i64 a0_3, .int .i64 a0_4] 23 (0, 0)) (by (with_reducible repeat (first | refine blk_drewN ?_ _ | refine blk_drew ?_ | refine blk_alloc ?_ _)); exact BK233.out) hb); have n1_ := Aside0.mk (blk_below (g := gb234) (o := .cells #[.int .i64 a1_0, .int .i64 a1_1, .int .i64 a1_2, .int .i64 a1_3, .int .i64 a1_4] 23 (0, 0)) (by (with_reducible repeat (first | refine blk_drewN ?_ _ | refine blk_drew ?_ | refine blk_alloc ?_ _)); exact BK234.out) hb); have n2_ := Aside0.mk (below_step (by repeat (first | (with_reducible first | exact HB.out | apply below_alloc | apply pw_below_drewN | apply below_drew1 | refine below_set ?_ GE233.out | refine below_set ?_ GE234.out) | exact HB.out)) hb); have n3_ := Aside0.mk (hbox); have n4_ := Aside0.mk ((by rw [hg]; exact (below_size (by repeat (first | (with_reducible first | exact HB.out | apply below_alloc | apply pw_below_drewN | apply below_drew1 | refine below_set ?_ GE233.out | refine below_set ?_ GE234.out) | exact HB.out))) : w.heap.size ≤ gb235)); have n5_ := Aside0.mk ((by rw [hg]; exact (below_size (by repeat (first | (with_reducible first | exact HB.out | apply below_alloc | apply pw_below_drewN | apply below_drew1 | refine below_set ?_ GE233.out | refine below_set ?_ GE234.out) | exact HB.out))) : w.heap.size ≤ gb235)); have n6_ := Aside0.mk ((by rw [hg]; exact Nat.ne_of_lt (blk_lt (g := gb233) (o := .cells #[.int .i64 a0_0, .int .i64 a0_1, .int .i64 a0_2, .int .i64 a0_3, .int .i64 a0_4] 23 (0, 0)) (by (with_reducible repeat (first | refine blk_drewN ?_ _ | refine blk_drew ?_ | refine blk_alloc ?_ _)); exact BK233.out)) : gb233 ≠ gb235)); have n7_ := Aside0.mk ((by rw [hg]; exact Nat.ne_of_gt (blk_lt (g := gb233) (o := .cells #[.int .i64 a0_0, .int .i64 a0_1, .int .i64 a0_2, .int .i64 a0_3, .int .i64 a0_4] 23 (0, 0)) (by (with_reducible repeat (first | refine blk_drewN ?_ _ | refine blk_drew ?_ | refine blk_alloc ?_ _)); exact BK233.out)) : gb235 ≠ gb233)); have n8_ := Aside0.mk ((by rw [hg]; exact Nat.ne_of_lt (blk_lt (g := gb234) (o := .cells #[.int .i64 a1_0, .int .i64 a1_1, .int .i64 a1_2, .int .i64 a1_3, .int .i64 a1_4] 23 (0, 0)) (by (with_reducible repeat (first | refine blk_drewN ?_ _ | refine blk_drew ?_ | refine blk_alloc ?_ _)); exact BK234.out)) : gb234 ≠ gb235)); have n9_ := Aside0.mk ((by rw [hg]; exact Nat.ne_of_gt (blk_lt (g := gb234) (o := .cells #[.int .i64 a1_0, .int .i64 a1_1, .int .i64 a1_2, .int .i64 a1_3, .int .i64 a1_4] 23 (0, 0)) (by (with_reducible repeat (first | refine blk_drewN ?_ _ | refine blk_drew ?_ | refine blk_alloc ?_ _)); exact BK234.out)) : gb235 ≠ gb234)); clear BK233; clear BK234; clear HB; have BK233 := n0_; have BK234 := n1_; have HB := n2_; have BK235 := n3_; have GW235 := n4_; have GE235 := n5_; have NB233_235 := n6_; have NB235_233 := n7_; have NB234_235 := n8_; have NB235_234 := n9_; clear n0_ n1_ n2_ n3_ n4_ n5_ n6_ n7_ n8_ n9_; clear hb hbox hg))
  (try simp only [Act.put, List.setIfInBounds_toArray, List.set_cons_zero, List.set_cons_succ])
  go_cut [6] (fun v6 wc => ∃ (kq : Nat) (x6_2 : Bool), v6 = .bool x6_2 ∧ Aside0 (ratlineref21_Pair.j0 kq x6_2 a0_0 a0_1 a0_2 a0_3 a0_4 a1_0 a1_1 a1_2 a1_3 a1_4 = some (r1, r2, r3, r4, r5, r6)) ∧ Aside0 (kq ≤ k) ∧ Aside0 (wc.heap[gb233]? = some (.cells #[.int .i64 a0_0, .int .i64 a0_1, .int .i64 a0_2, .int .i64 a0_3, .int .i64 a0_4] 23 (0, 0))) ∧ Aside0 (wc.heap[gb234]? = some (.cells #[.int .i64 a1_0, .int .i64 a1_1, .int .i64 a1_2, .int .i64 a1_3, .int .i64 a1_4] 23 (0, 0))) ∧ Aside0 (wc.heap[gb235]? = some (.cells #[.int .i64 0, .int .i64 0, .int .i64 0, .int .i64 0, .int .i64 0] 23 (0, 0))) ∧ Aside0 (Below w.heap.size w wc))
  case first =>
    have H := HC3.out
    clear HC3
    by_cases c7 : a0_0 = 2
    · rw [if_pos c7] at H
      have c7b0 : (a0_0 == 2) = true := beq_iff_eq.mpr c7
      have c7b1 : (a0_0 != 2) = false := bne_eq_false_iff_eq.mpr c7
      clear c7
      (first | rw [c7b0] | (simp only [i64_w, i32_w]; rw [c7b0]) | skip)
      by_cases c8 : a1_0 = 2
      · rw [if_pos c8] at H
        have c8b0 : (a1_0 == 2) = true := beq_iff_eq.mpr c8
        have c8b1 : (a1_0 != 2) = false := bne_eq_false_iff_eq.mpr c8
        clear c8
        by_cases c9 : a0_1 ≥ 0
        · rw [if_pos c9] at H
          have c9b0 : decide (0 ≤ a0_1) = true := decide_eq_true c9
          clear c9
          by_cases c10 : a0_2 ≥ 0
          · rw [if_pos c10] at H
            have c10b0 : decide (0 ≤ a0_2) = true := decide_eq_true c10
            clear c10
            by_cases c11 : a1_1 ≥ 0
            · rw [if_pos c11] at H
              have c11b0 : decide (0 ≤ a1_1) = true := decide_eq_true c11
              clear c11
              by_cases c12 : a1_2 ≥ 0
              · rw [if_pos c12] at H
                have c12b0 : decide (0 ≤ a1_2) = true := decide_eq_true c12
                clear c12
                by_cases c13 : a0_1 < 64
                · rw [if_pos c13] at H
                  have c13b0 : decide (a0_1 < 64) = true := decide_eq_true c13
                  clear c13
                  by_cases c14 : a0_2 < 64
                  · rw [if_pos c14] at H
                    have c14b0 : decide (a0_2 < 64) = true := decide_eq_true c14
                    clear c14
                    by_cases c15 : a1_1 < 64
                    · rw [if_pos c15] at H
                      have c15b0 : decide (a1_1 < 64) = true := decide_eq_true c15
                      clear c15
                      have H' := Aside0.mk H
                      clear H
                      have hnb16 := NB233_234.out
                      have hnc16 := NB234_233.out
                      have hnb17 := NB233_235.out
                      have hnc17 := NB235_233.out
                      have hcz18_0 : w6.cell? ⟨gb233, 0, none⟩ = some (.int .i64 a0_0) := (blk_cell BK233.out 0).trans rfl
                      have hcz18_1 : w6.cell? ⟨gb233, 1, none⟩ = some (.int .i64 a0_1) := (blk_cell BK233.out 1).trans rfl
                      have hcz18_2 : w6.cell? ⟨gb233, 2, none⟩ = some (.int .i64 a0_2) := (blk_cell BK233.out 2).trans rfl
                      have hcz18_3 : w6.cell? ⟨gb233, 3, none⟩ = some (.int .i64 a0_3) := (blk_cell BK233.out 3).trans rfl
                      have hcz18_4 : w6.cell? ⟨gb233, 4, none⟩ = some (.int .i64 a0_4) := (blk_cell BK233.out 4).trans rfl
                      have hfz18_0 := blk_frozen BK233.out 0
                      have hfz18_1 := blk_frozen BK233.out 1
                      have hfz18_2 := blk_frozen BK233.out 2
                      have hfz18_3 := blk_frozen BK233.out 3
                      have hfz18_4 := blk_frozen BK233.out 4
                      have hnb19 := NB234_235.out
                      have hnc19 := NB235_234.out
                      have hcz20_0 : w6.cell? ⟨gb234, 0, none⟩ = some (.int .i64 a1_0) := (blk_cell BK234.out 0).trans rfl
                      have hcz20_1 : w6.cell? ⟨gb234, 1, none⟩ = some (.int .i64 a1_1) := (blk_cell BK234.out 1).trans rfl
                      have hcz20_2 : w6.cell? ⟨gb234, 2, none⟩ = some (.int .i64 a1_2) := (blk_cell BK234.out 2).trans rfl
                      have hcz20_3 : w6.cell? ⟨gb234, 3, none⟩ = some (.int .i64 a1_3) := (blk_cell BK234.out 3).trans rfl
                      have hcz20_4 : w6.cell? ⟨gb234, 4, none⟩ = some (.int .i64 a1_4) := (blk_cell BK234.out 4).trans rfl
                      have hfz20_0 := blk_frozen BK234.out 0
                      have hfz20_1 := blk_frozen BK234.out 1
                      have hfz20_2 := blk_frozen BK234.out 2
                      have hfz20_3 := blk_frozen BK234.out 3
                      have hfz20_4 := blk_frozen BK234.out 4
                      go_wp2
                      go_meet
                      case rel => exact ⟨_, (decide (a1_2 < 64)), (by first | rfl | (simp; done) | (simp [*]; done)), H', ⟨by first | omega | exact Nat.le_refl _⟩, ⟨by (with_reducible repeat (first | refine blk_drewN ?_ _ | refine blk_drew ?_ | refine blk_alloc ?_ _)); exact BK233.out⟩, ⟨by (with_reducible repeat (first | refine blk_drewN ?_ _ | refine blk_drew ?_ | refine blk_alloc ?_ _)); exact BK234.out⟩, ⟨by (with_reducible repeat (first | refine blk_drewN ?_ _ | refine blk_drew ?_ | refine blk_alloc ?_ _)); exact BK235.out⟩, ⟨by repeat (first | (with_reducible first | exact HB.out | apply below_alloc | apply pw_below_drewN | apply below_drew1 | refine below_set ?_ GE233.out | refine below_set ?_ GE234.out | refine below_set ?_ GE235.out) | exact HB.out)⟩⟩
                    · rw [if_neg c15] at H
                      have c15b0 : decide (a1_1 < 64) = false := decide_eq_false c15
                      clear c15
                      have H' := Aside0.mk H
                      clear H
                      have hnb21 := NB233_234.out
                      have hnc21 := NB234_233.out
                      have hnb22 := NB233_235.out
                      have hnc22 := NB235_233.out
                      have hcz23_0 : w6.cell? ⟨gb233, 0, none⟩ = some (.int .i64 a0_0) := (blk_cell BK233.out 0).trans rfl
                      have hcz23_1 : w6.cell? ⟨gb233, 1, none⟩ = some (.int .i64 a0_1) := (blk_cell BK233.out 1).trans rfl
                      have hcz23_2 : w6.cell? ⟨gb233, 2, none⟩ = some (.int .i64 a0_2) := (blk_cell BK233.out 2).trans rfl
                      have hcz23_3 : w6.cell? ⟨gb233, 3, none⟩ = some (.int .i64 a0_3) := (blk_cell BK233.out 3).trans rfl
                      have hcz23_4 : w6.cell? ⟨gb233, 4, none⟩ = some (.int .i64 a0_4) := (blk_cell BK233.out 4).trans rfl
                      have hfz23_0 := blk_frozen BK233.out 0
                      have hfz23_1 := blk_frozen BK233.out 1
                      have hfz23_2 := blk_frozen BK233.out 2
                      have hfz23_3 := blk_frozen BK233.out 3
                      have hfz23_4 := blk_frozen BK233.out 4
                      have hnb24 := NB234_235.out
                      have hnc24 := NB235_234.out
                      have hcz25_0 : w6.cell? ⟨gb234, 0, none⟩ = some (.int .i64 a1_0) := (blk_cell BK234.out 0).trans rfl
                      have hcz25_1 : w6.cell? ⟨gb234, 1, none⟩ = some (.int .i64 a1_1) := (blk_cell BK234.out 1).trans rfl
                      have hcz25_2 : w6.cell? ⟨gb234, 2, none⟩ = some (.int .i64 a1_2) := (blk_cell BK234.out 2).trans rfl
                      have hcz25_3 : w6.cell? ⟨gb234, 3, none⟩ = some (.int .i64 a1_3) := (blk_cell BK234.out 3).trans rfl
                      have hcz25_4 : w6.cell? ⟨gb234, 4, none⟩ = some (.int .i64 a1_4) := (blk_cell BK234.out 4).trans rfl
                      have hfz25_0 := blk_frozen BK234.out 0
                      have hfz25_1 := blk_frozen BK234.out 1
                      have hfz25_2 := blk_frozen BK234.out 2
                      have hfz25_3 := blk_frozen BK234.out 3
                      have hfz25_4 := blk_frozen BK234.out 4
                      go_wp2
                      go_meet
                      case rel => exact ⟨_, (false), (by first | rfl | (simp; done) | (simp [*]; done)), H', ⟨by first | omega | exact Nat.le_refl _⟩, ⟨by (with_reducible repeat (first | refine blk_drewN ?_ _ | refine blk_drew ?_ | refine blk_alloc ?_ _)); exact BK233.out⟩, ⟨by (with_reducible repeat (first | refine blk_drewN ?_ _ | refine blk_drew ?_ | refine blk_alloc ?_ _)); exact BK234.out⟩, ⟨by (with_reducible repeat (first | refine blk_drewN ?_ _ | refine blk_drew ?_ | refine blk_alloc ?_ _)); exact BK235.out⟩, ⟨by repeat (first | (with_reducible first | exact HB.out | apply below_alloc | apply pw_below_drewN | apply below_drew1 | refine below_set ?_ GE233.out | refine below_set ?_ GE234.out | refine below_set ?_ GE235.out) | exact HB.out)⟩⟩
                  · rw [if_neg c14] at H
                    have c14b0 : decide (a0_2 < 64) = false := decide_eq_false c14
                    clear c14
                    have H' := Aside0.mk H
                    clear H
                    have hnb26 := NB233_234.out
                    have hnc26 := NB234_233.out
                    have hnb27 := NB233_235.out
                    have hnc27 := NB235_233.out
                    have hcz28_0 : w6.cell? ⟨gb233, 0, none⟩ = some (.int .i64 a0_0) := (blk_cell BK233.out 0).trans rfl
                    have hcz28_1 : w6.cell? ⟨gb233, 1, none⟩ = some (.int .i64 a0_1) := (blk_cell BK233.out 1).trans rfl
                    have hcz28_2 : w6.cell? ⟨gb233, 2, none⟩ = some (.int .i64 a0_2) := (blk_cell BK233.out 2).trans rfl
                    have hcz28_3 : w6.cell? ⟨gb233, 3, none⟩ = some (.int .i64 a0_3) := (blk_cell BK233.out 3).trans rfl
                    have hcz28_4 : w6.cell? ⟨gb233, 4, none⟩ = some (.int .i64 a0_4) := (blk_cell BK233.out 4).trans rfl
                    have hfz28_0 := blk_frozen BK233.out 0
                    have hfz28_1 := blk_frozen BK233.out 1
                    have hfz28_2 := blk_frozen BK233.out 2
                    have hfz28_3 := blk_frozen BK233.out 3
                    have hfz28_4 := blk_frozen BK233.out 4
                    have hnb29 := NB234_235.out
                    have hnc29 := NB235_234.out
                    have hcz30_0 : w6.cell? ⟨gb234, 0, none⟩ = some (.int .i64 a1_0) := (blk_cell BK234.out 0).trans rfl
                    have hcz30_1 : w6.cell? ⟨gb234, 1, none⟩ = some (.int .i64 a1_1) := (blk_cell BK234.out 1).trans rfl
                    have hcz30_2 : w6.cell? ⟨gb234, 2, none⟩ = some (.int .i64 a1_2) := (blk_cell BK234.out 2).trans rfl
                    have hcz30_3 : w6.cell? ⟨gb234, 3, none⟩ = some (.int .i64 a1_3) := (blk_cell BK234.out 3).trans rfl
                    have hcz30_4 : w6.cell? ⟨gb234, 4, none⟩ = some (.int .i64 a1_4) := (blk_cell BK234.out 4).trans rfl
                    have hfz30_0 := blk_frozen BK234.out 0
                    have hfz30_1 := blk_frozen BK234.out 1
                    have hfz30_2 := blk_frozen BK234.out 2
                    have hfz30_3 := blk_frozen BK234.out 3
                    have hfz30_4 := blk_frozen BK234.out 4
                    go_wp2
                    go_meet
                    case rel => exact ⟨_, (false), (by first | rfl | (simp; done) | (simp [*]; done)), H', ⟨by first | omega | exact Nat.le_refl _⟩, ⟨by (with_reducible repeat (first | refine blk_drewN ?_ _ | refine blk_drew ?_ | refine blk_alloc ?_ _)); exact BK233.out⟩, ⟨by (with_reducible repeat (first | refine blk_drewN ?_ _ | refine blk_drew ?_ | refine blk_alloc ?_ _)); exact BK234.out⟩, ⟨by (with_reducible repeat (first | refine blk_drewN ?_ _ | refine blk_drew ?_ | refine blk_alloc ?_ _)); exact BK235.out⟩, ⟨by repeat (first | (with_reducible first | exact HB.out | apply below_alloc | apply pw_below_drewN | apply below_drew1 | refine below_set ?_ GE233.out | refine below_set ?_ GE234.out | refine below_set ?_ GE235.out) | exact HB.out)⟩⟩
                · rw [if_neg c13] at H
                  have c13b0 : decide (a0_1 < 64) = false := decide_eq_false c13
                  clear c13
                  have H' := Aside0.mk H
                  clear H
                  have hnb31 := NB233_234.out
                  have hnc31 := NB234_233.out
                  have hnb32 := NB233_235.out
                  have hnc32 := NB235_233.out
                  have hcz33_0 : w6.cell? ⟨gb233, 0, none⟩ = some (.int .i64 a0_0) := (blk_cell BK233.out 0).trans rfl
                  have hcz33_1 : w6.cell? ⟨gb233, 1, none⟩ = some (.int .i64 a0_1) := (blk_cell BK233.out 1).trans rfl
                  have hcz33_2 : w6.cell? ⟨gb233, 2, none⟩ = some (.int .i64 a0_2) := (blk_cell BK233.out 2).trans rfl
                  have hcz33_3 : w6.cell? ⟨gb233, 3, none⟩ = some (.int .i64 a0_3) := (blk_cell BK233.out 3).trans rfl
                  have hcz33_4 : w6.cell? ⟨gb233, 4, none⟩ = some (.int .i64 a0_4) := (blk_cell BK233.out 4).trans rfl
                  have hfz33_0 := blk_frozen BK233.out 0
                  have hfz33_1 := blk_frozen BK233.out 1
                  have hfz33_2 := blk_frozen BK233.out 2
                  have hfz33_3 := blk_frozen BK233.out 3
                  have hfz33_4 := blk_frozen BK233.out 4
                  have hnb34 := NB234_235.out
                  have hnc34 := NB235_234.out
                  have hcz35_0 : w6.cell? ⟨gb234, 0, none⟩ = some (.int .i64 a1_0) := (blk_cell BK234.out 0).trans rfl
                  have hcz35_1 : w6.cell? ⟨gb234, 1, none⟩ = some (.int .i64 a1_1) := (blk_cell BK234.out 1).trans rfl
                  have hcz35_2 : w6.cell? ⟨gb234, 2, none⟩ = some (.int .i64 a1_2) := (blk_cell BK234.out 2).trans rfl
                  have hcz35_3 : w6.cell? ⟨gb234, 3, none⟩ = some (.int .i64 a1_3) := (blk_cell BK234.out 3).trans rfl
                  have hcz35_4 : w6.cell? ⟨gb234, 4, none⟩ = some (.int .i64 a1_4) := (blk_cell BK234.out 4).trans rfl
                  have hfz35_0 := blk_frozen BK234.out 0
                  have hfz35_1 := blk_frozen BK234.out 1
                  have hfz35_2 := blk_frozen BK234.out 2
                  have hfz35_3 := blk_frozen BK234.out 3
                  have hfz35_4 := blk_frozen BK234.out 4
                  go_wp2
                  go_meet
                  case rel => exact ⟨_, (false), (by first | rfl | (simp; done) | (simp [*]; done)), H', ⟨by first | omega | exact Nat.le_refl _⟩, ⟨by (with_reducible repeat (first | refine blk_drewN ?_ _ | refine blk_drew ?_ | refine blk_alloc ?_ _)); exact BK233.out⟩, ⟨by (with_reducible repeat (first | refine blk_drewN ?_ _ | refine blk_drew ?_ | refine blk_alloc ?_ _)); exact BK234.out⟩, ⟨by (with_reducible repeat (first | refine blk_drewN ?_ _ | refine blk_drew ?_ | refine blk_alloc ?_ _)); exact BK235.out⟩, ⟨by repeat (first | (with_reducible first | exact HB.out | apply below_alloc | apply pw_below_drewN | apply below_drew1 | refine below_set ?_ GE233.out | refine below_set ?_ GE234.out | refine below_set ?_ GE235.out) | exact HB.out)⟩⟩
              · rw [if_neg c12] at H
                have c12b0 : decide (0 ≤ a1_2) = false := decide_eq_false c12
                clear c12
                have H' := Aside0.mk H
                clear H
                have hnb36 := NB233_234.out
                have hnc36 := NB234_233.out
                have hnb37 := NB233_235.out
                have hnc37 := NB235_233.out
                have hcz38_0 : w6.cell? ⟨gb233, 0, none⟩ = some (.int .i64 a0_0) := (blk_cell BK233.out 0).trans rfl
                have hcz38_1 : w6.cell? ⟨gb233, 1, none⟩ = some (.int .i64 a0_1) := (blk_cell BK233.out 1).trans rfl
                have hcz38_2 : w6.cell? ⟨gb233, 2, none⟩ = some (.int .i64 a0_2) := (blk_cell BK233.out 2).trans rfl
                have hcz38_3 : w6.cell? ⟨gb233, 3, none⟩ = some (.int .i64 a0_3) := (blk_cell BK233.out 3).trans rfl
                have hcz38_4 : w6.cell? ⟨gb233, 4, none⟩ = some (.int .i64 a0_4) := (blk_cell BK233.out 4).trans rfl
                have hfz38_0 := blk_frozen BK233.out 0
                have hfz38_1 := blk_frozen BK233.out 1
                have hfz38_2 := blk_frozen BK233.out 2
                have hfz38_3 := blk_frozen BK233.out 3
                have hfz38_4 := blk_frozen BK233.out 4
                have hnb39 := NB234_235.out
                have hnc39 := NB235_234.out
                have hcz40_0 : w6.cell? ⟨gb234, 0, none⟩ = some (.int .i64 a1_0) := (blk_cell BK234.out 0).trans rfl
                have hcz40_1 : w6.cell? ⟨gb234, 1, none⟩ = some (.int .i64 a1_1) := (blk_cell BK234.out 1).trans rfl
                have hcz40_2 : w6.cell? ⟨gb234, 2, none⟩ = some (.int .i64 a1_2) := (blk_cell BK234.out 2).trans rfl
                have hcz40_3 : w6.cell? ⟨gb234, 3, none⟩ = some (.int .i64 a1_3) := (blk_cell BK234.out 3).trans rfl
                have hcz40_4 : w6.cell? ⟨gb234, 4, none⟩ = some (.int .i64 a1_4) := (blk_cell BK234.out 4).trans rfl
                have hfz40_0 := blk_frozen BK234.out 0
                have hfz40_1 := blk_frozen BK234.out 1
                have hfz40_2 := blk_frozen BK234.out 2
                have hfz40_3 := blk_frozen BK234.out 3
                have hfz40_4 := blk_frozen BK234.out 4
                go_wp2
                go_meet
                case rel => exact ⟨_, (false), (by first | rfl | (simp; done) | (simp [*]; done)), H', ⟨by first | omega | exact Nat.le_refl _⟩, ⟨by (with_reducible repeat (first | refine blk_drewN ?_ _ | refine blk_drew ?_ | refine blk_alloc ?_ _)); exact BK233.out⟩, ⟨by (with_reducible repeat (first | refine blk_drewN ?_ _ | refine blk_drew ?_ | refine blk_alloc ?_ _)); exact BK234.out⟩, ⟨by (with_reducible repeat (first | refine blk_drewN ?_ _ | refine blk_drew ?_ | refine blk_alloc ?_ _)); exact BK235.out⟩, ⟨by repeat (first | (with_reducible first | exact HB.out | apply below_alloc | apply pw_below_drewN | apply below_drew1 | refine below_set ?_ GE233.out | refine below_set ?_ GE234.out | refine below_set ?_ GE235.out) | exact HB.out)⟩⟩
            · rw [if_neg c11] at H
              have c11b0 : decide (0 ≤ a1_1) = false := decide_eq_false c11
              clear c11
              have H' := Aside0.mk H
              clear H
              have hnb41 := NB233_234.out
              have hnc41 := NB234_233.out
              have hnb42 := NB233_235.out
              have hnc42 := NB235_233.out
              have hcz43_0 : w6.cell? ⟨gb233, 0, none⟩ = some (.int .i64 a0_0) := (blk_cell BK233.out 0).trans rfl
              have hcz43_1 : w6.cell? ⟨gb233, 1, none⟩ = some (.int .i64 a0_1) := (blk_cell BK233.out 1).trans rfl
              have hcz43_2 : w6.cell? ⟨gb233, 2, none⟩ = some (.int .i64 a0_2) := (blk_cell BK233.out 2).trans rfl
              have hcz43_3 : w6.cell? ⟨gb233, 3, none⟩ = some (.int .i64 a0_3) := (blk_cell BK233.out 3).trans rfl
              have hcz43_4 : w6.cell? ⟨gb233, 4, none⟩ = some (.int .i64 a0_4) := (blk_cell BK233.out 4).trans rfl
              have hfz43_0 := blk_frozen BK233.out 0
              have hfz43_1 := blk_frozen BK233.out 1
              have hfz43_2 := blk_frozen BK233.out 2
              have hfz43_3 := blk_frozen BK233.out 3
              have hfz43_4 := blk_frozen BK233.out 4
              have hnb44 := NB234_235.out
              have hnc44 := NB235_234.out
              have hcz45_0 : w6.cell? ⟨gb234, 0, none⟩ = some (.int .i64 a1_0) := (blk_cell BK234.out 0).trans rfl
              have hcz45_1 : w6.cell? ⟨gb234, 1, none⟩ = some (.int .i64 a1_1) := (blk_cell BK234.out 1).trans rfl
              have hcz45_2 : w6.cell? ⟨gb234, 2, none⟩ = some (.int .i64 a1_2) := (blk_cell BK234.out 2).trans rfl
              have hcz45_3 : w6.cell? ⟨gb234, 3, none⟩ = some (.int .i64 a1_3) := (blk_cell BK234.out 3).trans rfl
              have hcz45_4 : w6.cell? ⟨gb234, 4, none⟩ = some (.int .i64 a1_4) := (blk_cell BK234.out 4).trans rfl
              have hfz45_0 := blk_frozen BK234.out 0
              have hfz45_1 := blk_frozen BK234.out 1
              have hfz45_2 := blk_frozen BK234.out 2
              have hfz45_3 := blk_frozen BK234.out 3
              have hfz45_4 := blk_frozen BK234.out 4
              go_wp2
              go_meet
              case rel => exact ⟨_, (false), (by first | rfl | (simp; done) | (simp [*]; done)), H', ⟨by first | omega | exact Nat.le_refl _⟩, ⟨by (with_reducible repeat (first | refine blk_drewN ?_ _ | refine blk_drew ?_ | refine blk_alloc ?_ _)); exact BK233.out⟩, ⟨by (with_reducible repeat (first | refine blk_drewN ?_ _ | refine blk_drew ?_ | refine blk_alloc ?_ _)); exact BK234.out⟩, ⟨by (with_reducible repeat (first | refine blk_drewN ?_ _ | refine blk_drew ?_ | refine blk_alloc ?_ _)); exact BK235.out⟩, ⟨by repeat (first | (with_reducible first | exact HB.out | apply below_alloc | apply pw_below_drewN | apply below_drew1 | refine below_set ?_ GE233.out | refine below_set ?_ GE234.out | refine below_set ?_ GE235.out) | exact HB.out)⟩⟩
          · rw [if_neg c10] at H
            have c10b0 : decide (0 ≤ a0_2) = false := decide_eq_false c10
            clear c10
            have H' := Aside0.mk H
            clear H
            have hnb46 := NB233_234.out
            have hnc46 := NB234_233.out
            have hnb47 := NB233_235.out
            have hnc47 := NB235_233.out
            have hcz48_0 : w6.cell? ⟨gb233, 0, none⟩ = some (.int .i64 a0_0) := (blk_cell BK233.out 0).trans rfl
            have hcz48_1 : w6.cell? ⟨gb233, 1, none⟩ = some (.int .i64 a0_1) := (blk_cell BK233.out 1).trans rfl
            have hcz48_2 : w6.cell? ⟨gb233, 2, none⟩ = some (.int .i64 a0_2) := (blk_cell BK233.out 2).trans rfl
            have hcz48_3 : w6.cell? ⟨gb233, 3, none⟩ = some (.int .i64 a0_3) := (blk_cell BK233.out 3).trans rfl
            have hcz48_4 : w6.cell? ⟨gb233, 4, none⟩ = some (.int .i64 a0_4) := (blk_cell BK233.out 4).trans rfl
            have hfz48_0 := blk_frozen BK233.out 0
            have hfz48_1 := blk_frozen BK233.out 1
            have hfz48_2 := blk_frozen BK233.out 2
            have hfz48_3 := blk_frozen BK233.out 3
            have hfz48_4 := blk_frozen BK233.out 4
            have hnb49 := NB234_235.out
            have hnc49 := NB235_234.out
            have hcz50_0 : w6.cell? ⟨gb234, 0, none⟩ = some (.int .i64 a1_0) := (blk_cell BK234.out 0).trans rfl
            have hcz50_1 : w6.cell? ⟨gb234, 1, none⟩ = some (.int .i64 a1_1) := (blk_cell BK234.out 1).trans rfl
            have hcz50_2 : w6.cell? ⟨gb234, 2, none⟩ = some (.int .i64 a1_2) := (blk_cell BK234.out 2).trans rfl
            have hcz50_3 : w6.cell? ⟨gb234, 3, none⟩ = some (.int .i64 a1_3) := (blk_cell BK234.out 3).trans rfl
            have hcz50_4 : w6.cell? ⟨gb234, 4, none⟩ = some (.int .i64 a1_4) := (blk_cell BK234.out 4).trans rfl
            have hfz50_0 := blk_frozen BK234.out 0
            have hfz50_1 := blk_frozen BK234.out 1
            have hfz50_2 := blk_frozen BK234.out 2
            have hfz50_3 := blk_frozen BK234.out 3
            have hfz50_4 := blk_frozen BK234.out 4
            go_wp2
            go_meet
            case rel => exact ⟨_, (false), (by first | rfl | (simp; done) | (simp [*]; done)), H', ⟨by first | omega | exact Nat.le_refl _⟩, ⟨by (with_reducible repeat (first | refine blk_drewN ?_ _ | refine blk_drew ?_ | refine blk_alloc ?_ _)); exact BK233.out⟩, ⟨by (with_reducible repeat (first | refine blk_drewN ?_ _ | refine blk_drew ?_ | refine blk_alloc ?_ _)); exact BK234.out⟩, ⟨by (with_reducible repeat (first | refine blk_drewN ?_ _ | refine blk_drew ?_ | refine blk_alloc ?_ _)); exact BK235.out⟩, ⟨by repeat (first | (with_reducible first | exact HB.out | apply below_alloc | apply pw_below_drewN | apply below_drew1 | refine below_set ?_ GE233.out | refine below_set ?_ GE234.out | refine below_set ?_ GE235.out) | exact HB.out)⟩⟩
        · rw [if_neg c9] at H
          have c9b0 : decide (0 ≤ a0_1) = false := decide_eq_false c9
          clear c9
          have H' := Aside0.mk H
          clear H
          have hnb51 := NB233_234.out
          have hnc51 := NB234_233.out
          have hnb52 := NB233_235.out
          have hnc52 := NB235_233.out
          have hcz53_0 : w6.cell? ⟨gb233, 0, none⟩ = some (.int .i64 a0_0) := (blk_cell BK233.out 0).trans rfl
          have hcz53_1 : w6.cell? ⟨gb233, 1, none⟩ = some (.int .i64 a0_1) := (blk_cell BK233.out 1).trans rfl
          have hcz53_2 : w6.cell? ⟨gb233, 2, none⟩ = some (.int .i64 a0_2) := (blk_cell BK233.out 2).trans rfl
          have hcz53_3 : w6.cell? ⟨gb233, 3, none⟩ = some (.int .i64 a0_3) := (blk_cell BK233.out 3).trans rfl
          have hcz53_4 : w6.cell? ⟨gb233, 4, none⟩ = some (.int .i64 a0_4) := (blk_cell BK233.out 4).trans rfl
          have hfz53_0 := blk_frozen BK233.out 0
          have hfz53_1 := blk_frozen BK233.out 1
          have hfz53_2 := blk_frozen BK233.out 2
          have hfz53_3 := blk_frozen BK233.out 3
          have hfz53_4 := blk_frozen BK233.out 4
          have hnb54 := NB234_235.out
          have hnc54 := NB235_234.out
          have hcz55_0 : w6.cell? ⟨gb234, 0, none⟩ = some (.int .i64 a1_0) := (blk_cell BK234.out 0).trans rfl
          have hcz55_1 : w6.cell? ⟨gb234, 1, none⟩ = some (.int .i64 a1_1) := (blk_cell BK234.out 1).trans rfl
          have hcz55_2 : w6.cell? ⟨gb234, 2, none⟩ = some (.int .i64 a1_2) := (blk_cell BK234.out 2).trans rfl
          have hcz55_3 : w6.cell? ⟨gb234, 3, none⟩ = some (.int .i64 a1_3) := (blk_cell BK234.out 3).trans rfl
          have hcz55_4 : w6.cell? ⟨gb234, 4, none⟩ = some (.int .i64 a1_4) := (blk_cell BK234.out 4).trans rfl
          have hfz55_0 := blk_frozen BK234.out 0
          have hfz55_1 := blk_frozen BK234.out 1
          have hfz55_2 := blk_frozen BK234.out 2
          have hfz55_3 := blk_frozen BK234.out 3
          have hfz55_4 := blk_frozen BK234.out 4
          go_wp2
          go_meet
          case rel => exact ⟨_, (false), (by first | rfl | (simp; done) | (simp [*]; done)), H', ⟨by first | omega | exact Nat.le_refl _⟩, ⟨by (with_reducible repeat (first | refine blk_drewN ?_ _ | refine blk_drew ?_ | refine blk_alloc ?_ _)); exact BK233.out⟩, ⟨by (with_reducible repeat (first | refine blk_drewN ?_ _ | refine blk_drew ?_ | refine blk_alloc ?_ _)); exact BK234.out⟩, ⟨by (with_reducible repeat (first | refine blk_drewN ?_ _ | refine blk_drew ?_ | refine blk_alloc ?_ _)); exact BK235.out⟩, ⟨by repeat (first | (with_reducible first | exact HB.out | apply below_alloc | apply pw_below_drewN | apply below_drew1 | refine below_set ?_ GE233.out | refine below_set ?_ GE234.out | refine below_set ?_ GE235.out) | exact HB.out)⟩⟩
      · rw [if_neg c8] at H
        have c8b0 : (a1_0 == 2) = false := beq_eq_false_iff_ne.mpr c8
        have c8b1 : (a1_0 != 2) = true := bne_iff_ne.mpr c8
        have H' := Aside0.mk H
        clear H
        have hnb56 := NB233_234.out
        have hnc56 := NB234_233.out
        have hnb57 := NB233_235.out
        have hnc57 := NB235_233.out
        have hcz58_0 : w6.cell? ⟨gb233, 0, none⟩ = some (.int .i64 a0_0) := (blk_cell BK233.out 0).trans rfl
        have hcz58_1 : w6.cell? ⟨gb233, 1, none⟩ = some (.int .i64 a0_1) := (blk_cell BK233.out 1).trans rfl
        have hcz58_2 : w6.cell? ⟨gb233, 2, none⟩ = some (.int .i64 a0_2) := (blk_cell BK233.out 2).trans rfl
        have hcz58_3 : w6.cell? ⟨gb233, 3, none⟩ = some (.int .i64 a0_3) := (blk_cell BK233.out 3).trans rfl
        have hcz58_4 : w6.cell? ⟨gb233, 4, none⟩ = some (.int .i64 a0_4) := (blk_cell BK233.out 4).trans rfl
        have hfz58_0 := blk_frozen BK233.out 0
        have hfz58_1 := blk_frozen BK233.out 1
        have hfz58_2 := blk_frozen BK233.out 2
        have hfz58_3 := blk_frozen BK233.out 3
        have hfz58_4 := blk_frozen BK233.out 4
        have hnb59 := NB234_235.out
        have hnc59 := NB235_234.out
        have hcz60_0 : w6.cell? ⟨gb234, 0, none⟩ = some (.int .i64 a1_0) := (blk_cell BK234.out 0).trans rfl
        have hcz60_1 : w6.cell? ⟨gb234, 1, none⟩ = some (.int .i64 a1_1) := (blk_cell BK234.out 1).trans rfl
        have hcz60_2 : w6.cell? ⟨gb234, 2, none⟩ = some (.int .i64 a1_2) := (blk_cell BK234.out 2).trans rfl
        have hcz60_3 : w6.cell? ⟨gb234, 3, none⟩ = some (.int .i64 a1_3) := (blk_cell BK234.out 3).trans rfl
        have hcz60_4 : w6.cell? ⟨gb234, 4, none⟩ = some (.int .i64 a1_4) := (blk_cell BK234.out 4).trans rfl
        have hfz60_0 := blk_frozen BK234.out 0
        have hfz60_1 := blk_frozen BK234.out 1
        have hfz60_2 := blk_frozen BK234.out 2
        have hfz60_3 := blk_frozen BK234.out 3
        have hfz60_4 := blk_frozen BK234.out 4
        go_wp2
        go_meet
        case rel => exact ⟨_, (false), (by first | rfl | (simp; done) | (simp [*]; done)), H', ⟨by first | omega | exact Nat.le_refl _⟩, ⟨by (with_reducible repeat (first | refine blk_drewN ?_ _ | refine blk_drew ?_ | refine blk_alloc ?_ _)); exact BK233.out⟩, ⟨by (with_reducible repeat (first | refine blk_drewN ?_ _ | refine blk_drew ?_ | refine blk_alloc ?_ _)); exact BK234.out⟩, ⟨by (with_reducible repeat (first | refine blk_drewN ?_ _ | refine blk_drew ?_ | refine blk_alloc ?_ _)); exact BK235.out⟩, ⟨by repeat (first | (with_reducible first | exact HB.out | apply below_alloc | apply pw_below_drewN | apply below_drew1 | refine below_set ?_ GE233.out | refine below_set ?_ GE234.out | refine below_set ?_ GE235.out) | exact HB.out)⟩⟩
    · rw [if_neg c7] at H
      have c7b0 : (a0_0 == 2) = false := beq_eq_false_iff_ne.mpr c7
      have c7b1 : (a0_0 != 2) = true := bne_iff_ne.mpr c7
      (first | rw [c7b0] | (simp only [i64_w, i32_w]; rw [c7b0]) | skip)
      have H' := Aside0.mk H
      clear H
      have hnb61 := NB233_234.out
      have hnc61 := NB234_233.out
      have hnb62 := NB233_235.out
      have hnc62 := NB235_233.out
      have hcz63_0 : w6.cell? ⟨gb233, 0, none⟩ = some (.int .i64 a0_0) := (blk_cell BK233.out 0).trans rfl
      have hcz63_1 : w6.cell? ⟨gb233, 1, none⟩ = some (.int .i64 a0_1) := (blk_cell BK233.out 1).trans rfl
      have hcz63_2 : w6.cell? ⟨gb233, 2, none⟩ = some (.int .i64 a0_2) := (blk_cell BK233.out 2).trans rfl
      have hcz63_3 : w6.cell? ⟨gb233, 3, none⟩ = some (.int .i64 a0_3) := (blk_cell BK233.out 3).trans rfl
      have hcz63_4 : w6.cell? ⟨gb233, 4, none⟩ = some (.int .i64 a0_4) := (blk_cell BK233.out 4).trans rfl
      have hfz63_0 := blk_frozen BK233.out 0
      have hfz63_1 := blk_frozen BK233.out 1
      have hfz63_2 := blk_frozen BK233.out 2
      have hfz63_3 := blk_frozen BK233.out 3
      have hfz63_4 := blk_frozen BK233.out 4
      go_wp2
      go_meet
      case rel => exact ⟨_, (false), (by first | rfl | (simp; done) | (simp [*]; done)), H', ⟨by first | omega | exact Nat.le_refl _⟩, ⟨by (with_reducible repeat (first | refine blk_drewN ?_ _ | refine blk_drew ?_ | refine blk_alloc ?_ _)); exact BK233.out⟩, ⟨by (with_reducible repeat (first | refine blk_drewN ?_ _ | refine blk_drew ?_ | refine blk_alloc ?_ _)); exact BK234.out⟩, ⟨by (with_reducible repeat (first | refine blk_drewN ?_ _ | refine blk_drew ?_ | refine blk_alloc ?_ _)); exact BK235.out⟩, ⟨by repeat (first | (with_reducible first | exact HB.out | apply below_alloc | apply pw_below_drewN | apply below_drew1 | refine below_set ?_ GE233.out | refine below_set ?_ GE234.out | refine below_set ?_ GE235.out) | exact HB.out)⟩⟩
  case rest =>
    clear HC3
    try clear c1
    try clear c2
    try clear p2
    try clear c3
    try clear c4
    try clear c5
    try clear c6
    try clear c7
    try clear c7b0
    try clear c7b1
    try clear c8
    try clear c8b0
    try clear c8b1
    try clear c9
    try clear c9b0
    try clear c10
    try clear c10b0
    try clear c11
    try clear c11b0
    try clear c12
    try clear c12b0
    try clear c13
    try clear c13b0
    try clear c14
    try clear c14b0
    try clear c15
    try clear c15b0
    try clear c16
    try clear c17
    try clear c19
    try clear c21
    try clear c22
    try clear c24
    try clear c26
    try clear c27
    try clear c29
    try clear c31
    try clear c32
    try clear c34
    try clear c36
    try clear c37
    try clear c39
    try clear c41
    try clear c42
    try clear c44
    try clear c46
    try clear c47
    try clear c49
    try clear c51
    try clear c52
    try clear c54
    try clear c56
    try clear c57
    try clear c59
    try clear c61
    try clear c62
    try clear hcz18_0
    try clear hcz18_1
    try clear hcz18_2
    try clear hcz18_3
    try clear hcz18_4
    try clear hcz20_0
    try clear hcz20_1
    try clear hcz20_2
    try clear hcz20_3
    try clear hcz20_4
    try clear hcz23_0
    try clear hcz23_1
    try clear hcz23_2
    try clear hcz23_3
    try clear hcz23_4
    try clear hcz25_0
    try clear hcz25_1
    try clear hcz25_2
    try clear hcz25_3
    try clear hcz25_4
    try clear hcz28_0
    try clear hcz28_1
    try clear hcz28_2
    try clear hcz28_3
    try clear hcz28_4
    try clear hcz30_0
    try clear hcz30_1
    try clear hcz30_2
    try clear hcz30_3
    try clear hcz30_4
    try clear hcz33_0
    try clear hcz33_1
    try clear hcz33_2
    try clear hcz33_3
    try clear hcz33_4
    try clear hcz35_0
    try clear hcz35_1
    try clear hcz35_2
    try clear hcz35_3
    try clear hcz35_4
    try clear hcz38_0
    try clear hcz38_1
    try clear hcz38_2
    try clear hcz38_3
    try clear hcz38_4
    try clear hcz40_0
    try clear hcz40_1
    try clear hcz40_2
    try clear hcz40_3
    try clear hcz40_4
    try clear hcz43_0
    try clear hcz43_1
    try clear hcz43_2
    try clear hcz43_3
    try clear hcz43_4
    try clear hcz45_0
    try clear hcz45_1
    try clear hcz45_2
    try clear hcz45_3
    try clear hcz45_4
    try clear hcz48_0
    try clear hcz48_1
    try clear hcz48_2
    try clear hcz48_3
    try clear hcz48_4
    try clear hcz50_0
    try clear hcz50_1
    try clear hcz50_2
    try clear hcz50_3
    try clear hcz50_4
    try clear hcz53_0
    try clear hcz53_1
    try clear hcz53_2
    try clear hcz53_3
    try clear hcz53_4
    try clear hcz55_0
    try clear hcz55_1
    try clear hcz55_2
    try clear hcz55_3
    try clear hcz55_4
    try clear hcz58_0
    try clear hcz58_1
    try clear hcz58_2
    try clear hcz58_3
    try clear hcz58_4
    try clear hcz60_0
    try clear hcz60_1
    try clear hcz60_2
    try clear hcz60_3
    try clear hcz60_4
    try clear hcz63_0
    try clear hcz63_1
    try clear hcz63_2
    try clear hcz63_3
    try clear hcz63_4
    try clear hfz18_0
    try clear hfz18_1
    try clear hfz18_2
    try clear hfz18_3
    try clear hfz18_4
    try clear hfz20_0
    try clear hfz20_1
    try clear hfz20_2
    try clear hfz20_3
    try clear hfz20_4
    try clear hfz23_0
    try clear hfz23_1
    try clear hfz23_2
    try clear hfz23_3
    try clear hfz23_4
    try clear hfz25_0
    try clear hfz25_1
    try clear hfz25_2
    try clear hfz25_3
    try clear hfz25_4
    try clear hfz28_0
    try clear hfz28_1
    try clear hfz28_2
    try clear hfz28_3
    try clear hfz28_4
    try clear hfz30_0
    try clear hfz30_1
    try clear hfz30_2
    try clear hfz30_3
    try clear hfz30_4
    try clear hfz33_0
    try clear hfz33_1
    try clear hfz33_2
    try clear hfz33_3
    try clear hfz33_4
    try clear hfz35_0
    try clear hfz35_1
    try clear hfz35_2
    try clear hfz35_3
    try clear hfz35_4
    try clear hfz38_0
    try clear hfz38_1
    try clear hfz38_2
    try clear hfz38_3
    try clear hfz38_4
    try clear hfz40_0
    try clear hfz40_1
    try clear hfz40_2
    try clear hfz40_3
    try clear hfz40_4
    try clear hfz43_0
    try clear hfz43_1
    try clear hfz43_2
    try clear hfz43_3
    try clear hfz43_4
    try clear hfz45_0
    try clear hfz45_1
    try clear hfz45_2
    try clear hfz45_3
    try clear hfz45_4
    try clear hfz48_0
    try clear hfz48_1
    try clear hfz48_2
    try clear hfz48_3
    try clear hfz48_4
    try clear hfz50_0
    try clear hfz50_1
    try clear hfz50_2
    try clear hfz50_3
    try clear hfz50_4
    try clear hfz53_0
    try clear hfz53_1
    try clear hfz53_2
    try clear hfz53_3
    try clear hfz53_4
    try clear hfz55_0
    try clear hfz55_1
    try clear hfz55_2
    try clear hfz55_3
    try clear hfz55_4
    try clear hfz58_0
    try clear hfz58_1
    try clear hfz58_2
    try clear hfz58_3
    try clear hfz58_4
    try clear hfz60_0
    try clear hfz60_1
    try clear hfz60_2
    try clear hfz60_3
    try clear hfz60_4
    try clear hfz63_0
    try clear hfz63_1
    try clear hfz63_2
    try clear hfz63_3
    try clear hfz63_4
    obtain ⟨kq, x6_2, rfl, HA, HJ2, BK233, BK234, BK235, HB⟩ := hcut
    cases kq with
    | zero => exact absurd HA.out (by simp [ratlineref21_Pair.j0])
    | succ kj2 =>
      have H := HA.out
      clear HA
      simp only [ratlineref21_Pair.j0] at H
      by_cases c64 : x6_2 = true
      · subst c64
        have H1 : (some (15, a0_1, a0_2, a1_1, a1_2, true)) = some (r1, r2, r3, r4, r5, r6) := by rw [if_pos rfl] at H; exact H
        clear H
        have H := H1
        clear H1
        simp only [Option.some.injEq, Prod.mk.injEq] at H
        obtain ⟨rfl, rfl, rfl, rfl, rfl, rfl⟩ := H
        have hnb65 := NB233_234.out
        have hnc65 := NB234_233.out
        have hnb66 := NB233_235.out
        have hnc66 := NB235_233.out
        have hcz67_0 : wc.cell? ⟨gb233, 0, none⟩ = some (.int .i64 a0_0) := (blk_cell BK233.out 0).trans rfl
        have hcz67_1 : wc.cell? ⟨gb233, 1, none⟩ = some (.int .i64 a0_1) := (blk_cell BK233.out 1).trans rfl
        have hcz67_2 : wc.cell? ⟨gb233, 2, none⟩ = some (.int .i64 a0_2) := (blk_cell BK233.out 2).trans rfl
        have hcz67_3 : wc.cell? ⟨gb233, 3, none⟩ = some (.int .i64 a0_3) := (blk_cell BK233.out 3).trans rfl
        have hcz67_4 : wc.cell? ⟨gb233, 4, none⟩ = some (.int .i64 a0_4) := (blk_cell BK233.out 4).trans rfl
        have hfz67_0 := blk_frozen BK233.out 0
        have hfz67_1 := blk_frozen BK233.out 1
        have hfz67_2 := blk_frozen BK233.out 2
        have hfz67_3 := blk_frozen BK233.out 3
        have hfz67_4 := blk_frozen BK233.out 4
        have hnb68 := NB234_235.out
        have hnc68 := NB235_234.out
        have hcz69_0 : wc.cell? ⟨gb234, 0, none⟩ = some (.int .i64 a1_0) := (blk_cell BK234.out 0).trans rfl
        have hcz69_1 : wc.cell? ⟨gb234, 1, none⟩ = some (.int .i64 a1_1) := (blk_cell BK234.out 1).trans rfl
        have hcz69_2 : wc.cell? ⟨gb234, 2, none⟩ = some (.int .i64 a1_2) := (blk_cell BK234.out 2).trans rfl
        have hcz69_3 : wc.cell? ⟨gb234, 3, none⟩ = some (.int .i64 a1_3) := (blk_cell BK234.out 3).trans rfl
        have hcz69_4 : wc.cell? ⟨gb234, 4, none⟩ = some (.int .i64 a1_4) := (blk_cell BK234.out 4).trans rfl
        have hfz69_0 := blk_frozen BK234.out 0
        have hfz69_1 := blk_frozen BK234.out 1
        have hfz69_2 := blk_frozen BK234.out 2
        have hfz69_3 := blk_frozen BK234.out 3
        have hfz69_4 := blk_frozen BK234.out 4
        have hcz70_0 : wc.cell? ⟨gb235, 0, none⟩ = some (.int .i64 0) := (blk_cell BK235.out 0).trans rfl
        have hcz70_1 : wc.cell? ⟨gb235, 1, none⟩ = some (.int .i64 0) := (blk_cell BK235.out 1).trans rfl
        have hcz70_2 : wc.cell? ⟨gb235, 2, none⟩ = some (.int .i64 0) := (blk_cell BK235.out 2).trans rfl
        have hcz70_3 : wc.cell? ⟨gb235, 3, none⟩ = some (.int .i64 0) := (blk_cell BK235.out 3).trans rfl
        have hcz70_4 : wc.cell? ⟨gb235, 4, none⟩ = some (.int .i64 0) := (blk_cell BK235.out 4).trans rfl
        have hfz70_0 := blk_frozen BK235.out 0
        have hfz70_1 := blk_frozen BK235.out 1
        have hfz70_2 := blk_frozen BK235.out 2
        have hfz70_3 := blk_frozen BK235.out 3
        have hfz70_4 := blk_frozen BK235.out 4
        go_wp2
        refine bodyPost_ret (results_ct rfl _ _ gb235 23 #[.int .i64 15, .int .i64 a0_1, .int .i64 a0_2, .int .i64 a1_1, .int .i64 a1_2] (0, 0) _ rfl (by (with_reducible repeat (first | refine blk_drewN ?_ _ | refine blk_drew ?_ | refine blk_alloc ?_ _)); refine blk_put (cs := #[.int .i64 15, .int .i64 a0_1, .int .i64 a0_2, .int .i64 a1_1, .int .i64 0]) ?_ 4 _ rfl; (with_reducible repeat (first | refine blk_drewN ?_ _ | refine blk_drew ?_ | refine blk_alloc ?_ _)); refine blk_put (cs := #[.int .i64 15, .int .i64 a0_1, .int .i64 a0_2, .int .i64 0, .int .i64 0]) ?_ 3 _ rfl; (with_reducible repeat (first | refine blk_drewN ?_ _ | refine blk_drew ?_ | refine blk_alloc ?_ _)); refine blk_put (cs := #[.int .i64 15, .int .i64 a0_1, .int .i64 0, .int .i64 0, .int .i64 0]) ?_ 2 _ rfl; (with_reducible repeat (first | refine blk_drewN ?_ _ | refine blk_drew ?_ | refine blk_alloc ?_ _)); refine blk_put (cs := #[.int .i64 15, .int .i64 0, .int .i64 0, .int .i64 0, .int .i64 0]) ?_ 1 _ rfl; (with_reducible repeat (first | refine blk_drewN ?_ _ | refine blk_drew ?_ | refine blk_alloc ?_ _)); refine blk_put (cs := #[.int .i64 0, .int .i64 0, .int .i64 0, .int .i64 0, .int .i64 0]) ?_ 0 _ rfl; (with_reducible repeat (first | refine blk_drewN ?_ _ | refine blk_drew ?_ | refine blk_alloc ?_ _)); exact BK235.out) Try.underlying23 rfl (by kernel_rfl)) rfl ?_
        exact ⟨by first | rfl | (simp [errW_none, errW_some] <;> rfl) | (simp [*, errW_none, errW_some] <;> rfl), by repeat (first | (with_reducible first | exact HB.out | apply below_alloc | apply pw_below_drewN | apply below_drew1 | refine below_set ?_ GE233.out | refine below_set ?_ GE234.out | refine below_set ?_ GE235.out) | exact HB.out)⟩
      · replace c64 := Bool.eq_false_iff.mpr c64
        subst c64
        have H1 : (if a0_0 = 1 then (if a1_0 = 7 then (if a0_1 = a1_1 then (if a0_2 ≥ 0 then (ratlineref21_Pair.j1 kj2 (decide (a0_2 ≤ 60000)) a0_0 a0_1 a0_2 a0_3 a0_4 a1_0 a1_1 a1_2 a1_3 a1_4) else (ratlineref21_Pair.j1 kj2 false a0_0 a0_1 a0_2 a0_3 a0_4 a1_0 a1_1 a1_2 a1_3 a1_4)) else (ratlineref21_Pair.j1 kj2 false a0_0 a0_1 a0_2 a0_3 a0_4 a1_0 a1_1 a1_2 a1_3 a1_4)) else (ratlineref21_Pair.j1 kj2 false a0_0 a0_1 a0_2 a0_3 a0_4 a1_0 a1_1 a1_2 a1_3 a1_4)) else (ratlineref21_Pair.j1 kj2 false a0_0 a0_1 a0_2 a0_3 a0_4 a1_0 a1_1 a1_2 a1_3 a1_4)) = some (r1, r2, r3, r4, r5, r6) := by rw [if_neg (show ¬ (false = true) by decide)] at H; exact H
        clear H
        have H := H1
        clear H1
        have HC71 := Aside0.mk H
        clear H
        go_upto_region 3 with (fail)
        go_cut [64] (fun v64 wc => ∃ (kq : Nat) (x64_70 : Bool), v64 = .bool x64_70 ∧ Aside0 (ratlineref21_Pair.j1 kq x64_70 a0_0 a0_1 a0_2 a0_3 a0_4 a1_0 a1_1 a1_2 a1_3 a1_4 = some (r1, r2, r3, r4, r5, r6)) ∧ Aside0 (kq ≤ kj2) ∧ Aside0 (wc.heap[gb233]? = some (.cells #[.int .i64 a0_0, .int .i64 a0_1, .int .i64 a0_2, .int .i64 a0_3, .int .i64 a0_4] 23 (0, 0))) ∧ Aside0 (wc.heap[gb234]? = some (.cells #[.int .i64 a1_0, .int .i64 a1_1, .int .i64 a1_2, .int .i64 a1_3, .int .i64 a1_4] 23 (0, 0))) ∧ Aside0 (wc.heap[gb235]? = some (.cells #[.int .i64 0, .int .i64 0, .int .i64 0, .int .i64 0, .int .i64 0] 23 (0, 0))) ∧ Aside0 (Below w.heap.size w wc))
        case first =>
          have H := HC71.out
          clear HC71
          by_cases c72 : a0_0 = 1
          · rw [if_pos c72] at H
            have c72b0 : (a0_0 == 1) = true := beq_iff_eq.mpr c72
            have c72b1 : (a0_0 != 1) = false := bne_eq_false_iff_eq.mpr c72
            clear c72
            (first | rw [c72b0] | (simp only [i64_w, i32_w]; rw [c72b0]) | skip)
            by_cases c73 : a1_0 = 7
            · rw [if_pos c73] at H
              have c73b0 : (a1_0 == 7) = true := beq_iff_eq.mpr c73
              have c73b1 : (a1_0 != 7) = false := bne_eq_false_iff_eq.mpr c73
              clear c73
              by_cases c74 : a0_1 = a1_1
              · rw [if_pos c74] at H
                have c74b0 : (a0_1 == a1_1) = true := beq_iff_eq.mpr c74
                have c74b1 : (a0_1 != a1_1) = false := bne_eq_false_iff_eq.mpr c74
                clear c74
                by_cases c75 : a0_2 ≥ 0
                · rw [if_pos c75] at H
                  have c75b0 : decide (0 ≤ a0_2) = true := decide_eq_true c75
                  clear c75
                  have H' := Aside0.mk H
                  clear H
                  have hnb76 := NB233_234.out
                  have hnc76 := NB234_233.out
                  have hnb77 := NB233_235.out
                  have hnc77 := NB235_233.out
                  have hcz78_0 : wc.cell? ⟨gb233, 0, none⟩ = some (.int .i64 a0_0) := (blk_cell BK233.out 0).trans rfl
                  have hcz78_1 : wc.cell? ⟨gb233, 1, none⟩ = some (.int .i64 a0_1) := (blk_cell BK233.out 1).trans rfl
                  have hcz78_2 : wc.cell? ⟨gb233, 2, none⟩ = some (.int .i64 a0_2) := (blk_cell BK233.out 2).trans rfl
                  have hcz78_3 : wc.cell? ⟨gb233, 3, none⟩ = some (.int .i64 a0_3) := (blk_cell BK233.out 3).trans rfl
                  have hcz78_4 : wc.cell? ⟨gb233, 4, none⟩ = some (.int .i64 a0_4) := (blk_cell BK233.out 4).trans rfl
                  have hfz78_0 := blk_frozen BK233.out 0
                  have hfz78_1 := blk_frozen BK233.out 1
                  have hfz78_2 := blk_frozen BK233.out 2
                  have hfz78_3 := blk_frozen BK233.out 3
                  have hfz78_4 := blk_frozen BK233.out 4
                  have hnb79 := NB234_235.out
                  have hnc79 := NB235_234.out
                  have hcz80_0 : wc.cell? ⟨gb234, 0, none⟩ = some (.int .i64 a1_0) := (blk_cell BK234.out 0).trans rfl
                  have hcz80_1 : wc.cell? ⟨gb234, 1, none⟩ = some (.int .i64 a1_1) := (blk_cell BK234.out 1).trans rfl
                  have hcz80_2 : wc.cell? ⟨gb234, 2, none⟩ = some (.int .i64 a1_2) := (blk_cell BK234.out 2).trans rfl
                  have hcz80_3 : wc.cell? ⟨gb234, 3, none⟩ = some (.int .i64 a1_3) := (blk_cell BK234.out 3).trans rfl
                  have hcz80_4 : wc.cell? ⟨gb234, 4, none⟩ = some (.int .i64 a1_4) := (blk_cell BK234.out 4).trans rfl
                  have hfz80_0 := blk_frozen BK234.out 0
                  have hfz80_1 := blk_frozen BK234.out 1
                  have hfz80_2 := blk_frozen BK234.out 2
                  have hfz80_3 := blk_frozen BK234.out 3
                  have hfz80_4 := blk_frozen BK234.out 4
                  go_wp2
                  go_meet
                  case rel => exact ⟨_, (decide (a0_2 ≤ 60000)), (by first | rfl | (simp; done) | (simp [*]; done)), H', ⟨by have := HJ2.out; first | omega | exact Nat.le_refl _⟩, ⟨by (with_reducible repeat (first | refine blk_drewN ?_ _ | refine blk_drew ?_ | refine blk_alloc ?_ _)); exact BK233.out⟩, ⟨by (with_reducible repeat (first | refine blk_drewN ?_ _ | refine blk_drew ?_ | refine blk_alloc ?_ _)); exact BK234.out⟩, ⟨by (with_reducible repeat (first | refine blk_drewN ?_ _ | refine blk_drew ?_ | refine blk_alloc ?_ _)); exact BK235.out⟩, ⟨by repeat (first | (with_reducible first | exact HB.out | apply below_alloc | apply pw_below_drewN | apply below_drew1 | refine below_set ?_ GE233.out | refine below_set ?_ GE234.out | refine below_set ?_ GE235.out) | exact HB.out)⟩⟩
                · rw [if_neg c75] at H
                  have c75b0 : decide (0 ≤ a0_2) = false := decide_eq_false c75
                  clear c75
                  have H' := Aside0.mk H
                  clear H
                  have hnb81 := NB233_234.out
                  have hnc81 := NB234_233.out
                  have hnb82 := NB233_235.out
                  have hnc82 := NB235_233.out
                  have hcz83_0 : wc.cell? ⟨gb233, 0, none⟩ = some (.int .i64 a0_0) := (blk_cell BK233.out 0).trans rfl
                  have hcz83_1 : wc.cell? ⟨gb233, 1, none⟩ = some (.int .i64 a0_1) := (blk_cell BK233.out 1).trans rfl
                  have hcz83_2 : wc.cell? ⟨gb233, 2, none⟩ = some (.int .i64 a0_2) := (blk_cell BK233.out 2).trans rfl
                  have hcz83_3 : wc.cell? ⟨gb233, 3, none⟩ = some (.int .i64 a0_3) := (blk_cell BK233.out 3).trans rfl
                  have hcz83_4 : wc.cell? ⟨gb233, 4, none⟩ = some (.int .i64 a0_4) := (blk_cell BK233.out 4).trans rfl
                  have hfz83_0 := blk_frozen BK233.out 0
                  have hfz83_1 := blk_frozen BK233.out 1
                  have hfz83_2 := blk_frozen BK233.out 2
                  have hfz83_3 := blk_frozen BK233.out 3
                  have hfz83_4 := blk_frozen BK233.out 4
                  have hnb84 := NB234_235.out
                  have hnc84 := NB235_234.out
                  have hcz85_0 : wc.cell? ⟨gb234, 0, none⟩ = some (.int .i64 a1_0) := (blk_cell BK234.out 0).trans rfl
                  have hcz85_1 : wc.cell? ⟨gb234, 1, none⟩ = some (.int .i64 a1_1) := (blk_cell BK234.out 1).trans rfl
                  have hcz85_2 : wc.cell? ⟨gb234, 2, none⟩ = some (.int .i64 a1_2) := (blk_cell BK234.out 2).trans rfl
                  have hcz85_3 : wc.cell? ⟨gb234, 3, none⟩ = some (.int .i64 a1_3) := (blk_cell BK234.out 3).trans rfl
                  have hcz85_4 : wc.cell? ⟨gb234, 4, none⟩ = some (.int .i64 a1_4) := (blk_cell BK234.out 4).trans rfl
                  have hfz85_0 := blk_frozen BK234.out 0
                  have hfz85_1 := blk_frozen BK234.out 1
                  have hfz85_2 := blk_frozen BK234.out 2
                  have hfz85_3 := blk_frozen BK234.out 3
                  have hfz85_4 := blk_frozen BK234.out 4
                  go_wp2
                  go_meet
                  case rel => exact ⟨_, (false), (by first | rfl | (simp; done) | (simp [*]; done)), H', ⟨by have := HJ2.out; first | omega | exact Nat.le_refl _⟩, ⟨by (with_reducible repeat (first | refine blk_drewN ?_ _ | refine blk_drew ?_ | refine blk_alloc ?_ _)); exact BK233.out⟩, ⟨by (with_reducible repeat (first | refine blk_drewN ?_ _ | refine blk_drew ?_ | refine blk_alloc ?_ _)); exact BK234.out⟩, ⟨by (with_reducible repeat (first | refine blk_drewN ?_ _ | refine blk_drew ?_ | refine blk_alloc ?_ _)); exact BK235.out⟩, ⟨by repeat (first | (with_reducible first | exact HB.out | apply below_alloc | apply pw_below_drewN | apply below_drew1 | refine below_set ?_ GE233.out | refine below_set ?_ GE234.out | refine below_set ?_ GE235.out) | exact HB.out)⟩⟩
              · rw [if_neg c74] at H
                have c74b0 : (a0_1 == a1_1) = false := beq_eq_false_iff_ne.mpr c74
                have c74b1 : (a0_1 != a1_1) = true := bne_iff_ne.mpr c74
                have H' := Aside0.mk H
                clear H
                have hnb86 := NB233_234.out
                have hnc86 := NB234_233.out
                have hnb87 := NB233_235.out
                have hnc87 := NB235_233.out
                have hcz88_0 : wc.cell? ⟨gb233, 0, none⟩ = some (.int .i64 a0_0) := (blk_cell BK233.out 0).trans rfl
                have hcz88_1 : wc.cell? ⟨gb233, 1, none⟩ = some (.int .i64 a0_1) := (blk_cell BK233.out 1).trans rfl
                have hcz88_2 : wc.cell? ⟨gb233, 2, none⟩ = some (.int .i64 a0_2) := (blk_cell BK233.out 2).trans rfl
                have hcz88_3 : wc.cell? ⟨gb233, 3, none⟩ = some (.int .i64 a0_3) := (blk_cell BK233.out 3).trans rfl
                have hcz88_4 : wc.cell? ⟨gb233, 4, none⟩ = some (.int .i64 a0_4) := (blk_cell BK233.out 4).trans rfl
                have hfz88_0 := blk_frozen BK233.out 0
                have hfz88_1 := blk_frozen BK233.out 1
                have hfz88_2 := blk_frozen BK233.out 2
                have hfz88_3 := blk_frozen BK233.out 3
                have hfz88_4 := blk_frozen BK233.out 4
                have hnb89 := NB234_235.out
                have hnc89 := NB235_234.out
                have hcz90_0 : wc.cell? ⟨gb234, 0, none⟩ = some (.int .i64 a1_0) := (blk_cell BK234.out 0).trans rfl
                have hcz90_1 : wc.cell? ⟨gb234, 1, none⟩ = some (.int .i64 a1_1) := (blk_cell BK234.out 1).trans rfl
                have hcz90_2 : wc.cell? ⟨gb234, 2, none⟩ = some (.int .i64 a1_2) := (blk_cell BK234.out 2).trans rfl
                have hcz90_3 : wc.cell? ⟨gb234, 3, none⟩ = some (.int .i64 a1_3) := (blk_cell BK234.out 3).trans rfl
                have hcz90_4 : wc.cell? ⟨gb234, 4, none⟩ = some (.int .i64 a1_4) := (blk_cell BK234.out 4).trans rfl
                have hfz90_0 := blk_frozen BK234.out 0
                have hfz90_1 := blk_frozen BK234.out 1
                have hfz90_2 := blk_frozen BK234.out 2
                have hfz90_3 := blk_frozen BK234.out 3
                have hfz90_4 := blk_frozen BK234.out 4
                go_wp2
                go_meet
                case rel => exact ⟨_, (false), (by first | rfl | (simp; done) | (simp [*]; done)), H', ⟨by have := HJ2.out; first | omega | exact Nat.le_refl _⟩, ⟨by (with_reducible repeat (first | refine blk_drewN ?_ _ | refine blk_drew ?_ | refine blk_alloc ?_ _)); exact BK233.out⟩, ⟨by (with_reducible repeat (first | refine blk_drewN ?_ _ | refine blk_drew ?_ | refine blk_alloc ?_ _)); exact BK234.out⟩, ⟨by (with_reducible repeat (first | refine blk_drewN ?_ _ | refine blk_drew ?_ | refine blk_alloc ?_ _)); exact BK235.out⟩, ⟨by repeat (first | (with_reducible first | exact HB.out | apply below_alloc | apply pw_below_drewN | apply below_drew1 | refine below_set ?_ GE233.out | refine below_set ?_ GE234.out | refine below_set ?_ GE235.out) | exact HB.out)⟩⟩
            · rw [if_neg c73] at H
              have c73b0 : (a1_0 == 7) = false := beq_eq_false_iff_ne.mpr c73
              have c73b1 : (a1_0 != 7) = true := bne_iff_ne.mpr c73
              have H' := Aside0.mk H
              clear H
              have hnb91 := NB233_234.out
              have hnc91 := NB234_233.out
              have hnb92 := NB233_235.out
              have hnc92 := NB235_233.out
              have hcz93_0 : wc.cell? ⟨gb233, 0, none⟩ = some (.int .i64 a0_0) := (blk_cell BK233.out 0).trans rfl
              have hcz93_1 : wc.cell? ⟨gb233, 1, none⟩ = some (.int .i64 a0_1) := (blk_cell BK233.out 1).trans rfl
              have hcz93_2 : wc.cell? ⟨gb233, 2, none⟩ = some (.int .i64 a0_2) := (blk_cell BK233.out 2).trans rfl
              have hcz93_3 : wc.cell? ⟨gb233, 3, none⟩ = some (.int .i64 a0_3) := (blk_cell BK233.out 3).trans rfl
              have hcz93_4 : wc.cell? ⟨gb233, 4, none⟩ = some (.int .i64 a0_4) := (blk_cell BK233.out 4).trans rfl
              have hfz93_0 := blk_frozen BK233.out 0
              have hfz93_1 := blk_frozen BK233.out 1
              have hfz93_2 := blk_frozen BK233.out 2
              have hfz93_3 := blk_frozen BK233.out 3
              have hfz93_4 := blk_frozen BK233.out 4
              have hnb94 := NB234_235.out
              have hnc94 := NB235_234.out
              have hcz95_0 : wc.cell? ⟨gb234, 0, none⟩ = some (.int .i64 a1_0) := (blk_cell BK234.out 0).trans rfl
              have hcz95_1 : wc.cell? ⟨gb234, 1, none⟩ = some (.int .i64 a1_1) := (blk_cell BK234.out 1).trans rfl
              have hcz95_2 : wc.cell? ⟨gb234, 2, none⟩ = some (.int .i64 a1_2) := (blk_cell BK234.out 2).trans rfl
              have hcz95_3 : wc.cell? ⟨gb234, 3, none⟩ = some (.int .i64 a1_3) := (blk_cell BK234.out 3).trans rfl
              have hcz95_4 : wc.cell? ⟨gb234, 4, none⟩ = some (.int .i64 a1_4) := (blk_cell BK234.out 4).trans rfl
              have hfz95_0 := blk_frozen BK234.out 0
              have hfz95_1 := blk_frozen BK234.out 1
              have hfz95_2 := blk_frozen BK234.out 2
              have hfz95_3 := blk_frozen BK234.out 3
              have hfz95_4 := blk_frozen BK234.out 4
              go_wp2
              go_meet
              case rel => exact ⟨_, (false), (by first | rfl | (simp; done) | (simp [*]; done)), H', ⟨by have := HJ2.out; first | omega | exact Nat.le_refl _⟩, ⟨by (with_reducible repeat (first | refine blk_drewN ?_ _ | refine blk_drew ?_ | refine blk_alloc ?_ _)); exact BK233.out⟩, ⟨by (with_reducible repeat (first | refine blk_drewN ?_ _ | refine blk_drew ?_ | refine blk_alloc ?_ _)); exact BK234.out⟩, ⟨by (with_reducible repeat (first | refine blk_drewN ?_ _ | refine blk_drew ?_ | refine blk_alloc ?_ _)); exact BK235.out⟩, ⟨by repeat (first | (with_reducible first | exact HB.out | apply below_alloc | apply pw_below_drewN | apply below_drew1 | refine below_set ?_ GE233.out | refine below_set ?_ GE234.out | refine below_set ?_ GE235.out) | exact HB.out)⟩⟩
          · rw [if_neg c72] at H
            have c72b0 : (a0_0 == 1) = false := beq_eq_false_iff_ne.mpr c72
            have c72b1 : (a0_0 != 1) = true := bne_iff_ne.mpr c72
            (first | rw [c72b0] | (simp only [i64_w, i32_w]; rw [c72b0]) | skip)
            have H' := Aside0.mk H
            clear H
            have hnb96 := NB233_234.out
            have hnc96 := NB234_233.out
            have hnb97 := NB233_235.out
            have hnc97 := NB235_233.out
            have hcz98_0 : wc.cell? ⟨gb233, 0, none⟩ = some (.int .i64 a0_0) := (blk_cell BK233.out 0).trans rfl
            have hcz98_1 : wc.cell? ⟨gb233, 1, none⟩ = some (.int .i64 a0_1) := (blk_cell BK233.out 1).trans rfl
            have hcz98_2 : wc.cell? ⟨gb233, 2, none⟩ = some (.int .i64 a0_2) := (blk_cell BK233.out 2).trans rfl
            have hcz98_3 : wc.cell? ⟨gb233, 3, none⟩ = some (.int .i64 a0_3) := (blk_cell BK233.out 3).trans rfl
            have hcz98_4 : wc.cell? ⟨gb233, 4, none⟩ = some (.int .i64 a0_4) := (blk_cell BK233.out 4).trans rfl
            have hfz98_0 := blk_frozen BK233.out 0
            have hfz98_1 := blk_frozen BK233.out 1
            have hfz98_2 := blk_frozen BK233.out 2
            have hfz98_3 := blk_frozen BK233.out 3
            have hfz98_4 := blk_frozen BK233.out 4
            go_wp2
            go_meet
            case rel => exact ⟨_, (false), (by first | rfl | (simp; done) | (simp [*]; done)), H', ⟨by have := HJ2.out; first | omega | exact Nat.le_refl _⟩, ⟨by (with_reducible repeat (first | refine blk_drewN ?_ _ | refine blk_drew ?_ | refine blk_alloc ?_ _)); exact BK233.out⟩, ⟨by (with_reducible repeat (first | refine blk_drewN ?_ _ | refine blk_drew ?_ | refine blk_alloc ?_ _)); exact BK234.out⟩, ⟨by (with_reducible repeat (first | refine blk_drewN ?_ _ | refine blk_drew ?_ | refine blk_alloc ?_ _)); exact BK235.out⟩, ⟨by repeat (first | (with_reducible first | exact HB.out | apply below_alloc | apply pw_below_drewN | apply below_drew1 | refine below_set ?_ GE233.out | refine below_set ?_ GE234.out | refine below_set ?_ GE235.out) | exact HB.out)⟩⟩
        case rest =>
          clear HC71
          try clear c1
          try clear c2
          try clear p2
          try clear c3
          try clear c4
          try clear c5
          try clear c6
          try clear c7
          try clear c7b0
          try clear c7b1
          try clear c8
          try clear c8b0
          try clear c8b1
          try clear c9
          try clear c9b0
          try clear c10
          try clear c10b0
          try clear c11
          try clear c11b0
          try clear c12
          try clear c12b0
          try clear c13
          try clear c13b0
          try clear c14
          try clear c14b0
          try clear c15
          try clear c15b0
          try clear c16
          try clear c17
          try clear c19
          try clear c21
          try clear c22
          try clear c24
          try clear c26
          try clear c27
          try clear c29
          try clear c31
          try clear c32
          try clear c34
          try clear c36
          try clear c37
          try clear c39
          try clear c41
          try clear c42
          try clear c44
          try clear c46
          try clear c47
          try clear c49
          try clear c51
          try clear c52
          try clear c54
          try clear c56
          try clear c57
          try clear c59
          try clear c61
          try clear c62
          try clear c64
          try clear c65
          try clear c66
          try clear c68
          try clear c72
          try clear c72b0
          try clear c72b1
          try clear c73
          try clear c73b0
          try clear c73b1
          try clear c74
          try clear c74b0
          try clear c74b1
          try clear c75
          try clear c75b0
          try clear c76
          try clear c77
          try clear c79
          try clear c81
          try clear c82
          try clear c84
          try clear c86
          try clear c87
          try clear c89
          try clear c91
          try clear c92
          try clear c94
          try clear c96
          try clear c97
          try clear hcz18_0
          try clear hcz18_1
          try clear hcz18_2
          try clear hcz18_3
          try clear hcz18_4
          try clear hcz20_0
          try clear hcz20_1
          try clear hcz20_2
          try clear hcz20_3
          try clear hcz20_4
          try clear hcz23_0
          try clear hcz23_1
          try clear hcz23_2
          try clear hcz23_3
          try clear hcz23_4
          try clear hcz25_0
          try clear hcz25_1
          try clear hcz25_2
          try clear hcz25_3
          try clear hcz25_4
          try clear hcz28_0
          try clear hcz28_1
          try clear hcz28_2
          try clear hcz28_3
          try clear hcz28_4
          try clear hcz30_0
          try clear hcz30_1
          try clear hcz30_2
          try clear hcz30_3
          try clear hcz30_4
          try clear hcz33_0
          try clear hcz33_1
          try clear hcz33_2
          try clear hcz33_3
          try clear hcz33_4
          try clear hcz35_0
          try clear hcz35_1
          try clear hcz35_2
          try clear hcz35_3
          try clear hcz35_4
          try clear hcz38_0
          try clear hcz38_1
          try clear hcz38_2
          try clear hcz38_3
          try clear hcz38_4
          try clear hcz40_0
          try clear hcz40_1
          try clear hcz40_2
          try clear hcz40_3
          try clear hcz40_4
          try clear hcz43_0
          try clear hcz43_1
          try clear hcz43_2
          try clear hcz43_3
          try clear hcz43_4
          try clear hcz45_0
          try clear hcz45_1
          try clear hcz45_2
          try clear hcz45_3
          try clear hcz45_4
          try clear hcz48_0
          try clear hcz48_1
          try clear hcz48_2
          try clear hcz48_3
          try clear hcz48_4
          try clear hcz50_0
          try clear hcz50_1
          try clear hcz50_2
          try clear hcz50_3
          try clear hcz50_4
          try clear hcz53_0
          try clear hcz53_1
          try clear hcz53_2
          try clear hcz53_3
          try clear hcz53_4
          try clear hcz55_0
          try clear hcz55_1
          try clear hcz55_2
          try clear hcz55_3
          try clear hcz55_4
          try clear hcz58_0
          try clear hcz58_1
          try clear hcz58_2
          try clear hcz58_3
          try clear hcz58_4
          try clear hcz60_0
          try clear hcz60_1
          try clear hcz60_2
          try clear hcz60_3
          try clear hcz60_4
          try clear hcz63_0
          try clear hcz63_1
          try clear hcz63_2
          try clear hcz63_3
          try clear hcz63_4
          try clear hcz67_0
          try clear hcz67_1
          try clear hcz67_2
          try clear hcz67_3
          try clear hcz67_4
          try clear hcz69_0
          try clear hcz69_1
          try clear hcz69_2
          try clear hcz69_3
          try clear hcz69_4
          try clear hcz70_0
          try clear hcz70_1
          try clear hcz70_2
          try clear hcz70_3
          try clear hcz70_4
          try clear hcz78_0
          try clear hcz78_1
          try clear hcz78_2
          try clear hcz78_3
          try clear hcz78_4
          try clear hcz80_0
          try clear hcz80_1
          try clear hcz80_2
          try clear hcz80_3
          try clear hcz80_4
          try clear hcz83_0
          try clear hcz83_1
          try clear hcz83_2
          try clear hcz83_3
          try clear hcz83_4
          try clear hcz85_0
          try clear hcz85_1
          try clear hcz85_2
          try clear hcz85_3
          try clear hcz85_4
          try clear hcz88_0
          try clear hcz88_1
          try clear hcz88_2
          try clear hcz88_3
          try clear hcz88_4
          try clear hcz90_0
          try clear hcz90_1
          try clear hcz90_2
          try clear hcz90_3
          try clear hcz90_4
          try clear hcz93_0
          try clear hcz93_1
          try clear hcz93_2
          try clear hcz93_3
          try clear hcz93_4
          try clear hcz95_0
          try clear hcz95_1
          try clear hcz95_2
          try clear hcz95_3
          try clear hcz95_4
          try clear hcz98_0
          try clear hcz98_1
          try clear hcz98_2
          try clear hcz98_3
          try clear hcz98_4
          try clear hfz18_0
          try clear hfz18_1
          try clear hfz18_2
          try clear hfz18_3
          try clear hfz18_4
          try clear hfz20_0
          try clear hfz20_1
          try clear hfz20_2
          try clear hfz20_3
          try clear hfz20_4
          try clear hfz23_0
          try clear hfz23_1
          try clear hfz23_2
          try clear hfz23_3
          try clear hfz23_4
          try clear hfz25_0
          try clear hfz25_1
          try clear hfz25_2
          try clear hfz25_3
          try clear hfz25_4
          try clear hfz28_0
          try clear hfz28_1
          try clear hfz28_2
          try clear hfz28_3
          try clear hfz28_4
          try clear hfz30_0
          try clear hfz30_1
          try clear hfz30_2
          try clear hfz30_3
          try clear hfz30_4
          try clear hfz33_0
          try clear hfz33_1
          try clear hfz33_2
          try clear hfz33_3
          try clear hfz33_4
          try clear hfz35_0
          try clear hfz35_1
          try clear hfz35_2
          try clear hfz35_3
          try clear hfz35_4
          try clear hfz38_0
          try clear hfz38_1
          try clear hfz38_2
          try clear hfz38_3
          try clear hfz38_4
          try clear hfz40_0
          try clear hfz40_1
          try clear hfz40_2
          try clear hfz40_3
          try clear hfz40_4
          try clear hfz43_0
          try clear hfz43_1
          try clear hfz43_2
          try clear hfz43_3
          try clear hfz43_4
          try clear hfz45_0
          try clear hfz45_1
          try clear hfz45_2
          try clear hfz45_3
          try clear hfz45_4
          try clear hfz48_0
          try clear hfz48_1
          try clear hfz48_2
          try clear hfz48_3
          try clear hfz48_4
          try clear hfz50_0
          try clear hfz50_1
          try clear hfz50_2
          try clear hfz50_3
          try clear hfz50_4
          try clear hfz53_0
          try clear hfz53_1
          try clear hfz53_2
          try clear hfz53_3
          try clear hfz53_4
          try clear hfz55_0
          try clear hfz55_1
          try clear hfz55_2
          try clear hfz55_3
          try clear hfz55_4
          try clear hfz58_0
          try clear hfz58_1
          try clear hfz58_2
          try clear hfz58_3
          try clear hfz58_4
          try clear hfz60_0
          try clear hfz60_1
          try clear hfz60_2
          try clear hfz60_3
          try clear hfz60_4
          try clear hfz63_0
          try clear hfz63_1
          try clear hfz63_2
          try clear hfz63_3
          try clear hfz63_4
          try clear hfz67_0
          try clear hfz67_1
          try clear hfz67_2
          try clear hfz67_3
          try clear hfz67_4
          try clear hfz69_0
          try clear hfz69_1
          try clear hfz69_2
          try clear hfz69_3
          try clear hfz69_4
          try clear hfz70_0
          try clear hfz70_1
          try clear hfz70_2
          try clear hfz70_3
          try clear hfz70_4
          try clear hfz78_0
          try clear hfz78_1
          try clear hfz78_2
          try clear hfz78_3
          try clear hfz78_4
          try clear hfz80_0
          try clear hfz80_1
          try clear hfz80_2
          try clear hfz80_3
          try clear hfz80_4
          try clear hfz83_0
          try clear hfz83_1
          try clear hfz83_2
          try clear hfz83_3
          try clear hfz83_4
          try clear hfz85_0
          try clear hfz85_1
          try clear hfz85_2
          try clear hfz85_3
          try clear hfz85_4
          try clear hfz88_0
          try clear hfz88_1
          try clear hfz88_2
          try clear hfz88_3
          try clear hfz88_4
          try clear hfz90_0
          try clear hfz90_1
          try clear hfz90_2
          try clear hfz90_3
          try clear hfz90_4
          try clear hfz93_0
          try clear hfz93_1
          try clear hfz93_2
          try clear hfz93_3
          try clear hfz93_4
          try clear hfz95_0
          try clear hfz95_1
          try clear hfz95_2
          try clear hfz95_3
          try clear hfz95_4
          try clear hfz98_0
          try clear hfz98_1
          try clear hfz98_2
          try clear hfz98_3
          try clear hfz98_4
          try clear p2
          obtain ⟨kq, x64_70, rfl, HA, HJ70, BK233, BK234, BK235, HB⟩ := hcut
          cases kq with
          | zero => exact absurd HA.out (by simp [ratlineref21_Pair.j1])
          | succ kj70 =>
            have H := HA.out
            clear HA
            simp only [ratlineref21_Pair.j1] at H
            by_cases c99 : x64_70 = true
            · subst c99
              have H1 : (some (16, a0_2, 0, 0, 0, true)) = some (r1, r2, r3, r4, r5, r6) := by rw [if_pos rfl] at H; exact H
              clear H
              have H := H1
              clear H1
              simp only [Option.some.injEq, Prod.mk.injEq] at H
              obtain ⟨rfl, rfl, rfl, rfl, rfl, rfl⟩ := H
              have hnb100 := NB233_234.out
              have hnc100 := NB234_233.out
              have hnb101 := NB233_235.out
              have hnc101 := NB235_233.out
              have hcz102_0 : wc.cell? ⟨gb233, 0, none⟩ = some (.int .i64 a0_0) := (blk_cell BK233.out 0).trans rfl
              have hcz102_1 : wc.cell? ⟨gb233, 1, none⟩ = some (.int .i64 a0_1) := (blk_cell BK233.out 1).trans rfl
              have hcz102_2 : wc.cell? ⟨gb233, 2, none⟩ = some (.int .i64 a0_2) := (blk_cell BK233.out 2).trans rfl
              have hcz102_3 : wc.cell? ⟨gb233, 3, none⟩ = some (.int .i64 a0_3) := (blk_cell BK233.out 3).trans rfl
              have hcz102_4 : wc.cell? ⟨gb233, 4, none⟩ = some (.int .i64 a0_4) := (blk_cell BK233.out 4).trans rfl
              have hfz102_0 := blk_frozen BK233.out 0
              have hfz102_1 := blk_frozen BK233.out 1
              have hfz102_2 := blk_frozen BK233.out 2
              have hfz102_3 := blk_frozen BK233.out 3
              have hfz102_4 := blk_frozen BK233.out 4
              have hnb103 := NB235_234.out
              have hnc103 := NB234_235.out
              have hcz104_0 : wc.cell? ⟨gb235, 0, none⟩ = some (.int .i64 0) := (blk_cell BK235.out 0).trans rfl
              have hcz104_1 : wc.cell? ⟨gb235, 1, none⟩ = some (.int .i64 0) := (blk_cell BK235.out 1).trans rfl
              have hcz104_2 : wc.cell? ⟨gb235, 2, none⟩ = some (.int .i64 0) := (blk_cell BK235.out 2).trans rfl
              have hcz104_3 : wc.cell? ⟨gb235, 3, none⟩ = some (.int .i64 0) := (blk_cell BK235.out 3).trans rfl
              have hcz104_4 : wc.cell? ⟨gb235, 4, none⟩ = some (.int .i64 0) := (blk_cell BK235.out 4).trans rfl
              have hfz104_0 := blk_frozen BK235.out 0
              have hfz104_1 := blk_frozen BK235.out 1
              have hfz104_2 := blk_frozen BK235.out 2
              have hfz104_3 := blk_frozen BK235.out 3
              have hfz104_4 := blk_frozen BK235.out 4
              go_wp2
              refine bodyPost_ret (results_ct rfl _ _ gb235 23 #[.int .i64 16, .int .i64 a0_2, .int .i64 0, .int .i64 0, .int .i64 0] (0, 0) _ rfl (by (with_reducible repeat (first | refine blk_drewN ?_ _ | refine blk_drew ?_ | refine blk_alloc ?_ _)); refine blk_put (cs := #[.int .i64 16, .int .i64 a0_2, .int .i64 0, .int .i64 0, .int .i64 0]) ?_ 4 _ rfl; (with_reducible repeat (first | refine blk_drewN ?_ _ | refine blk_drew ?_ | refine blk_alloc ?_ _)); refine blk_put (cs := #[.int .i64 16, .int .i64 a0_2, .int .i64 0, .int .i64 0, .int .i64 0]) ?_ 3 _ rfl; (with_reducible repeat (first | refine blk_drewN ?_ _ | refine blk_drew ?_ | refine blk_alloc ?_ _)); refine blk_put (cs := #[.int .i64 16, .int .i64 a0_2, .int .i64 0, .int .i64 0, .int .i64 0]) ?_ 2 _ rfl; (with_reducible repeat (first | refine blk_drewN ?_ _ | refine blk_drew ?_ | refine blk_alloc ?_ _)); refine blk_put (cs := #[.int .i64 16, .int .i64 0, .int .i64 0, .int .i64 0, .int .i64 0]) ?_ 1 _ rfl; (with_reducible repeat (first | refine blk_drewN ?_ _ | refine blk_drew ?_ | refine blk_alloc ?_ _)); refine blk_put (cs := #[.int .i64 0, .int .i64 0, .int .i64 0, .int .i64 0, .int .i64 0]) ?_ 0 _ rfl; (with_reducible repeat (first | refine blk_drewN ?_ _ | refine blk_drew ?_ | refine blk_alloc ?_ _)); exact BK235.out) Try.underlying23 rfl (by kernel_rfl)) rfl ?_
              exact ⟨by first | rfl | (simp [errW_none, errW_some] <;> rfl) | (simp [*, errW_none, errW_some] <;> rfl), by repeat (first | (with_reducible first | exact HB.out | apply below_alloc | apply pw_below_drewN | apply below_drew1 | refine below_set ?_ GE233.out | refine below_set ?_ GE234.out | refine below_set ?_ GE235.out) | exact HB.out)⟩
            · replace c99 := Bool.eq_false_iff.mpr c99
              subst c99
              have H1 : (if a0_0 = 9 then (if a1_0 = 4 then (if a0_1 ≥ 0 then (if a0_1 ≤ 4095 then (if a1_1 ≥ 0 then (if a1_1 ≤ 4095 then (some (17, a0_1, a1_1, 0, 0, true)) else (some (0, 0, 0, 0, 0, false))) else (some (0, 0, 0, 0, 0, false))) else (some (0, 0, 0, 0, 0, false))) else (some (0, 0, 0, 0, 0, false))) else (some (0, 0, 0, 0, 0, false))) else (some (0, 0, 0, 0, 0, false))) = some (r1, r2, r3, r4, r5, r6) := by rw [if_neg (show ¬ (false = true) by decide)] at H; exact H
              clear H
              have H := H1
              clear H1
              by_cases c105 : a0_0 = 9
              · rw [if_pos c105] at H
                have c105b0 : (a0_0 == 9) = true := beq_iff_eq.mpr c105
                have c105b1 : (a0_0 != 9) = false := bne_eq_false_iff_eq.mpr c105
                clear c105
                by_cases c106 : a1_0 = 4
                · rw [if_pos c106] at H
                  have c106b0 : (a1_0 == 4) = true := beq_iff_eq.mpr c106
                  have c106b1 : (a1_0 != 4) = false := bne_eq_false_iff_eq.mpr c106
                  clear c106
                  by_cases c107 : a0_1 ≥ 0
                  · rw [if_pos c107] at H
                    have c107b0 : decide (0 ≤ a0_1) = true := decide_eq_true c107
                    clear c107
                    by_cases c108 : a0_1 ≤ 4095
                    · rw [if_pos c108] at H
                      have c108b0 : decide (a0_1 ≤ 4095) = true := decide_eq_true c108
                      clear c108
                      by_cases c109 : a1_1 ≥ 0
                      · rw [if_pos c109] at H
                        have c109b0 : decide (0 ≤ a1_1) = true := decide_eq_true c109
                        clear c109
                        by_cases c110 : a1_1 ≤ 4095
                        · rw [if_pos c110] at H
                          have c110b0 : decide (a1_1 ≤ 4095) = true := decide_eq_true c110
                          clear c110
                          simp only [Option.some.injEq, Prod.mk.injEq] at H
                          obtain ⟨rfl, rfl, rfl, rfl, rfl, rfl⟩ := H
                          have hnb111 := NB233_234.out
                          have hnc111 := NB234_233.out
                          have hnb112 := NB233_235.out
                          have hnc112 := NB235_233.out
                          have hcz113_0 : wc.cell? ⟨gb233, 0, none⟩ = some (.int .i64 a0_0) := (blk_cell BK233.out 0).trans rfl
                          have hcz113_1 : wc.cell? ⟨gb233, 1, none⟩ = some (.int .i64 a0_1) := (blk_cell BK233.out 1).trans rfl
                          have hcz113_2 : wc.cell? ⟨gb233, 2, none⟩ = some (.int .i64 a0_2) := (blk_cell BK233.out 2).trans rfl
                          have hcz113_3 : wc.cell? ⟨gb233, 3, none⟩ = some (.int .i64 a0_3) := (blk_cell BK233.out 3).trans rfl
                          have hcz113_4 : wc.cell? ⟨gb233, 4, none⟩ = some (.int .i64 a0_4) := (blk_cell BK233.out 4).trans rfl
                          have hfz113_0 := blk_frozen BK233.out 0
                          have hfz113_1 := blk_frozen BK233.out 1
                          have hfz113_2 := blk_frozen BK233.out 2
                          have hfz113_3 := blk_frozen BK233.out 3
                          have hfz113_4 := blk_frozen BK233.out 4
                          have hnb114 := NB234_235.out
                          have hnc114 := NB235_234.out
                          have hcz115_0 : wc.cell? ⟨gb234, 0, none⟩ = some (.int .i64 a1_0) := (blk_cell BK234.out 0).trans rfl
                          have hcz115_1 : wc.cell? ⟨gb234, 1, none⟩ = some (.int .i64 a1_1) := (blk_cell BK234.out 1).trans rfl
                          have hcz115_2 : wc.cell? ⟨gb234, 2, none⟩ = some (.int .i64 a1_2) := (blk_cell BK234.out 2).trans rfl
                          have hcz115_3 : wc.cell? ⟨gb234, 3, none⟩ = some (.int .i64 a1_3) := (blk_cell BK234.out 3).trans rfl
                          have hcz115_4 : wc.cell? ⟨gb234, 4, none⟩ = some (.int .i64 a1_4) := (blk_cell BK234.out 4).trans rfl
                          have hfz115_0 := blk_frozen BK234.out 0
                          have hfz115_1 := blk_frozen BK234.out 1
                          have hfz115_2 := blk_frozen BK234.out 2
                          have hfz115_3 := blk_frozen BK234.out 3
                          have hfz115_4 := blk_frozen BK234.out 4
                          have hcz116_0 : wc.cell? ⟨gb235, 0, none⟩ = some (.int .i64 0) := (blk_cell BK235.out 0).trans rfl
                          have hcz116_1 : wc.cell? ⟨gb235, 1, none⟩ = some (.int .i64 0) := (blk_cell BK235.out 1).trans rfl
                          have hcz116_2 : wc.cell? ⟨gb235, 2, none⟩ = some (.int .i64 0) := (blk_cell BK235.out 2).trans rfl
                          have hcz116_3 : wc.cell? ⟨gb235, 3, none⟩ = some (.int .i64 0) := (blk_cell BK235.out 3).trans rfl
                          have hcz116_4 : wc.cell? ⟨gb235, 4, none⟩ = some (.int .i64 0) := (blk_cell BK235.out 4).trans rfl
                          have hfz116_0 := blk_frozen BK235.out 0
                          have hfz116_1 := blk_frozen BK235.out 1
                          have hfz116_2 := blk_frozen BK235.out 2
                          have hfz116_3 := blk_frozen BK235.out 3
                          have hfz116_4 := blk_frozen BK235.out 4
                          go_wp2
                          refine bodyPost_ret (results_ct rfl _ _ gb235 23 #[.int .i64 17, .int .i64 a0_1, .int .i64 a1_1, .int .i64 0, .int .i64 0] (0, 0) _ rfl (by (with_reducible repeat (first | refine blk_drewN ?_ _ | refine blk_drew ?_ | refine blk_alloc ?_ _)); refine blk_put (cs := #[.int .i64 17, .int .i64 a0_1, .int .i64 a1_1, .int .i64 0, .int .i64 0]) ?_ 4 _ rfl; (with_reducible repeat (first | refine blk_drewN ?_ _ | refine blk_drew ?_ | refine blk_alloc ?_ _)); refine blk_put (cs := #[.int .i64 17, .int .i64 a0_1, .int .i64 a1_1, .int .i64 0, .int .i64 0]) ?_ 3 _ rfl; (with_reducible repeat (first | refine blk_drewN ?_ _ | refine blk_drew ?_ | refine blk_alloc ?_ _)); refine blk_put (cs := #[.int .i64 17, .int .i64 a0_1, .int .i64 0, .int .i64 0, .int .i64 0]) ?_ 2 _ rfl; (with_reducible repeat (first | refine blk_drewN ?_ _ | refine blk_drew ?_ | refine blk_alloc ?_ _)); refine blk_put (cs := #[.int .i64 17, .int .i64 0, .int .i64 0, .int .i64 0, .int .i64 0]) ?_ 1 _ rfl; (with_reducible repeat (first | refine blk_drewN ?_ _ | refine blk_drew ?_ | refine blk_alloc ?_ _)); refine blk_put (cs := #[.int .i64 0, .int .i64 0, .int .i64 0, .int .i64 0, .int .i64 0]) ?_ 0 _ rfl; (with_reducible repeat (first | refine blk_drewN ?_ _ | refine blk_drew ?_ | refine blk_alloc ?_ _)); exact BK235.out) Try.underlying23 rfl (by kernel_rfl)) rfl ?_
                          exact ⟨by first | rfl | (simp [errW_none, errW_some] <;> rfl) | (simp [*, errW_none, errW_some] <;> rfl), by repeat (first | (with_reducible first | exact HB.out | apply below_alloc | apply pw_below_drewN | apply below_drew1 | refine below_set ?_ GE233.out | refine below_set ?_ GE234.out | refine below_set ?_ GE235.out) | exact HB.out)⟩
                        · rw [if_neg c110] at H
                          have c110b0 : decide (a1_1 ≤ 4095) = false := decide_eq_false c110
                          clear c110
                          simp only [Option.some.injEq, Prod.mk.injEq] at H
                          obtain ⟨rfl, rfl, rfl, rfl, rfl, rfl⟩ := H
                          have hnb117 := NB233_234.out
                          have hnc117 := NB234_233.out
                          have hnb118 := NB233_235.out
                          have hnc118 := NB235_233.out
                          have hcz119_0 : wc.cell? ⟨gb233, 0, none⟩ = some (.int .i64 a0_0) := (blk_cell BK233.out 0).trans rfl
                          have hcz119_1 : wc.cell? ⟨gb233, 1, none⟩ = some (.int .i64 a0_1) := (blk_cell BK233.out 1).trans rfl
                          have hcz119_2 : wc.cell? ⟨gb233, 2, none⟩ = some (.int .i64 a0_2) := (blk_cell BK233.out 2).trans rfl
                          have hcz119_3 : wc.cell? ⟨gb233, 3, none⟩ = some (.int .i64 a0_3) := (blk_cell BK233.out 3).trans rfl
                          have hcz119_4 : wc.cell? ⟨gb233, 4, none⟩ = some (.int .i64 a0_4) := (blk_cell BK233.out 4).trans rfl
                          have hfz119_0 := blk_frozen BK233.out 0
                          have hfz119_1 := blk_frozen BK233.out 1
                          have hfz119_2 := blk_frozen BK233.out 2
                          have hfz119_3 := blk_frozen BK233.out 3
                          have hfz119_4 := blk_frozen BK233.out 4
                          have hnb120 := NB234_235.out
                          have hnc120 := NB235_234.out
                          have hcz121_0 : wc.cell? ⟨gb234, 0, none⟩ = some (.int .i64 a1_0) := (blk_cell BK234.out 0).trans rfl
                          have hcz121_1 : wc.cell? ⟨gb234, 1, none⟩ = some (.int .i64 a1_1) := (blk_cell BK234.out 1).trans rfl
                          have hcz121_2 : wc.cell? ⟨gb234, 2, none⟩ = some (.int .i64 a1_2) := (blk_cell BK234.out 2).trans rfl
                          have hcz121_3 : wc.cell? ⟨gb234, 3, none⟩ = some (.int .i64 a1_3) := (blk_cell BK234.out 3).trans rfl
                          have hcz121_4 : wc.cell? ⟨gb234, 4, none⟩ = some (.int .i64 a1_4) := (blk_cell BK234.out 4).trans rfl
                          have hfz121_0 := blk_frozen BK234.out 0
                          have hfz121_1 := blk_frozen BK234.out 1
                          have hfz121_2 := blk_frozen BK234.out 2
                          have hfz121_3 := blk_frozen BK234.out 3
                          have hfz121_4 := blk_frozen BK234.out 4
                          have hcz122_0 : wc.cell? ⟨gb235, 0, none⟩ = some (.int .i64 0) := (blk_cell BK235.out 0).trans rfl
                          have hcz122_1 : wc.cell? ⟨gb235, 1, none⟩ = some (.int .i64 0) := (blk_cell BK235.out 1).trans rfl
                          have hcz122_2 : wc.cell? ⟨gb235, 2, none⟩ = some (.int .i64 0) := (blk_cell BK235.out 2).trans rfl
                          have hcz122_3 : wc.cell? ⟨gb235, 3, none⟩ = some (.int .i64 0) := (blk_cell BK235.out 3).trans rfl
                          have hcz122_4 : wc.cell? ⟨gb235, 4, none⟩ = some (.int .i64 0) := (blk_cell BK235.out 4).trans rfl
                          have hfz122_0 := blk_frozen BK235.out 0
                          have hfz122_1 := blk_frozen BK235.out 1
                          have hfz122_2 := blk_frozen BK235.out 2
                          have hfz122_3 := blk_frozen BK235.out 3
                          have hfz122_4 := blk_frozen BK235.out 4
                          go_wp2
                          refine bodyPost_ret (results_ct rfl _ _ gb235 23 #[.int .i64 0, .int .i64 0, .int .i64 0, .int .i64 0, .int .i64 0] (0, 0) _ rfl (by (with_reducible repeat (first | refine blk_drewN ?_ _ | refine blk_drew ?_ | refine blk_alloc ?_ _)); refine blk_put (cs := #[.int .i64 0, .int .i64 0, .int .i64 0, .int .i64 0, .int .i64 0]) ?_ 4 _ rfl; (with_reducible repeat (first | refine blk_drewN ?_ _ | refine blk_drew ?_ | refine blk_alloc ?_ _)); refine blk_put (cs := #[.int .i64 0, .int .i64 0, .int .i64 0, .int .i64 0, .int .i64 0]) ?_ 3 _ rfl; (with_reducible repeat (first | refine blk_drewN ?_ _ | refine blk_drew ?_ | refine blk_alloc ?_ _)); refine blk_put (cs := #[.int .i64 0, .int .i64 0, .int .i64 0, .int .i64 0, .int .i64 0]) ?_ 2 _ rfl; (with_reducible repeat (first | refine blk_drewN ?_ _ | refine blk_drew ?_ | refine blk_alloc ?_ _)); refine blk_put (cs := #[.int .i64 0, .int .i64 0, .int .i64 0, .int .i64 0, .int .i64 0]) ?_ 1 _ rfl; (with_reducible repeat (first | refine blk_drewN ?_ _ | refine blk_drew ?_ | refine blk_alloc ?_ _)); refine blk_put (cs := #[.int .i64 0, .int .i64 0, .int .i64 0, .int .i64 0, .int .i64 0]) ?_ 0 _ rfl; (with_reducible repeat (first | refine blk_drewN ?_ _ | refine blk_drew ?_ | refine blk_alloc ?_ _)); exact BK235.out) Try.underlying23 rfl (by kernel_rfl)) rfl ?_
                          exact ⟨by first | rfl | (simp [errW_none, errW_some] <;> rfl) | (simp [*, errW_none, errW_some] <;> rfl), by repeat (first | (with_reducible first | exact HB.out | apply below_alloc | apply pw_below_drewN | apply below_drew1 | refine below_set ?_ GE233.out | refine below_set ?_ GE234.out | refine below_set ?_ GE235.out) | exact HB.out)⟩
                      · rw [if_neg c109] at H
                        have c109b0 : decide (0 ≤ a1_1) = false := decide_eq_false c109
                        clear c109
                        simp only [Option.some.injEq, Prod.mk.injEq] at H
                        obtain ⟨rfl, rfl, rfl, rfl, rfl, rfl⟩ := H
                        have hnb123 := NB233_234.out
                        have hnc123 := NB234_233.out
                        have hnb124 := NB233_235.out
                        have hnc124 := NB235_233.out
                        have hcz125_0 : wc.cell? ⟨gb233, 0, none⟩ = some (.int .i64 a0_0) := (blk_cell BK233.out 0).trans rfl
                        have hcz125_1 : wc.cell? ⟨gb233, 1, none⟩ = some (.int .i64 a0_1) := (blk_cell BK233.out 1).trans rfl
                        have hcz125_2 : wc.cell? ⟨gb233, 2, none⟩ = some (.int .i64 a0_2) := (blk_cell BK233.out 2).trans rfl
                        have hcz125_3 : wc.cell? ⟨gb233, 3, none⟩ = some (.int .i64 a0_3) := (blk_cell BK233.out 3).trans rfl
                        have hcz125_4 : wc.cell? ⟨gb233, 4, none⟩ = some (.int .i64 a0_4) := (blk_cell BK233.out 4).trans rfl
                        have hfz125_0 := blk_frozen BK233.out 0
                        have hfz125_1 := blk_frozen BK233.out 1
                        have hfz125_2 := blk_frozen BK233.out 2
                        have hfz125_3 := blk_frozen BK233.out 3
                        have hfz125_4 := blk_frozen BK233.out 4
                        have hnb126 := NB234_235.out
                        have hnc126 := NB235_234.out
                        have hcz127_0 : wc.cell? ⟨gb234, 0, none⟩ = some (.int .i64 a1_0) := (blk_cell BK234.out 0).trans rfl
                        have hcz127_1 : wc.cell? ⟨gb234, 1, none⟩ = some (.int .i64 a1_1) := (blk_cell BK234.out 1).trans rfl
                        have hcz127_2 : wc.cell? ⟨gb234, 2, none⟩ = some (.int .i64 a1_2) := (blk_cell BK234.out 2).trans rfl
                        have hcz127_3 : wc.cell? ⟨gb234, 3, none⟩ = some (.int .i64 a1_3) := (blk_cell BK234.out 3).trans rfl
                        have hcz127_4 : wc.cell? ⟨gb234, 4, none⟩ = some (.int .i64 a1_4) := (blk_cell BK234.out 4).trans rfl
                        have hfz127_0 := blk_frozen BK234.out 0
                        have hfz127_1 := blk_frozen BK234.out 1
                        have hfz127_2 := blk_frozen BK234.out 2
                        have hfz127_3 := blk_frozen BK234.out 3
                        have hfz127_4 := blk_frozen BK234.out 4
                        have hcz128_0 : wc.cell? ⟨gb235, 0, none⟩ = some (.int .i64 0) := (blk_cell BK235.out 0).trans rfl
                        have hcz128_1 : wc.cell? ⟨gb235, 1, none⟩ = some (.int .i64 0) := (blk_cell BK235.out 1).trans rfl
                        have hcz128_2 : wc.cell? ⟨gb235, 2, none⟩ = some (.int .i64 0) := (blk_cell BK235.out 2).trans rfl
                        have hcz128_3 : wc.cell? ⟨gb235, 3, none⟩ = some (.int .i64 0) := (blk_cell BK235.out 3).trans rfl
                        have hcz128_4 : wc.cell? ⟨gb235, 4, none⟩ = some (.int .i64 0) := (blk_cell BK235.out 4).trans rfl
                        have hfz128_0 := blk_frozen BK235.out 0
                        have hfz128_1 := blk_frozen BK235.out 1
                        have hfz128_2 := blk_frozen BK235.out 2
                        have hfz128_3 := blk_frozen BK235.out 3
                        have hfz128_4 := blk_frozen BK235.out 4
                        go_wp2
                        refine bodyPost_ret (results_ct rfl _ _ gb235 23 #[.int .i64 0, .int .i64 0, .int .i64 0, .int .i64 0, .int .i64 0] (0, 0) _ rfl (by (with_reducible repeat (first | refine blk_drewN ?_ _ | refine blk_drew ?_ | refine blk_alloc ?_ _)); refine blk_put (cs := #[.int .i64 0, .int .i64 0, .int .i64 0, .int .i64 0, .int .i64 0]) ?_ 4 _ rfl; (with_reducible repeat (first | refine blk_drewN ?_ _ | refine blk_drew ?_ | refine blk_alloc ?_ _)); refine blk_put (cs := #[.int .i64 0, .int .i64 0, .int .i64 0, .int .i64 0, .int .i64 0]) ?_ 3 _ rfl; (with_reducible repeat (first | refine blk_drewN ?_ _ | refine blk_drew ?_ | refine blk_alloc ?_ _)); refine blk_put (cs := #[.int .i64 0, .int .i64 0, .int .i64 0, .int .i64 0, .int .i64 0]) ?_ 2 _ rfl; (with_reducible repeat (first | refine blk_drewN ?_ _ | refine blk_drew ?_ | refine blk_alloc ?_ _)); refine blk_put (cs := #[.int .i64 0, .int .i64 0, .int .i64 0, .int .i64 0, .int .i64 0]) ?_ 1 _ rfl; (with_reducible repeat (first | refine blk_drewN ?_ _ | refine blk_drew ?_ | refine blk_alloc ?_ _)); refine blk_put (cs := #[.int .i64 0, .int .i64 0, .int .i64 0, .int .i64 0, .int .i64 0]) ?_ 0 _ rfl; (with_reducible repeat (first | refine blk_drewN ?_ _ | refine blk_drew ?_ | refine blk_alloc ?_ _)); exact BK235.out) Try.underlying23 rfl (by kernel_rfl)) rfl ?_
                        exact ⟨by first | rfl | (simp [errW_none, errW_some] <;> rfl) | (simp [*, errW_none, errW_some] <;> rfl), by repeat (first | (with_reducible first | exact HB.out | apply below_alloc | apply pw_below_drewN | apply below_drew1 | refine below_set ?_ GE233.out | refine below_set ?_ GE234.out | refine below_set ?_ GE235.out) | exact HB.out)⟩
                    · rw [if_neg c108] at H
                      have c108b0 : decide (a0_1 ≤ 4095) = false := decide_eq_false c108
                      clear c108
                      simp only [Option.some.injEq, Prod.mk.injEq] at H
                      obtain ⟨rfl, rfl, rfl, rfl, rfl, rfl⟩ := H
                      have hnb129 := NB233_234.out
                      have hnc129 := NB234_233.out
                      have hnb130 := NB233_235.out
                      have hnc130 := NB235_233.out
                      have hcz131_0 : wc.cell? ⟨gb233, 0, none⟩ = some (.int .i64 a0_0) := (blk_cell BK233.out 0).trans rfl
                      have hcz131_1 : wc.cell? ⟨gb233, 1, none⟩ = some (.int .i64 a0_1) := (blk_cell BK233.out 1).trans rfl
                      have hcz131_2 : wc.cell? ⟨gb233, 2, none⟩ = some (.int .i64 a0_2) := (blk_cell BK233.out 2).trans rfl
                      have hcz131_3 : wc.cell? ⟨gb233, 3, none⟩ = some (.int .i64 a0_3) := (blk_cell BK233.out 3).trans rfl
                      have hcz131_4 : wc.cell? ⟨gb233, 4, none⟩ = some (.int .i64 a0_4) := (blk_cell BK233.out 4).trans rfl
                      have hfz131_0 := blk_frozen BK233.out 0
                      have hfz131_1 := blk_frozen BK233.out 1
                      have hfz131_2 := blk_frozen BK233.out 2
                      have hfz131_3 := blk_frozen BK233.out 3
                      have hfz131_4 := blk_frozen BK233.out 4
                      have hnb132 := NB234_235.out
                      have hnc132 := NB235_234.out
                      have hcz133_0 : wc.cell? ⟨gb234, 0, none⟩ = some (.int .i64 a1_0) := (blk_cell BK234.out 0).trans rfl
                      have hcz133_1 : wc.cell? ⟨gb234, 1, none⟩ = some (.int .i64 a1_1) := (blk_cell BK234.out 1).trans rfl
                      have hcz133_2 : wc.cell? ⟨gb234, 2, none⟩ = some (.int .i64 a1_2) := (blk_cell BK234.out 2).trans rfl
                      have hcz133_3 : wc.cell? ⟨gb234, 3, none⟩ = some (.int .i64 a1_3) := (blk_cell BK234.out 3).trans rfl
                      have hcz133_4 : wc.cell? ⟨gb234, 4, none⟩ = some (.int .i64 a1_4) := (blk_cell BK234.out 4).trans rfl
                      have hfz133_0 := blk_frozen BK234.out 0
                      have hfz133_1 := blk_frozen BK234.out 1
                      have hfz133_2 := blk_frozen BK234.out 2
                      have hfz133_3 := blk_frozen BK234.out 3
                      have hfz133_4 := blk_frozen BK234.out 4
                      have hcz134_0 : wc.cell? ⟨gb235, 0, none⟩ = some (.int .i64 0) := (blk_cell BK235.out 0).trans rfl
                      have hcz134_1 : wc.cell? ⟨gb235, 1, none⟩ = some (.int .i64 0) := (blk_cell BK235.out 1).trans rfl
                      have hcz134_2 : wc.cell? ⟨gb235, 2, none⟩ = some (.int .i64 0) := (blk_cell BK235.out 2).trans rfl
                      have hcz134_3 : wc.cell? ⟨gb235, 3, none⟩ = some (.int .i64 0) := (blk_cell BK235.out 3).trans rfl
                      have hcz134_4 : wc.cell? ⟨gb235, 4, none⟩ = some (.int .i64 0) := (blk_cell BK235.out 4).trans rfl
                      have hfz134_0 := blk_frozen BK235.out 0
                      have hfz134_1 := blk_frozen BK235.out 1
                      have hfz134_2 := blk_frozen BK235.out 2
                      have hfz134_3 := blk_frozen BK235.out 3
                      have hfz134_4 := blk_frozen BK235.out 4
                      go_wp2
                      refine bodyPost_ret (results_ct rfl _ _ gb235 23 #[.int .i64 0, .int .i64 0, .int .i64 0, .int .i64 0, .int .i64 0] (0, 0) _ rfl (by (with_reducible repeat (first | refine blk_drewN ?_ _ | refine blk_drew ?_ | refine blk_alloc ?_ _)); refine blk_put (cs := #[.int .i64 0, .int .i64 0, .int .i64 0, .int .i64 0, .int .i64 0]) ?_ 4 _ rfl; (with_reducible repeat (first | refine blk_drewN ?_ _ | refine blk_drew ?_ | refine blk_alloc ?_ _)); refine blk_put (cs := #[.int .i64 0, .int .i64 0, .int .i64 0, .int .i64 0, .int .i64 0]) ?_ 3 _ rfl; (with_reducible repeat (first | refine blk_drewN ?_ _ | refine blk_drew ?_ | refine blk_alloc ?_ _)); refine blk_put (cs := #[.int .i64 0, .int .i64 0, .int .i64 0, .int .i64 0, .int .i64 0]) ?_ 2 _ rfl; (with_reducible repeat (first | refine blk_drewN ?_ _ | refine blk_drew ?_ | refine blk_alloc ?_ _)); refine blk_put (cs := #[.int .i64 0, .int .i64 0, .int .i64 0, .int .i64 0, .int .i64 0]) ?_ 1 _ rfl; (with_reducible repeat (first | refine blk_drewN ?_ _ | refine blk_drew ?_ | refine blk_alloc ?_ _)); refine blk_put (cs := #[.int .i64 0, .int .i64 0, .int .i64 0, .int .i64 0, .int .i64 0]) ?_ 0 _ rfl; (with_reducible repeat (first | refine blk_drewN ?_ _ | refine blk_drew ?_ | refine blk_alloc ?_ _)); exact BK235.out) Try.underlying23 rfl (by kernel_rfl)) rfl ?_
                      exact ⟨by first | rfl | (simp [errW_none, errW_some] <;> rfl) | (simp [*, errW_none, errW_some] <;> rfl), by repeat (first | (with_reducible first | exact HB.out | apply below_alloc | apply pw_below_drewN | apply below_drew1 | refine below_set ?_ GE233.out | refine below_set ?_ GE234.out | refine below_set ?_ GE235.out) | exact HB.out)⟩
                  · rw [if_neg c107] at H
                    have c107b0 : decide (0 ≤ a0_1) = false := decide_eq_false c107
                    clear c107
                    simp only [Option.some.injEq, Prod.mk.injEq] at H
                    obtain ⟨rfl, rfl, rfl, rfl, rfl, rfl⟩ := H
                    have hnb135 := NB233_234.out
                    have hnc135 := NB234_233.out
                    have hnb136 := NB233_235.out
                    have hnc136 := NB235_233.out
                    have hcz137_0 : wc.cell? ⟨gb233, 0, none⟩ = some (.int .i64 a0_0) := (blk_cell BK233.out 0).trans rfl
                    have hcz137_1 : wc.cell? ⟨gb233, 1, none⟩ = some (.int .i64 a0_1) := (blk_cell BK233.out 1).trans rfl
                    have hcz137_2 : wc.cell? ⟨gb233, 2, none⟩ = some (.int .i64 a0_2) := (blk_cell BK233.out 2).trans rfl
                    have hcz137_3 : wc.cell? ⟨gb233, 3, none⟩ = some (.int .i64 a0_3) := (blk_cell BK233.out 3).trans rfl
                    have hcz137_4 : wc.cell? ⟨gb233, 4, none⟩ = some (.int .i64 a0_4) := (blk_cell BK233.out 4).trans rfl
                    have hfz137_0 := blk_frozen BK233.out 0
                    have hfz137_1 := blk_frozen BK233.out 1
                    have hfz137_2 := blk_frozen BK233.out 2
                    have hfz137_3 := blk_frozen BK233.out 3
                    have hfz137_4 := blk_frozen BK233.out 4
                    have hnb138 := NB234_235.out
                    have hnc138 := NB235_234.out
                    have hcz139_0 : wc.cell? ⟨gb234, 0, none⟩ = some (.int .i64 a1_0) := (blk_cell BK234.out 0).trans rfl
                    have hcz139_1 : wc.cell? ⟨gb234, 1, none⟩ = some (.int .i64 a1_1) := (blk_cell BK234.out 1).trans rfl
                    have hcz139_2 : wc.cell? ⟨gb234, 2, none⟩ = some (.int .i64 a1_2) := (blk_cell BK234.out 2).trans rfl
                    have hcz139_3 : wc.cell? ⟨gb234, 3, none⟩ = some (.int .i64 a1_3) := (blk_cell BK234.out 3).trans rfl
                    have hcz139_4 : wc.cell? ⟨gb234, 4, none⟩ = some (.int .i64 a1_4) := (blk_cell BK234.out 4).trans rfl
                    have hfz139_0 := blk_frozen BK234.out 0
                    have hfz139_1 := blk_frozen BK234.out 1
                    have hfz139_2 := blk_frozen BK234.out 2
                    have hfz139_3 := blk_frozen BK234.out 3
                    have hfz139_4 := blk_frozen BK234.out 4
                    have hcz140_0 : wc.cell? ⟨gb235, 0, none⟩ = some (.int .i64 0) := (blk_cell BK235.out 0).trans rfl
                    have hcz140_1 : wc.cell? ⟨gb235, 1, none⟩ = some (.int .i64 0) := (blk_cell BK235.out 1).trans rfl
                    have hcz140_2 : wc.cell? ⟨gb235, 2, none⟩ = some (.int .i64 0) := (blk_cell BK235.out 2).trans rfl
                    have hcz140_3 : wc.cell? ⟨gb235, 3, none⟩ = some (.int .i64 0) := (blk_cell BK235.out 3).trans rfl
                    have hcz140_4 : wc.cell? ⟨gb235, 4, none⟩ = some (.int .i64 0) := (blk_cell BK235.out 4).trans rfl
                    have hfz140_0 := blk_frozen BK235.out 0
                    have hfz140_1 := blk_frozen BK235.out 1
                    have hfz140_2 := blk_frozen BK235.out 2
                    have hfz140_3 := blk_frozen BK235.out 3
                    have hfz140_4 := blk_frozen BK235.out 4
                    go_wp2
                    refine bodyPost_ret (results_ct rfl _ _ gb235 23 #[.int .i64 0, .int .i64 0, .int .i64 0, .int .i64 0, .int .i64 0] (0, 0) _ rfl (by (with_reducible repeat (first | refine blk_drewN ?_ _ | refine blk_drew ?_ | refine blk_alloc ?_ _)); refine blk_put (cs := #[.int .i64 0, .int .i64 0, .int .i64 0, .int .i64 0, .int .i64 0]) ?_ 4 _ rfl; (with_reducible repeat (first | refine blk_drewN ?_ _ | refine blk_drew ?_ | refine blk_alloc ?_ _)); refine blk_put (cs := #[.int .i64 0, .int .i64 0, .int .i64 0, .int .i64 0, .int .i64 0]) ?_ 3 _ rfl; (with_reducible repeat (first | refine blk_drewN ?_ _ | refine blk_drew ?_ | refine blk_alloc ?_ _)); refine blk_put (cs := #[.int .i64 0, .int .i64 0, .int .i64 0, .int .i64 0, .int .i64 0]) ?_ 2 _ rfl; (with_reducible repeat (first | refine blk_drewN ?_ _ | refine blk_drew ?_ | refine blk_alloc ?_ _)); refine blk_put (cs := #[.int .i64 0, .int .i64 0, .int .i64 0, .int .i64 0, .int .i64 0]) ?_ 1 _ rfl; (with_reducible repeat (first | refine blk_drewN ?_ _ | refine blk_drew ?_ | refine blk_alloc ?_ _)); refine blk_put (cs := #[.int .i64 0, .int .i64 0, .int .i64 0, .int .i64 0, .int .i64 0]) ?_ 0 _ rfl; (with_reducible repeat (first | refine blk_drewN ?_ _ | refine blk_drew ?_ | refine blk_alloc ?_ _)); exact BK235.out) Try.underlying23 rfl (by kernel_rfl)) rfl ?_
                    exact ⟨by first | rfl | (simp [errW_none, errW_some] <;> rfl) | (simp [*, errW_none, errW_some] <;> rfl), by repeat (first | (with_reducible first | exact HB.out | apply below_alloc | apply pw_below_drewN | apply below_drew1 | refine below_set ?_ GE233.out | refine below_set ?_ GE234.out | refine below_set ?_ GE235.out) | exact HB.out)⟩
                · rw [if_neg c106] at H
                  have c106b0 : (a1_0 == 4) = false := beq_eq_false_iff_ne.mpr c106
                  have c106b1 : (a1_0 != 4) = true := bne_iff_ne.mpr c106
                  simp only [Option.some.injEq, Prod.mk.injEq] at H
                  obtain ⟨rfl, rfl, rfl, rfl, rfl, rfl⟩ := H
                  have hnb141 := NB233_234.out
                  have hnc141 := NB234_233.out
                  have hnb142 := NB233_235.out
                  have hnc142 := NB235_233.out
                  have hcz143_0 : wc.cell? ⟨gb233, 0, none⟩ = some (.int .i64 a0_0) := (blk_cell BK233.out 0).trans rfl
                  have hcz143_1 : wc.cell? ⟨gb233, 1, none⟩ = some (.int .i64 a0_1) := (blk_cell BK233.out 1).trans rfl
                  have hcz143_2 : wc.cell? ⟨gb233, 2, none⟩ = some (.int .i64 a0_2) := (blk_cell BK233.out 2).trans rfl
                  have hcz143_3 : wc.cell? ⟨gb233, 3, none⟩ = some (.int .i64 a0_3) := (blk_cell BK233.out 3).trans rfl
                  have hcz143_4 : wc.cell? ⟨gb233, 4, none⟩ = some (.int .i64 a0_4) := (blk_cell BK233.out 4).trans rfl
                  have hfz143_0 := blk_frozen BK233.out 0
                  have hfz143_1 := blk_frozen BK233.out 1
                  have hfz143_2 := blk_frozen BK233.out 2
                  have hfz143_3 := blk_frozen BK233.out 3
                  have hfz143_4 := blk_frozen BK233.out 4
                  have hnb144 := NB234_235.out
                  have hnc144 := NB235_234.out
                  have hcz145_0 : wc.cell? ⟨gb234, 0, none⟩ = some (.int .i64 a1_0) := (blk_cell BK234.out 0).trans rfl
                  have hcz145_1 : wc.cell? ⟨gb234, 1, none⟩ = some (.int .i64 a1_1) := (blk_cell BK234.out 1).trans rfl
                  have hcz145_2 : wc.cell? ⟨gb234, 2, none⟩ = some (.int .i64 a1_2) := (blk_cell BK234.out 2).trans rfl
                  have hcz145_3 : wc.cell? ⟨gb234, 3, none⟩ = some (.int .i64 a1_3) := (blk_cell BK234.out 3).trans rfl
                  have hcz145_4 : wc.cell? ⟨gb234, 4, none⟩ = some (.int .i64 a1_4) := (blk_cell BK234.out 4).trans rfl
                  have hfz145_0 := blk_frozen BK234.out 0
                  have hfz145_1 := blk_frozen BK234.out 1
                  have hfz145_2 := blk_frozen BK234.out 2
                  have hfz145_3 := blk_frozen BK234.out 3
                  have hfz145_4 := blk_frozen BK234.out 4
                  have hcz146_0 : wc.cell? ⟨gb235, 0, none⟩ = some (.int .i64 0) := (blk_cell BK235.out 0).trans rfl
                  have hcz146_1 : wc.cell? ⟨gb235, 1, none⟩ = some (.int .i64 0) := (blk_cell BK235.out 1).trans rfl
                  have hcz146_2 : wc.cell? ⟨gb235, 2, none⟩ = some (.int .i64 0) := (blk_cell BK235.out 2).trans rfl
                  have hcz146_3 : wc.cell? ⟨gb235, 3, none⟩ = some (.int .i64 0) := (blk_cell BK235.out 3).trans rfl
                  have hcz146_4 : wc.cell? ⟨gb235, 4, none⟩ = some (.int .i64 0) := (blk_cell BK235.out 4).trans rfl
                  have hfz146_0 := blk_frozen BK235.out 0
                  have hfz146_1 := blk_frozen BK235.out 1
                  have hfz146_2 := blk_frozen BK235.out 2
                  have hfz146_3 := blk_frozen BK235.out 3
                  have hfz146_4 := blk_frozen BK235.out 4
                  go_wp2
                  refine bodyPost_ret (results_ct rfl _ _ gb235 23 #[.int .i64 0, .int .i64 0, .int .i64 0, .int .i64 0, .int .i64 0] (0, 0) _ rfl (by (with_reducible repeat (first | refine blk_drewN ?_ _ | refine blk_drew ?_ | refine blk_alloc ?_ _)); refine blk_put (cs := #[.int .i64 0, .int .i64 0, .int .i64 0, .int .i64 0, .int .i64 0]) ?_ 4 _ rfl; (with_reducible repeat (first | refine blk_drewN ?_ _ | refine blk_drew ?_ | refine blk_alloc ?_ _)); refine blk_put (cs := #[.int .i64 0, .int .i64 0, .int .i64 0, .int .i64 0, .int .i64 0]) ?_ 3 _ rfl; (with_reducible repeat (first | refine blk_drewN ?_ _ | refine blk_drew ?_ | refine blk_alloc ?_ _)); refine blk_put (cs := #[.int .i64 0, .int .i64 0, .int .i64 0, .int .i64 0, .int .i64 0]) ?_ 2 _ rfl; (with_reducible repeat (first | refine blk_drewN ?_ _ | refine blk_drew ?_ | refine blk_alloc ?_ _)); refine blk_put (cs := #[.int .i64 0, .int .i64 0, .int .i64 0, .int .i64 0, .int .i64 0]) ?_ 1 _ rfl; (with_reducible repeat (first | refine blk_drewN ?_ _ | refine blk_drew ?_ | refine blk_alloc ?_ _)); refine blk_put (cs := #[.int .i64 0, .int .i64 0, .int .i64 0, .int .i64 0, .int .i64 0]) ?_ 0 _ rfl; (with_reducible repeat (first | refine blk_drewN ?_ _ | refine blk_drew ?_ | refine blk_alloc ?_ _)); exact BK235.out) Try.underlying23 rfl (by kernel_rfl)) rfl ?_
                  exact ⟨by first | rfl | (simp [errW_none, errW_some] <;> rfl) | (simp [*, errW_none, errW_some] <;> rfl), by repeat (first | (with_reducible first | exact HB.out | apply below_alloc | apply pw_below_drewN | apply below_drew1 | refine below_set ?_ GE233.out | refine below_set ?_ GE234.out | refine below_set ?_ GE235.out) | exact HB.out)⟩
              · rw [if_neg c105] at H
                have c105b0 : (a0_0 == 9) = false := beq_eq_false_iff_ne.mpr c105
                have c105b1 : (a0_0 != 9) = true := bne_iff_ne.mpr c105
                simp only [Option.some.injEq, Prod.mk.injEq] at H
                obtain ⟨rfl, rfl, rfl, rfl, rfl, rfl⟩ := H
                have hnb147 := NB233_234.out
                have hnc147 := NB234_233.out
                have hnb148 := NB233_235.out
                have hnc148 := NB235_233.out
                have hcz149_0 : wc.cell? ⟨gb233, 0, none⟩ = some (.int .i64 a0_0) := (blk_cell BK233.out 0).trans rfl
                have hcz149_1 : wc.cell? ⟨gb233, 1, none⟩ = some (.int .i64 a0_1) := (blk_cell BK233.out 1).trans rfl
                have hcz149_2 : wc.cell? ⟨gb233, 2, none⟩ = some (.int .i64 a0_2) := (blk_cell BK233.out 2).trans rfl
                have hcz149_3 : wc.cell? ⟨gb233, 3, none⟩ = some (.int .i64 a0_3) := (blk_cell BK233.out 3).trans rfl
                have hcz149_4 : wc.cell? ⟨gb233, 4, none⟩ = some (.int .i64 a0_4) := (blk_cell BK233.out 4).trans rfl
                have hfz149_0 := blk_frozen BK233.out 0
                have hfz149_1 := blk_frozen BK233.out 1
                have hfz149_2 := blk_frozen BK233.out 2
                have hfz149_3 := blk_frozen BK233.out 3
                have hfz149_4 := blk_frozen BK233.out 4
                have hnb150 := NB235_234.out
                have hnc150 := NB234_235.out
                have hcz151_0 : wc.cell? ⟨gb235, 0, none⟩ = some (.int .i64 0) := (blk_cell BK235.out 0).trans rfl
                have hcz151_1 : wc.cell? ⟨gb235, 1, none⟩ = some (.int .i64 0) := (blk_cell BK235.out 1).trans rfl
                have hcz151_2 : wc.cell? ⟨gb235, 2, none⟩ = some (.int .i64 0) := (blk_cell BK235.out 2).trans rfl
                have hcz151_3 : wc.cell? ⟨gb235, 3, none⟩ = some (.int .i64 0) := (blk_cell BK235.out 3).trans rfl
                have hcz151_4 : wc.cell? ⟨gb235, 4, none⟩ = some (.int .i64 0) := (blk_cell BK235.out 4).trans rfl
                have hfz151_0 := blk_frozen BK235.out 0
                have hfz151_1 := blk_frozen BK235.out 1
                have hfz151_2 := blk_frozen BK235.out 2
                have hfz151_3 := blk_frozen BK235.out 3
                have hfz151_4 := blk_frozen BK235.out 4
                go_wp2
                refine bodyPost_ret (results_ct rfl _ _ gb235 23 #[.int .i64 0, .int .i64 0, .int .i64 0, .int .i64 0, .int .i64 0] (0, 0) _ rfl (by (with_reducible repeat (first | refine blk_drewN ?_ _ | refine blk_drew ?_ | refine blk_alloc ?_ _)); refine blk_put (cs := #[.int .i64 0, .int .i64 0, .int .i64 0, .int .i64 0, .int .i64 0]) ?_ 4 _ rfl; (with_reducible repeat (first | refine blk_drewN ?_ _ | refine blk_drew ?_ | refine blk_alloc ?_ _)); refine blk_put (cs := #[.int .i64 0, .int .i64 0, .int .i64 0, .int .i64 0, .int .i64 0]) ?_ 3 _ rfl; (with_reducible repeat (first | refine blk_drewN ?_ _ | refine blk_drew ?_ | refine blk_alloc ?_ _)); refine blk_put (cs := #[.int .i64 0, .int .i64 0, .int .i64 0, .int .i64 0, .int .i64 0]) ?_ 2 _ rfl; (with_reducible repeat (first | refine blk_drewN ?_ _ | refine blk_drew ?_ | refine blk_alloc ?_ _)); refine blk_put (cs := #[.int .i64 0, .int .i64 0, .int .i64 0, .int .i64 0, .int .i64 0]) ?_ 1 _ rfl; (with_reducible repeat (first | refine blk_drewN ?_ _ | refine blk_drew ?_ | refine blk_alloc ?_ _)); refine blk_put (cs := #[.int .i64 0, .int .i64 0, .int .i64 0, .int .i64 0, .int .i64 0]) ?_ 0 _ rfl; (with_reducible repeat (first | refine blk_drewN ?_ _ | refine blk_drew ?_ | refine blk_alloc ?_ _)); exact BK235.out) Try.underlying23 rfl (by kernel_rfl)) rfl ?_
                exact ⟨by first | rfl | (simp [errW_none, errW_some] <;> rfl) | (simp [*, errW_none, errW_some] <;> rfl), by repeat (first | (with_reducible first | exact HB.out | apply below_alloc | apply pw_below_drewN | apply below_drew1 | refine below_set ?_ GE233.out | refine below_set ?_ GE234.out | refine below_set ?_ GE235.out) | exact HB.out)⟩

end Go.Proofs.Ytglodkkhojgdiaa.PG
