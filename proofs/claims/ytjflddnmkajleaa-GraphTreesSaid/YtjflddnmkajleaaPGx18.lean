-- By the session's own program out of the kit's print, with texts of the session's own for the functions that the print does not take.
import Derived.Test.YtjflddnmkajleaaPGx0
import Derived.Test.YtjflddnmkajleaaPGx15
import Derived.Test.YtjflddnmkajleaaPGx17
namespace Go.Proofs.Ytjflddnmkajleaa.PG
open Go.RowKit Go.Proofs.YtjflddnmkajleaaW.PrintWords Go.Proofs.YtjflddnmkajleaaW.PrintLast Go.Proofs.YtjflddnmkajleaaW.PrintMore
attribute [local go_sem] max2_int min2_int max_two min_two max_three min_three max_four min_four   -- for this text's walks alone
set_option linter.unusedVariables false
set_option linter.unusedSimpArgs false

/-! ### graph_inside: function 33 -/
mutual
def graph_inside.l0 : Nat → List (S37) → Int → Int → List (S37) → Int → Int → Option (Int)
  | 0, _, _, _, _, _, _ => none
  | k + 1, x0, x1, x5, x10, x11, x12 => if x12 < x11 then (if 0 ≤ x12 then (if x12 < (x10.length : Int) then (if 0 ≤ x1 then (if x1 < (x0.length : Int) then ((slices_BinarySearch_int_int.f k ((rd_T37 x10 x12).f1) ((rd_T37 x0 x1).f0)).bind fun bt258 => (if x12 = x1 then (graph_inside.j1 k x0 x1 x5 x12 x10 x11 x12 true ((rd_T37 x10 x12).f0) ((rd_T37 x10 x12).f1) ((rd_T37 x10 x12).f2)) else (graph_inside.j1 k x0 x1 x5 x12 x10 x11 x12 (!bt258.2) ((rd_T37 x10 x12).f0) ((rd_T37 x10 x12).f1) ((rd_T37 x10 x12).f2)))) else (none)) else (none)) else (none)) else (none)) else (some x5)
def graph_inside.j1 : Nat → List (S37) → Int → Int → Int → List (S37) → Int → Int → Bool → Int → List Int → Int → Option (Int)
  | 0, _, _, _, _, _, _, _, _, _, _, _ => none
  | k + 1, x0, x1, x5, x6, x10, x11, x12, x34, x257000, x257001, x257002 => if x34 = true then (graph_inside.l0 k x0 x1 x5 x10 x11 (wrap64 (x12 + 1))) else (if x5 < 0 then (graph_inside.l0 k x0 x1 x6 x10 x11 (wrap64 (x12 + 1))) else (if 0 ≤ x5 then (if x5 < (x0.length : Int) then ((cmp_Less_int.f (x257001.length : Int) (((rd_T37 x0 x5).f1).length : Int)).bind fun t261 => (if t261 = true then (graph_inside.l0 k x0 x1 x6 x10 x11 (wrap64 (x12 + 1))) else (graph_inside.l0 k x0 x1 x5 x10 x11 (wrap64 (x12 + 1))))) else (none)) else (none)))
end
def graph_inside.f (k : Nat) (l0 : List (S37)) (a1 : Int) : Option (Int) := graph_inside.l0 k l0 a1 (-1) l0 (l0.length : Int) 0
theorem graph_inside.mono_l : ∀ k, (∀ y0 y1 y2 y3 y4 y5, LeO (graph_inside.l0 k y0 y1 y2 y3 y4 y5) (graph_inside.l0 (k + 1) y0 y1 y2 y3 y4 y5)) ∧ (∀ y0 y1 y2 y3 y4 y5 y6 y7 y8 y9 y10, LeO (graph_inside.j1 k y0 y1 y2 y3 y4 y5 y6 y7 y8 y9 y10) (graph_inside.j1 (k + 1) y0 y1 y2 y3 y4 y5 y6 y7 y8 y9 y10))
  | 0 => ⟨fun _ _ _ _ _ _ r h => by simp [graph_inside.l0] at h, fun _ _ _ _ _ _ _ _ _ _ _ r h => by simp [graph_inside.j1] at h⟩
  | k + 1 => by
    obtain ⟨ih0, ih1⟩ := graph_inside.mono_l k
    refine ⟨?_, ?_⟩
    · intro y0 y1 y2 y3 y4 y5
      unfold graph_inside.l0
      repeat' first
      | (with_reducible exact ih0 _ _ _ _ _ _)
      | (with_reducible exact ih1 _ _ _ _ _ _ _ _ _ _ _)
      | (with_reducible exact slices_BinarySearch_int_int.mono _ _ _)
      | (with_reducible exact LeO.refl _)
      | (with_reducible exact LeO.none _)
      | (with_reducible refine LeO.ite ?_ ?_)
      | (with_reducible refine LeO.bind ?_ (fun _ => ?_))
      | exact ih0 _ _ _ _ _ _
      | exact ih1 _ _ _ _ _ _ _ _ _ _ _
      | exact slices_BinarySearch_int_int.mono _ _ _
      | exact LeO.none _
      | refine LeO.ite ?_ ?_
      | refine LeO.bind ?_ (fun _ => ?_)
    · intro y0 y1 y2 y3 y4 y5 y6 y7 y8 y9 y10
      unfold graph_inside.j1
      repeat' first
      | (with_reducible exact ih0 _ _ _ _ _ _)
      | (with_reducible exact ih1 _ _ _ _ _ _ _ _ _ _ _)
      | (with_reducible exact slices_BinarySearch_int_int.mono _ _ _)
      | (with_reducible exact LeO.refl _)
      | (with_reducible exact LeO.none _)
      | (with_reducible refine LeO.ite ?_ ?_)
      | (with_reducible refine LeO.bind ?_ (fun _ => ?_))
      | exact ih0 _ _ _ _ _ _
      | exact ih1 _ _ _ _ _ _ _ _ _ _ _
      | exact slices_BinarySearch_int_int.mono _ _ _
      | exact LeO.none _
      | refine LeO.ite ?_ ?_
      | refine LeO.bind ?_ (fun _ => ?_)
theorem graph_inside.mono : ∀ a0 a1 k, LeO (graph_inside.f k a0 a1) (graph_inside.f (k + 1) a0 a1) := by
  intro a0 a1 k
  obtain ⟨ih0, ih1⟩ := graph_inside.mono_l k
  unfold graph_inside.f
  repeat' first
      | (with_reducible exact ih0 _ _ _ _ _ _)
      | (with_reducible exact ih1 _ _ _ _ _ _ _ _ _ _ _)
      | (with_reducible exact slices_BinarySearch_int_int.mono _ _ _)
      | (with_reducible exact LeO.refl _)
      | (with_reducible exact LeO.none _)
      | (with_reducible refine LeO.ite ?_ ?_)
      | (with_reducible refine LeO.bind ?_ (fun _ => ?_))
      | exact ih0 _ _ _ _ _ _
      | exact ih1 _ _ _ _ _ _ _ _ _ _ _
      | exact slices_BinarySearch_int_int.mono _ _ _
      | exact LeO.none _
      | refine LeO.ite ?_ ?_
      | refine LeO.bind ?_ (fun _ => ?_)
set_option maxHeartbeats 8000000 in
set_option maxRecDepth 100000 in
theorem graph_inside.calls (k : Nat) (A0 : Option Addr) (c0 : Nat) (l0 : List (S37)) (a1 : Int) (r : Int) (w : World) (hr0 : Kd.C k37 w A0 l0.length l0) (hc0 : l0.length ≤ c0) (h : graph_inside.f k l0 a1 = some r) :
    Calls Try.prog 33 #[.slice A0 l0.length c0, .int .i64 a1] w fun e w' => e = .returned (.int .i64 r) ∧ Below w.heap.size w w' := by
  have hu37 := Try.underlying37
  have HR0 := Aside0.mk hr0
  have HC0 := Aside0.mk hc0
  clear hr0 hc0
  have HB := Aside0.mk (Below.refl w.heap.size w)
  have H : (graph_inside.l0 k l0 a1 (-1) l0 (l0.length : Int) 0) = some r := h
  clear h
  have H' := Aside0.mk H
  clear H
  go_enter Try.func33, Try.ntmps33
  go_wp2
  repeat (go_quiet (fail); try go_wp2)
  go_loopg [5, 12] k (fun kq v5 v12 w' => ∃ (x5_1 : Int) (x12_1 : Int), v5 = .int .i64 x5_1 ∧ v12 = .int .i64 x12_1 ∧ Aside0 (graph_inside.l0 kq l0 a1 x5_1 l0 (l0.length : Int) x12_1 = some r) ∧ Aside0 (kq ≤ k) ∧ Aside0 (Below w.heap.size w w'))
  case atStart => exact ⟨((-1)), (0), (by first | rfl | (simp; done) | (simp [*]; done)), (by first | rfl | (simp; done) | (simp [*]; done)), H', ⟨Nat.le_refl _⟩, ⟨by repeat (first | (with_reducible first | exact HB.out | apply below_alloc | apply pw_below_drewN | apply below_drew1) | exact HB.out)⟩⟩
  case round =>
    clear H'
    try clear p2
    obtain ⟨x5_1, x12_1, rfl, rfl, HA, HK1, HB⟩ := hrel
    cases gk with
    | zero => exact absurd HA.out (by simp [graph_inside.l0])
    | succ k1 =>
      have H := HA.out
      clear HA
      simp only [graph_inside.l0] at H
      by_cases c3 : x12_1 < (l0.length : Int)
      · rw [if_pos c3] at H
        have c3b0 : decide (x12_1 < (l0.length : Int)) = true := decide_eq_true c3
        clear c3
        by_cases c4 : 0 ≤ x12_1
        · rw [if_pos c4] at H
          have c4b0 : decide (0 ≤ x12_1) = true := decide_eq_true c4
          clear c4
          by_cases c5 : x12_1 < (l0.length : Int)
          · rw [if_pos c5] at H
            have c5b0 : decide (x12_1 < (l0.length : Int)) = true := decide_eq_true c5
            clear c5
            by_cases c6 : 0 ≤ a1
            · rw [if_pos c6] at H
              have c6b0 : decide (0 ≤ a1) = true := decide_eq_true c6
              clear c6
              by_cases c7 : a1 < (l0.length : Int)
              · rw [if_pos c7] at H
                have c7b0 : decide (a1 < (l0.length : Int)) = true := decide_eq_true c7
                clear c7
                replace H := Option.bind_eq_some_iff.mp H
                obtain ⟨⟨t258, t259⟩, A80, H⟩ := H
                replace H : (if x12_1 = a1 then (graph_inside.j1 k1 l0 a1 x5_1 x12_1 l0 (l0.length : Int) x12_1 true ((rd_T37 l0 x12_1).f0) ((rd_T37 l0 x12_1).f1) ((rd_T37 l0 x12_1).f2)) else (graph_inside.j1 k1 l0 a1 x5_1 x12_1 l0 (l0.length : Int) x12_1 (!t259) ((rd_T37 l0 x12_1).f0) ((rd_T37 l0 x12_1).f1) ((rd_T37 l0 x12_1).f2))) = some r := H
                have A8 := Aside0.mk A80
                clear A80
                have HC9 := Aside0.mk H
                clear H
                have p255 : 0 ≤ (x12_1 : Int) := of_decide_eq_true (by first | (with_reducible assumption) | assumption)
                have q255 : x12_1 < (l0.length : Int) := of_decide_eq_true (by first | (with_reducible assumption) | assumption)
                obtain ⟨ad255, A255_1, c255_1, e255, hx255_0, hx255_1, hx255_2, hl255_1, hi255_1⟩ := at_T37 HR0.out x12_1 p255 q255
                cases e255
                replace hx255_0 := (HB.out.cell (World.block_lt_of_cell? w _ hx255_0)).trans hx255_0
                replace hx255_1 := (HB.out.cell (World.block_lt_of_cell? w _ hx255_1)).trans hx255_1
                replace hx255_2 := (HB.out.cell (World.block_lt_of_cell? w _ hx255_2)).trans hx255_2
                have HR255_1 := Aside0.mk hi255_1
                have HC255_1 := Aside0.mk hl255_1
                clear hi255_1 hl255_1
                replace p255 := eq_true p255
                replace q255 := eq_true q255
                go_upto_region 6 with (first | ((with_reducible refine gate_dst (N := 7) rfl ?_); (try (refine gate_guard (by rfl) ?_; dsimp only)); refine box_event ?hg (N := 7) ?hd (cs := #[.int .i64 0, .slice none 0 0, .int .i64 0]) (t := 37) ?hr ?_; (case hd => rfl); (case hg => rfl); (case hr => first | (go_simp; done) | (go_simp; rfl)); intro gb256 hg w10 hbox hb; have n0_ := Aside0.mk (below_step (by repeat (first | (with_reducible first | exact HB.out | apply below_alloc | apply pw_below_drewN | apply below_drew1) | exact HB.out)) hb); have n1_ := Aside0.mk (hbox); have n2_ := Aside0.mk ((by rw [hg]; exact (below_size (by repeat (first | (with_reducible first | exact HB.out | apply below_alloc | apply pw_below_drewN | apply below_drew1) | exact HB.out))) : w.heap.size ≤ gb256)); have n3_ := Aside0.mk ((by rw [hg]; exact (below_size (by repeat (first | (with_reducible first | exact HB.out | apply below_alloc | apply pw_below_drewN | apply below_drew1) | exact HB.out))) : w.heap.size ≤ gb256)); clear HB; have HB := n0_; have BK256 := n1_; have GW256 := n2_; have GE256 := n3_; clear n0_ n1_ n2_ n3_; clear hb hbox hg; have hcz11_0 : w10.cell? ⟨gb256, 0, none⟩ = some (.int .i64 0) := (blk_cell BK256.out 0).trans rfl; have hcz11_1 : w10.cell? ⟨gb256, 1, none⟩ = some (.slice none 0 0) := (blk_cell BK256.out 1).trans rfl; have hcz11_2 : w10.cell? ⟨gb256, 2, none⟩ = some (.int .i64 0) := (blk_cell BK256.out 2).trans rfl; have hfz11_0 := blk_frozen BK256.out 0; have hfz11_1 := blk_frozen BK256.out 1; have hfz11_2 := blk_frozen BK256.out 2; have p257 : 0 ≤ (a1 : Int) := of_decide_eq_true (by first | (with_reducible assumption) | assumption); have q257 : a1 < (l0.length : Int) := of_decide_eq_true (by first | (with_reducible assumption) | assumption); obtain ⟨ad257, A257_1, c257_1, e257, hx257_0, hx257_1, hx257_2, hl257_1, hi257_1⟩ := at_T37 HR0.out a1 p257 q257; obtain rfl : ad255 = ad257 := (by injection e257); have hn257_0 : ad255.block ≠ gb256 := Nat.ne_of_lt (Nat.lt_of_lt_of_le (by have := World.block_lt_of_cell? _ _ hx257_0; first | rwa [add_block] at this | exact this) GW256.out); have hn257_1 : ad255.block ≠ gb256 := Nat.ne_of_lt (Nat.lt_of_lt_of_le (by have := World.block_lt_of_cell? _ _ hx257_0; first | rwa [add_block] at this | exact this) GW256.out); have hn257_2 : ad255.block ≠ gb256 := Nat.ne_of_lt (Nat.lt_of_lt_of_le (by have := World.block_lt_of_cell? _ _ hx257_0; first | rwa [add_block] at this | exact this) GW256.out); replace hx257_0 := (HB.out.cell (World.block_lt_of_cell? w _ hx257_0)).trans hx257_0; replace hx257_1 := (HB.out.cell (World.block_lt_of_cell? w _ hx257_1)).trans hx257_1; replace hx257_2 := (HB.out.cell (World.block_lt_of_cell? w _ hx257_2)).trans hx257_2; have HR257_1 := Aside0.mk hi257_1; have HC257_1 := Aside0.mk hl257_1; clear hi257_1 hl257_1; replace hx257_0 := (cell_far (p := ⟨gb256, 0, none⟩) (by first | (rw [add_block]; exact hn257_0) | (show (Addr.add _ _).block ≠ _; rw [add_block]; exact hn257_0) | exact hn257_0) (.int .i64 ((rd_T37 l0 x12_1).f0))).trans hx257_0; replace hx257_1 := (cell_far (p := ⟨gb256, 0, none⟩) (by first | (rw [add_block]; exact hn257_0) | (show (Addr.add _ _).block ≠ _; rw [add_block]; exact hn257_0) | exact hn257_0) (.int .i64 ((rd_T37 l0 x12_1).f0))).trans hx257_1; replace hx257_2 := (cell_far (p := ⟨gb256, 0, none⟩) (by first | (rw [add_block]; exact hn257_0) | (show (Addr.add _ _).block ≠ _; rw [add_block]; exact hn257_0) | exact hn257_0) (.int .i64 ((rd_T37 l0 x12_1).f0))).trans hx257_2; replace hx257_0 := (cell_far (p := ⟨gb256, 1, none⟩) (by first | (rw [add_block]; exact hn257_1) | (show (Addr.add _ _).block ≠ _; rw [add_block]; exact hn257_1) | exact hn257_1) (.slice A255_1 ((rd_T37 l0 x12_1).f1).length c255_1)).trans hx257_0; replace hx257_1 := (cell_far (p := ⟨gb256, 1, none⟩) (by first | (rw [add_block]; exact hn257_1) | (show (Addr.add _ _).block ≠ _; rw [add_block]; exact hn257_1) | exact hn257_1) (.slice A255_1 ((rd_T37 l0 x12_1).f1).length c255_1)).trans hx257_1; replace hx257_2 := (cell_far (p := ⟨gb256, 1, none⟩) (by first | (rw [add_block]; exact hn257_1) | (show (Addr.add _ _).block ≠ _; rw [add_block]; exact hn257_1) | exact hn257_1) (.slice A255_1 ((rd_T37 l0 x12_1).f1).length c255_1)).trans hx257_2; replace hx257_0 := (cell_far (p := ⟨gb256, 2, none⟩) (by first | (rw [add_block]; exact hn257_2) | (show (Addr.add _ _).block ≠ _; rw [add_block]; exact hn257_2) | exact hn257_2) (.int .i64 ((rd_T37 l0 x12_1).f2))).trans hx257_0; replace hx257_1 := (cell_far (p := ⟨gb256, 2, none⟩) (by first | (rw [add_block]; exact hn257_2) | (show (Addr.add _ _).block ≠ _; rw [add_block]; exact hn257_2) | exact hn257_2) (.int .i64 ((rd_T37 l0 x12_1).f2))).trans hx257_1; replace hx257_2 := (cell_far (p := ⟨gb256, 2, none⟩) (by first | (rw [add_block]; exact hn257_2) | (show (Addr.add _ _).block ≠ _; rw [add_block]; exact hn257_2) | exact hn257_2) (.int .i64 ((rd_T37 l0 x12_1).f2))).trans hx257_2; (try have hy257_0 := fun (n_ : Nat) => (show (((((w10.drewN n_).setCell ⟨gb256, 0, none⟩ (.int .i64 ((rd_T37 l0 x12_1).f0))).setCell ⟨gb256, 1, none⟩ (.slice A255_1 ((rd_T37 l0 x12_1).f1).length c255_1)).setCell ⟨gb256, 2, none⟩ (.int .i64 ((rd_T37 l0 x12_1).f2)))).cell? _ = some _ from hx257_0)); (try have hy257_1 := fun (n_ : Nat) => (show (((((w10.drewN n_).setCell ⟨gb256, 0, none⟩ (.int .i64 ((rd_T37 l0 x12_1).f0))).setCell ⟨gb256, 1, none⟩ (.slice A255_1 ((rd_T37 l0 x12_1).f1).length c255_1)).setCell ⟨gb256, 2, none⟩ (.int .i64 ((rd_T37 l0 x12_1).f2)))).cell? _ = some _ from hx257_1)); (try have hy257_2 := fun (n_ : Nat) => (show (((((w10.drewN n_).setCell ⟨gb256, 0, none⟩ (.int .i64 ((rd_T37 l0 x12_1).f0))).setCell ⟨gb256, 1, none⟩ (.slice A255_1 ((rd_T37 l0 x12_1).f1).length c255_1)).setCell ⟨gb256, 2, none⟩ (.int .i64 ((rd_T37 l0 x12_1).f2)))).cell? _ = some _ from hx257_2)); clear hn257_0; clear hn257_1; clear hn257_2; replace p257 := eq_true p257; replace q257 := eq_true q257) | (go_at_call 42; (with_reducible refine (slices_BinarySearch_int_int.calls k1 _ _ ((rd_T37 l0 x12_1).f1) ((rd_T37 l0 a1).f0) t258 t259 _ ?side1 ?side2 A8.out).mono ?_); (case side1 => exact Kd.C_below HR255_1.out (by repeat (first | (with_reducible first | exact HB.out | apply below_alloc | apply pw_below_drewN | apply below_drew1 | refine below_set ?_ GE256.out) | exact HB.out))); (case side2 => exact HC255_1.out); rintro e w' ⟨rfl, ⟨nd, rfl⟩⟩; (try first | exact ⟨rfl, _, World.drewN_drewN _ _ _⟩ | exact ⟨rfl, _, Eq.trans (World.drewN_drewN _ _ _) (congrArg (World.drewN _) (Nat.add_assoc _ _ _))⟩)))
                repeat (go_quiet (first | ((with_reducible refine gate_dst (N := 7) rfl ?_); (try (refine gate_guard (by rfl) ?_; dsimp only)); refine box_event ?hg (N := 7) ?hd (cs := #[.int .i64 0, .slice none 0 0, .int .i64 0]) (t := 37) ?hr ?_; (case hd => rfl); (case hg => rfl); (case hr => first | (go_simp; done) | (go_simp; rfl)); intro gb256 hg w10 hbox hb; have n0_ := Aside0.mk (below_step (by repeat (first | (with_reducible first | exact HB.out | apply below_alloc | apply pw_below_drewN | apply below_drew1) | exact HB.out)) hb); have n1_ := Aside0.mk (hbox); have n2_ := Aside0.mk ((by rw [hg]; exact (below_size (by repeat (first | (with_reducible first | exact HB.out | apply below_alloc | apply pw_below_drewN | apply below_drew1) | exact HB.out))) : w.heap.size ≤ gb256)); have n3_ := Aside0.mk ((by rw [hg]; exact (below_size (by repeat (first | (with_reducible first | exact HB.out | apply below_alloc | apply pw_below_drewN | apply below_drew1) | exact HB.out))) : w.heap.size ≤ gb256)); clear HB; have HB := n0_; have BK256 := n1_; have GW256 := n2_; have GE256 := n3_; clear n0_ n1_ n2_ n3_; clear hb hbox hg; have hcz11_0 : w10.cell? ⟨gb256, 0, none⟩ = some (.int .i64 0) := (blk_cell BK256.out 0).trans rfl; have hcz11_1 : w10.cell? ⟨gb256, 1, none⟩ = some (.slice none 0 0) := (blk_cell BK256.out 1).trans rfl; have hcz11_2 : w10.cell? ⟨gb256, 2, none⟩ = some (.int .i64 0) := (blk_cell BK256.out 2).trans rfl; have hfz11_0 := blk_frozen BK256.out 0; have hfz11_1 := blk_frozen BK256.out 1; have hfz11_2 := blk_frozen BK256.out 2; have p257 : 0 ≤ (a1 : Int) := of_decide_eq_true (by first | (with_reducible assumption) | assumption); have q257 : a1 < (l0.length : Int) := of_decide_eq_true (by first | (with_reducible assumption) | assumption); obtain ⟨ad257, A257_1, c257_1, e257, hx257_0, hx257_1, hx257_2, hl257_1, hi257_1⟩ := at_T37 HR0.out a1 p257 q257; obtain rfl : ad255 = ad257 := (by injection e257); have hn257_0 : ad255.block ≠ gb256 := Nat.ne_of_lt (Nat.lt_of_lt_of_le (by have := World.block_lt_of_cell? _ _ hx257_0; first | rwa [add_block] at this | exact this) GW256.out); have hn257_1 : ad255.block ≠ gb256 := Nat.ne_of_lt (Nat.lt_of_lt_of_le (by have := World.block_lt_of_cell? _ _ hx257_0; first | rwa [add_block] at this | exact this) GW256.out); have hn257_2 : ad255.block ≠ gb256 := Nat.ne_of_lt (Nat.lt_of_lt_of_le (by have := World.block_lt_of_cell? _ _ hx257_0; first | rwa [add_block] at this | exact this) GW256.out); replace hx257_0 := (HB.out.cell (World.block_lt_of_cell? w _ hx257_0)).trans hx257_0; replace hx257_1 := (HB.out.cell (World.block_lt_of_cell? w _ hx257_1)).trans hx257_1; replace hx257_2 := (HB.out.cell (World.block_lt_of_cell? w _ hx257_2)).trans hx257_2; have HR257_1 := Aside0.mk hi257_1; have HC257_1 := Aside0.mk hl257_1; clear hi257_1 hl257_1; replace hx257_0 := (cell_far (p := ⟨gb256, 0, none⟩) (by first | (rw [add_block]; exact hn257_0) | (show (Addr.add _ _).block ≠ _; rw [add_block]; exact hn257_0) | exact hn257_0) (.int .i64 ((rd_T37 l0 x12_1).f0))).trans hx257_0; replace hx257_1 := (cell_far (p := ⟨gb256, 0, none⟩) (by first | (rw [add_block]; exact hn257_0) | (show (Addr.add _ _).block ≠ _; rw [add_block]; exact hn257_0) | exact hn257_0) (.int .i64 ((rd_T37 l0 x12_1).f0))).trans hx257_1; replace hx257_2 := (cell_far (p := ⟨gb256, 0, none⟩) (by first | (rw [add_block]; exact hn257_0) | (show (Addr.add _ _).block ≠ _; rw [add_block]; exact hn257_0) | exact hn257_0) (.int .i64 ((rd_T37 l0 x12_1).f0))).trans hx257_2; replace hx257_0 := (cell_far (p := ⟨gb256, 1, none⟩) (by first | (rw [add_block]; exact hn257_1) | (show (Addr.add _ _).block ≠ _; rw [add_block]; exact hn257_1) | exact hn257_1) (.slice A255_1 ((rd_T37 l0 x12_1).f1).length c255_1)).trans hx257_0; replace hx257_1 := (cell_far (p := ⟨gb256, 1, none⟩) (by first | (rw [add_block]; exact hn257_1) | (show (Addr.add _ _).block ≠ _; rw [add_block]; exact hn257_1) | exact hn257_1) (.slice A255_1 ((rd_T37 l0 x12_1).f1).length c255_1)).trans hx257_1; replace hx257_2 := (cell_far (p := ⟨gb256, 1, none⟩) (by first | (rw [add_block]; exact hn257_1) | (show (Addr.add _ _).block ≠ _; rw [add_block]; exact hn257_1) | exact hn257_1) (.slice A255_1 ((rd_T37 l0 x12_1).f1).length c255_1)).trans hx257_2; replace hx257_0 := (cell_far (p := ⟨gb256, 2, none⟩) (by first | (rw [add_block]; exact hn257_2) | (show (Addr.add _ _).block ≠ _; rw [add_block]; exact hn257_2) | exact hn257_2) (.int .i64 ((rd_T37 l0 x12_1).f2))).trans hx257_0; replace hx257_1 := (cell_far (p := ⟨gb256, 2, none⟩) (by first | (rw [add_block]; exact hn257_2) | (show (Addr.add _ _).block ≠ _; rw [add_block]; exact hn257_2) | exact hn257_2) (.int .i64 ((rd_T37 l0 x12_1).f2))).trans hx257_1; replace hx257_2 := (cell_far (p := ⟨gb256, 2, none⟩) (by first | (rw [add_block]; exact hn257_2) | (show (Addr.add _ _).block ≠ _; rw [add_block]; exact hn257_2) | exact hn257_2) (.int .i64 ((rd_T37 l0 x12_1).f2))).trans hx257_2; (try have hy257_0 := fun (n_ : Nat) => (show (((((w10.drewN n_).setCell ⟨gb256, 0, none⟩ (.int .i64 ((rd_T37 l0 x12_1).f0))).setCell ⟨gb256, 1, none⟩ (.slice A255_1 ((rd_T37 l0 x12_1).f1).length c255_1)).setCell ⟨gb256, 2, none⟩ (.int .i64 ((rd_T37 l0 x12_1).f2)))).cell? _ = some _ from hx257_0)); (try have hy257_1 := fun (n_ : Nat) => (show (((((w10.drewN n_).setCell ⟨gb256, 0, none⟩ (.int .i64 ((rd_T37 l0 x12_1).f0))).setCell ⟨gb256, 1, none⟩ (.slice A255_1 ((rd_T37 l0 x12_1).f1).length c255_1)).setCell ⟨gb256, 2, none⟩ (.int .i64 ((rd_T37 l0 x12_1).f2)))).cell? _ = some _ from hx257_1)); (try have hy257_2 := fun (n_ : Nat) => (show (((((w10.drewN n_).setCell ⟨gb256, 0, none⟩ (.int .i64 ((rd_T37 l0 x12_1).f0))).setCell ⟨gb256, 1, none⟩ (.slice A255_1 ((rd_T37 l0 x12_1).f1).length c255_1)).setCell ⟨gb256, 2, none⟩ (.int .i64 ((rd_T37 l0 x12_1).f2)))).cell? _ = some _ from hx257_2)); clear hn257_0; clear hn257_1; clear hn257_2; replace p257 := eq_true p257; replace q257 := eq_true q257) | (go_at_call 42; (with_reducible refine (slices_BinarySearch_int_int.calls k1 _ _ ((rd_T37 l0 x12_1).f1) ((rd_T37 l0 a1).f0) t258 t259 _ ?side1 ?side2 A8.out).mono ?_); (case side1 => exact Kd.C_below HR255_1.out (by repeat (first | (with_reducible first | exact HB.out | apply below_alloc | apply pw_below_drewN | apply below_drew1 | refine below_set ?_ GE256.out) | exact HB.out))); (case side2 => exact HC255_1.out); rintro e w' ⟨rfl, ⟨nd, rfl⟩⟩; (try first | exact ⟨rfl, _, World.drewN_drewN _ _ _⟩ | exact ⟨rfl, _, Eq.trans (World.drewN_drewN _ _ _) (congrArg (World.drewN _) (Nat.add_assoc _ _ _))⟩))); go_upto_region 6 with (first | ((with_reducible refine gate_dst (N := 7) rfl ?_); (try (refine gate_guard (by rfl) ?_; dsimp only)); refine box_event ?hg (N := 7) ?hd (cs := #[.int .i64 0, .slice none 0 0, .int .i64 0]) (t := 37) ?hr ?_; (case hd => rfl); (case hg => rfl); (case hr => first | (go_simp; done) | (go_simp; rfl)); intro gb256 hg w10 hbox hb; have n0_ := Aside0.mk (below_step (by repeat (first | (with_reducible first | exact HB.out | apply below_alloc | apply pw_below_drewN | apply below_drew1) | exact HB.out)) hb); have n1_ := Aside0.mk (hbox); have n2_ := Aside0.mk ((by rw [hg]; exact (below_size (by repeat (first | (with_reducible first | exact HB.out | apply below_alloc | apply pw_below_drewN | apply below_drew1) | exact HB.out))) : w.heap.size ≤ gb256)); have n3_ := Aside0.mk ((by rw [hg]; exact (below_size (by repeat (first | (with_reducible first | exact HB.out | apply below_alloc | apply pw_below_drewN | apply below_drew1) | exact HB.out))) : w.heap.size ≤ gb256)); clear HB; have HB := n0_; have BK256 := n1_; have GW256 := n2_; have GE256 := n3_; clear n0_ n1_ n2_ n3_; clear hb hbox hg; have hcz11_0 : w10.cell? ⟨gb256, 0, none⟩ = some (.int .i64 0) := (blk_cell BK256.out 0).trans rfl; have hcz11_1 : w10.cell? ⟨gb256, 1, none⟩ = some (.slice none 0 0) := (blk_cell BK256.out 1).trans rfl; have hcz11_2 : w10.cell? ⟨gb256, 2, none⟩ = some (.int .i64 0) := (blk_cell BK256.out 2).trans rfl; have hfz11_0 := blk_frozen BK256.out 0; have hfz11_1 := blk_frozen BK256.out 1; have hfz11_2 := blk_frozen BK256.out 2; have p257 : 0 ≤ (a1 : Int) := of_decide_eq_true (by first | (with_reducible assumption) | assumption); have q257 : a1 < (l0.length : Int) := of_decide_eq_true (by first | (with_reducible assumption) | assumption); obtain ⟨ad257, A257_1, c257_1, e257, hx257_0, hx257_1, hx257_2, hl257_1, hi257_1⟩ := at_T37 HR0.out a1 p257 q257; obtain rfl : ad255 = ad257 := (by injection e257); have hn257_0 : ad255.block ≠ gb256 := Nat.ne_of_lt (Nat.lt_of_lt_of_le (by have := World.block_lt_of_cell? _ _ hx257_0; first | rwa [add_block] at this | exact this) GW256.out); have hn257_1 : ad255.block ≠ gb256 := Nat.ne_of_lt (Nat.lt_of_lt_of_le (by have := World.block_lt_of_cell? _ _ hx257_0; first | rwa [add_block] at this | exact this) GW256.out); have hn257_2 : ad255.block ≠ gb256 := Nat.ne_of_lt (Nat.lt_of_lt_of_le (by have := World.block_lt_of_cell? _ _ hx257_0; first | rwa [add_block] at this | exact this) GW256.out); replace hx257_0 := (HB.out.cell (World.block_lt_of_cell? w _ hx257_0)).trans hx257_0; replace hx257_1 := (HB.out.cell (World.block_lt_of_cell? w _ hx257_1)).trans hx257_1; replace hx257_2 := (HB.out.cell (World.block_lt_of_cell? w _ hx257_2)).trans hx257_2; have HR257_1 := Aside0.mk hi257_1; have HC257_1 := Aside0.mk hl257_1; clear hi257_1 hl257_1; replace hx257_0 := (cell_far (p := ⟨gb256, 0, none⟩) (by first | (rw [add_block]; exact hn257_0) | (show (Addr.add _ _).block ≠ _; rw [add_block]; exact hn257_0) | exact hn257_0) (.int .i64 ((rd_T37 l0 x12_1).f0))).trans hx257_0; replace hx257_1 := (cell_far (p := ⟨gb256, 0, none⟩) (by first | (rw [add_block]; exact hn257_0) | (show (Addr.add _ _).block ≠ _; rw [add_block]; exact hn257_0) | exact hn257_0) (.int .i64 ((rd_T37 l0 x12_1).f0))).trans hx257_1; replace hx257_2 := (cell_far (p := ⟨gb256, 0, none⟩) (by first | (rw [add_block]; exact hn257_0) | (show (Addr.add _ _).block ≠ _; rw [add_block]; exact hn257_0) | exact hn257_0) (.int .i64 ((rd_T37 l0 x12_1).f0))).trans hx257_2; replace hx257_0 := (cell_far (p := ⟨gb256, 1, none⟩) (by first | (rw [add_block]; exact hn257_1) | (show (Addr.add _ _).block ≠ _; rw [add_block]; exact hn257_1) | exact hn257_1) (.slice A255_1 ((rd_T37 l0 x12_1).f1).length c255_1)).trans hx257_0; replace hx257_1 := (cell_far (p := ⟨gb256, 1, none⟩) (by first | (rw [add_block]; exact hn257_1) | (show (Addr.add _ _).block ≠ _; rw [add_block]; exact hn257_1) | exact hn257_1) (.slice A255_1 ((rd_T37 l0 x12_1).f1).length c255_1)).trans hx257_1; replace hx257_2 := (cell_far (p := ⟨gb256, 1, none⟩) (by first | (rw [add_block]; exact hn257_1) | (show (Addr.add _ _).block ≠ _; rw [add_block]; exact hn257_1) | exact hn257_1) (.slice A255_1 ((rd_T37 l0 x12_1).f1).length c255_1)).trans hx257_2; replace hx257_0 := (cell_far (p := ⟨gb256, 2, none⟩) (by first | (rw [add_block]; exact hn257_2) | (show (Addr.add _ _).block ≠ _; rw [add_block]; exact hn257_2) | exact hn257_2) (.int .i64 ((rd_T37 l0 x12_1).f2))).trans hx257_0; replace hx257_1 := (cell_far (p := ⟨gb256, 2, none⟩) (by first | (rw [add_block]; exact hn257_2) | (show (Addr.add _ _).block ≠ _; rw [add_block]; exact hn257_2) | exact hn257_2) (.int .i64 ((rd_T37 l0 x12_1).f2))).trans hx257_1; replace hx257_2 := (cell_far (p := ⟨gb256, 2, none⟩) (by first | (rw [add_block]; exact hn257_2) | (show (Addr.add _ _).block ≠ _; rw [add_block]; exact hn257_2) | exact hn257_2) (.int .i64 ((rd_T37 l0 x12_1).f2))).trans hx257_2; (try have hy257_0 := fun (n_ : Nat) => (show (((((w10.drewN n_).setCell ⟨gb256, 0, none⟩ (.int .i64 ((rd_T37 l0 x12_1).f0))).setCell ⟨gb256, 1, none⟩ (.slice A255_1 ((rd_T37 l0 x12_1).f1).length c255_1)).setCell ⟨gb256, 2, none⟩ (.int .i64 ((rd_T37 l0 x12_1).f2)))).cell? _ = some _ from hx257_0)); (try have hy257_1 := fun (n_ : Nat) => (show (((((w10.drewN n_).setCell ⟨gb256, 0, none⟩ (.int .i64 ((rd_T37 l0 x12_1).f0))).setCell ⟨gb256, 1, none⟩ (.slice A255_1 ((rd_T37 l0 x12_1).f1).length c255_1)).setCell ⟨gb256, 2, none⟩ (.int .i64 ((rd_T37 l0 x12_1).f2)))).cell? _ = some _ from hx257_1)); (try have hy257_2 := fun (n_ : Nat) => (show (((((w10.drewN n_).setCell ⟨gb256, 0, none⟩ (.int .i64 ((rd_T37 l0 x12_1).f0))).setCell ⟨gb256, 1, none⟩ (.slice A255_1 ((rd_T37 l0 x12_1).f1).length c255_1)).setCell ⟨gb256, 2, none⟩ (.int .i64 ((rd_T37 l0 x12_1).f2)))).cell? _ = some _ from hx257_2)); clear hn257_0; clear hn257_1; clear hn257_2; replace p257 := eq_true p257; replace q257 := eq_true q257) | (go_at_call 42; (with_reducible refine (slices_BinarySearch_int_int.calls k1 _ _ ((rd_T37 l0 x12_1).f1) ((rd_T37 l0 a1).f0) t258 t259 _ ?side1 ?side2 A8.out).mono ?_); (case side1 => exact Kd.C_below HR255_1.out (by repeat (first | (with_reducible first | exact HB.out | apply below_alloc | apply pw_below_drewN | apply below_drew1 | refine below_set ?_ GE256.out) | exact HB.out))); (case side2 => exact HC255_1.out); rintro e w' ⟨rfl, ⟨nd, rfl⟩⟩; (try first | exact ⟨rfl, _, World.drewN_drewN _ _ _⟩ | exact ⟨rfl, _, Eq.trans (World.drewN_drewN _ _ _) (congrArg (World.drewN _) (Nat.add_assoc _ _ _))⟩))))
                (try simp only [Act.put, List.setIfInBounds_toArray, List.set_cons_zero, List.set_cons_succ])
                go_cut [34] (fun v34 wc => ∃ (kq : Nat) (x34_8 : Bool), v34 = .bool x34_8 ∧ Aside0 (graph_inside.j1 kq l0 a1 x5_1 x12_1 l0 (l0.length : Int) x12_1 x34_8 ((rd_T37 l0 x12_1).f0) ((rd_T37 l0 x12_1).f1) ((rd_T37 l0 x12_1).f2) = some r) ∧ Aside0 (kq ≤ k1) ∧ Aside0 (wc.heap[gb256]? = some (.cells #[.int .i64 ((rd_T37 l0 x12_1).f0), (.slice A255_1 ((rd_T37 l0 x12_1).f1).length c255_1), .int .i64 ((rd_T37 l0 x12_1).f2)] 37 (0, 0))) ∧ Aside0 (Below w.heap.size w wc))
                case first =>
                  have H := HC9.out
                  clear HC9
                  by_cases c12 : x12_1 = a1
                  · rw [if_pos c12] at H
                    have c12b0 : (x12_1 == a1) = true := beq_iff_eq.mpr c12
                    have c12b1 : (x12_1 != a1) = false := bne_eq_false_iff_eq.mpr c12
                    clear c12
                    (first | rw [c12b0] | (simp only [i64_w, i32_w]; rw [c12b0]) | skip)
                    have H' := Aside0.mk H
                    clear H
                    go_wp2
                    repeat (go_quiet (fail); try go_wp2)
                    go_meet
                    case rel => exact ⟨_, (true), (by first | rfl | (simp; done) | (simp [*]; done)), H', ⟨by have := HK1.out; first | omega | exact Nat.le_refl _⟩, ⟨by (with_reducible repeat (first | refine blk_drewN ?_ _ | refine blk_drew ?_ | refine blk_alloc ?_ _)); refine blk_put (cs := #[.int .i64 ((rd_T37 l0 x12_1).f0), .slice A255_1 ((rd_T37 l0 x12_1).f1).length c255_1, .int .i64 0]) ?_ 2 _ rfl; (with_reducible repeat (first | refine blk_drewN ?_ _ | refine blk_drew ?_ | refine blk_alloc ?_ _)); refine blk_put (cs := #[.int .i64 ((rd_T37 l0 x12_1).f0), .slice none 0 0, .int .i64 0]) ?_ 1 _ rfl; (with_reducible repeat (first | refine blk_drewN ?_ _ | refine blk_drew ?_ | refine blk_alloc ?_ _)); refine blk_put (cs := #[.int .i64 0, .slice none 0 0, .int .i64 0]) ?_ 0 _ rfl; (with_reducible repeat (first | refine blk_drewN ?_ _ | refine blk_drew ?_ | refine blk_alloc ?_ _)); exact BK256.out⟩, ⟨by repeat (first | (with_reducible first | exact HB.out | apply below_alloc | apply pw_below_drewN | apply below_drew1 | refine below_set ?_ GE256.out) | exact HB.out)⟩⟩
                  · rw [if_neg c12] at H
                    have c12b0 : (x12_1 == a1) = false := beq_eq_false_iff_ne.mpr c12
                    have c12b1 : (x12_1 != a1) = true := bne_iff_ne.mpr c12
                    (first | rw [c12b0] | (simp only [i64_w, i32_w]; rw [c12b0]) | skip)
                    have H' := Aside0.mk H
                    clear H
                    go_wp2
                    repeat (go_quiet (fail); try go_wp2)
                    go_meet
                    case rel => exact ⟨_, (!t259), (by first | rfl | (simp; done) | (simp [*]; done)), H', ⟨by have := HK1.out; first | omega | exact Nat.le_refl _⟩, ⟨by (with_reducible repeat (first | refine blk_drewN ?_ _ | refine blk_drew ?_ | refine blk_alloc ?_ _)); refine blk_put (cs := #[.int .i64 ((rd_T37 l0 x12_1).f0), .slice A255_1 ((rd_T37 l0 x12_1).f1).length c255_1, .int .i64 0]) ?_ 2 _ rfl; (with_reducible repeat (first | refine blk_drewN ?_ _ | refine blk_drew ?_ | refine blk_alloc ?_ _)); refine blk_put (cs := #[.int .i64 ((rd_T37 l0 x12_1).f0), .slice none 0 0, .int .i64 0]) ?_ 1 _ rfl; (with_reducible repeat (first | refine blk_drewN ?_ _ | refine blk_drew ?_ | refine blk_alloc ?_ _)); refine blk_put (cs := #[.int .i64 0, .slice none 0 0, .int .i64 0]) ?_ 0 _ rfl; (with_reducible repeat (first | refine blk_drewN ?_ _ | refine blk_drew ?_ | refine blk_alloc ?_ _)); exact BK256.out⟩, ⟨by repeat (first | (with_reducible first | exact HB.out | apply below_alloc | apply pw_below_drewN | apply below_drew1 | refine below_set ?_ GE256.out) | exact HB.out)⟩⟩
                case rest =>
                  clear HC9
                  try clear c1
                  try clear c2
                  try clear p2
                  try clear q2
                  try clear hx2
                  try clear c3
                  try clear c3b0
                  try clear c4
                  try clear c4b0
                  try clear c5
                  try clear c5b0
                  try clear c6
                  try clear c6b0
                  try clear c7
                  try clear c7b0
                  try clear c12
                  try clear c12b0
                  try clear c12b1
                  try clear hcz11_0
                  try clear hcz11_1
                  try clear hcz11_2
                  try clear hfz11_0
                  try clear hfz11_1
                  try clear hfz11_2
                  try clear hx255_0
                  try clear hx255_1
                  try clear hx255_2
                  try clear hx257_0
                  try clear hx257_1
                  try clear hx257_2
                  try clear p2
                  try clear p255
                  try clear p257
                  try clear q255
                  try clear q257
                  obtain ⟨kq, x34_8, rfl, HA, HJ8, BK256, HB⟩ := hcut
                  cases kq with
                  | zero => exact absurd HA.out (by simp [graph_inside.j1])
                  | succ kj8 =>
                    have H := HA.out
                    clear HA
                    simp only [graph_inside.j1] at H
                    by_cases c13 : x34_8 = true
                    · subst c13
                      have H1 : (graph_inside.l0 kj8 l0 a1 x5_1 l0 (l0.length : Int) (wrap64 (x12_1 + 1))) = some r := by rw [if_pos rfl] at H; exact H
                      clear H
                      have H := H1
                      clear H1
                      have H' := Aside0.mk H
                      clear H
                      go_wp2
                      repeat (go_quiet (fail); try go_wp2)
                      go_roundg kj8
                      case measure => have := HK1.out; have := HJ8.out; omega
                      case rel => exact ⟨(x5_1), (wrap64 (x12_1 + 1)), (by first | rfl | (simp; done) | (simp [*]; done)), (by first | rfl | (simp; done) | (simp [*]; done)), H', ⟨by have := HK1.out; have := HJ8.out; omega⟩, ⟨by repeat (first | (with_reducible first | exact HB.out | apply below_alloc | apply pw_below_drewN | apply below_drew1 | refine below_set ?_ GE256.out) | exact HB.out)⟩⟩
                    · replace c13 := Bool.eq_false_iff.mpr c13
                      subst c13
                      have H1 : (if x5_1 < 0 then (graph_inside.l0 kj8 l0 a1 x12_1 l0 (l0.length : Int) (wrap64 (x12_1 + 1))) else (if 0 ≤ x5_1 then (if x5_1 < (l0.length : Int) then ((cmp_Less_int.f (((rd_T37 l0 x12_1).f1).length : Int) (((rd_T37 l0 x5_1).f1).length : Int)).bind fun t261 => (if t261 = true then (graph_inside.l0 kj8 l0 a1 x12_1 l0 (l0.length : Int) (wrap64 (x12_1 + 1))) else (graph_inside.l0 kj8 l0 a1 x5_1 l0 (l0.length : Int) (wrap64 (x12_1 + 1))))) else (none)) else (none))) = some r := by rw [if_neg (show ¬ (false = true) by decide)] at H; exact H
                      clear H
                      have H := H1
                      clear H1
                      by_cases c14 : x5_1 < 0
                      · rw [if_pos c14] at H
                        have c14b0 : decide (x5_1 < 0) = true := decide_eq_true c14
                        clear c14
                        have H' := Aside0.mk H
                        clear H
                        go_wp2
                        repeat (go_quiet (fail); try go_wp2)
                        go_roundg kj8
                        case measure => have := HK1.out; have := HJ8.out; omega
                        case rel => exact ⟨(x12_1), (wrap64 (x12_1 + 1)), (by first | rfl | (simp; done) | (simp [*]; done)), (by first | rfl | (simp; done) | (simp [*]; done)), H', ⟨by have := HK1.out; have := HJ8.out; omega⟩, ⟨by repeat (first | (with_reducible first | exact HB.out | apply below_alloc | apply pw_below_drewN | apply below_drew1 | refine below_set ?_ GE256.out) | exact HB.out)⟩⟩
                      · rw [if_neg c14] at H
                        have c14b0 : decide (x5_1 < 0) = false := decide_eq_false c14
                        clear c14
                        by_cases c15 : 0 ≤ x5_1
                        · rw [if_pos c15] at H
                          have c15b0 : decide (0 ≤ x5_1) = true := decide_eq_true c15
                          clear c15
                          by_cases c16 : x5_1 < (l0.length : Int)
                          · rw [if_pos c16] at H
                            have c16b0 : decide (x5_1 < (l0.length : Int)) = true := decide_eq_true c16
                            clear c16
                            replace H := Option.bind_eq_some_iff.mp H
                            obtain ⟨t261, A170, H⟩ := H
                            replace H : (if t261 = true then (graph_inside.l0 kj8 l0 a1 x12_1 l0 (l0.length : Int) (wrap64 (x12_1 + 1))) else (graph_inside.l0 kj8 l0 a1 x5_1 l0 (l0.length : Int) (wrap64 (x12_1 + 1)))) = some r := H
                            have A17 := Aside0.mk A170
                            clear A170
                            by_cases c18 : t261 = true
                            · subst c18
                              have H1 : (graph_inside.l0 kj8 l0 a1 x12_1 l0 (l0.length : Int) (wrap64 (x12_1 + 1))) = some r := by rw [if_pos rfl] at H; exact H
                              clear H
                              have H := H1
                              clear H1
                              have H' := Aside0.mk H
                              clear H
                              have hcz19_0 : wc.cell? ⟨gb256, 0, none⟩ = some (.int .i64 ((rd_T37 l0 x12_1).f0)) := (blk_cell BK256.out 0).trans rfl
                              have hcz19_1 : wc.cell? ⟨gb256, 1, none⟩ = some (.slice A255_1 ((rd_T37 l0 x12_1).f1).length c255_1) := (blk_cell BK256.out 1).trans rfl
                              have hcz19_2 : wc.cell? ⟨gb256, 2, none⟩ = some (.int .i64 ((rd_T37 l0 x12_1).f2)) := (blk_cell BK256.out 2).trans rfl
                              have hfz19_0 := blk_frozen BK256.out 0
                              have hfz19_1 := blk_frozen BK256.out 1
                              have hfz19_2 := blk_frozen BK256.out 2
                              have p260 : 0 ≤ (x5_1 : Int) := of_decide_eq_true (by first | (with_reducible assumption) | assumption)
                              have q260 : x5_1 < (l0.length : Int) := of_decide_eq_true (by first | (with_reducible assumption) | assumption)
                              obtain ⟨ad260, A260_1, c260_1, e260, hx260_0, hx260_1, hx260_2, hl260_1, hi260_1⟩ := at_T37 HR0.out x5_1 p260 q260
                              obtain rfl : ad255 = ad260 := (by injection e260)
                              replace hx260_0 := (HB.out.cell (World.block_lt_of_cell? w _ hx260_0)).trans hx260_0
                              replace hx260_1 := (HB.out.cell (World.block_lt_of_cell? w _ hx260_1)).trans hx260_1
                              replace hx260_2 := (HB.out.cell (World.block_lt_of_cell? w _ hx260_2)).trans hx260_2
                              have HR260_1 := Aside0.mk hi260_1
                              have HC260_1 := Aside0.mk hl260_1
                              clear hi260_1 hl260_1
                              replace p260 := eq_true p260
                              replace q260 := eq_true q260
                              go_wp2_with (first | (go_at_call 43; (with_reducible refine (cmp_Less_int.calls (((rd_T37 l0 x12_1).f1).length : Int) (((rd_T37 l0 x5_1).f1).length : Int) true _ A17.out).mono ?_); rintro e w' ⟨rfl, ⟨nd, rfl⟩⟩; (try first | exact ⟨rfl, _, World.drewN_drewN _ _ _⟩ | exact ⟨rfl, _, Eq.trans (World.drewN_drewN _ _ _) (congrArg (World.drewN _) (Nat.add_assoc _ _ _))⟩)))
                              repeat (go_quiet (first | (go_at_call 43; (with_reducible refine (cmp_Less_int.calls (((rd_T37 l0 x12_1).f1).length : Int) (((rd_T37 l0 x5_1).f1).length : Int) true _ A17.out).mono ?_); rintro e w' ⟨rfl, ⟨nd, rfl⟩⟩; (try first | exact ⟨rfl, _, World.drewN_drewN _ _ _⟩ | exact ⟨rfl, _, Eq.trans (World.drewN_drewN _ _ _) (congrArg (World.drewN _) (Nat.add_assoc _ _ _))⟩))); try go_wp2_with (first | (go_at_call 43; (with_reducible refine (cmp_Less_int.calls (((rd_T37 l0 x12_1).f1).length : Int) (((rd_T37 l0 x5_1).f1).length : Int) true _ A17.out).mono ?_); rintro e w' ⟨rfl, ⟨nd, rfl⟩⟩; (try first | exact ⟨rfl, _, World.drewN_drewN _ _ _⟩ | exact ⟨rfl, _, Eq.trans (World.drewN_drewN _ _ _) (congrArg (World.drewN _) (Nat.add_assoc _ _ _))⟩))))
                              go_roundg kj8
                              case measure => have := HK1.out; have := HJ8.out; omega
                              case rel => exact ⟨(x12_1), (wrap64 (x12_1 + 1)), (by first | rfl | (simp; done) | (simp [*]; done)), (by first | rfl | (simp; done) | (simp [*]; done)), H', ⟨by have := HK1.out; have := HJ8.out; omega⟩, ⟨by repeat (first | (with_reducible first | exact HB.out | apply below_alloc | apply pw_below_drewN | apply below_drew1 | refine below_set ?_ GE256.out) | exact HB.out)⟩⟩
                            · replace c18 := Bool.eq_false_iff.mpr c18
                              subst c18
                              have H1 : (graph_inside.l0 kj8 l0 a1 x5_1 l0 (l0.length : Int) (wrap64 (x12_1 + 1))) = some r := by rw [if_neg (show ¬ (false = true) by decide)] at H; exact H
                              clear H
                              have H := H1
                              clear H1
                              have H' := Aside0.mk H
                              clear H
                              have hcz20_0 : wc.cell? ⟨gb256, 0, none⟩ = some (.int .i64 ((rd_T37 l0 x12_1).f0)) := (blk_cell BK256.out 0).trans rfl
                              have hcz20_1 : wc.cell? ⟨gb256, 1, none⟩ = some (.slice A255_1 ((rd_T37 l0 x12_1).f1).length c255_1) := (blk_cell BK256.out 1).trans rfl
                              have hcz20_2 : wc.cell? ⟨gb256, 2, none⟩ = some (.int .i64 ((rd_T37 l0 x12_1).f2)) := (blk_cell BK256.out 2).trans rfl
                              have hfz20_0 := blk_frozen BK256.out 0
                              have hfz20_1 := blk_frozen BK256.out 1
                              have hfz20_2 := blk_frozen BK256.out 2
                              have p260 : 0 ≤ (x5_1 : Int) := of_decide_eq_true (by first | (with_reducible assumption) | assumption)
                              have q260 : x5_1 < (l0.length : Int) := of_decide_eq_true (by first | (with_reducible assumption) | assumption)
                              obtain ⟨ad260, A260_1, c260_1, e260, hx260_0, hx260_1, hx260_2, hl260_1, hi260_1⟩ := at_T37 HR0.out x5_1 p260 q260
                              obtain rfl : ad255 = ad260 := (by injection e260)
                              replace hx260_0 := (HB.out.cell (World.block_lt_of_cell? w _ hx260_0)).trans hx260_0
                              replace hx260_1 := (HB.out.cell (World.block_lt_of_cell? w _ hx260_1)).trans hx260_1
                              replace hx260_2 := (HB.out.cell (World.block_lt_of_cell? w _ hx260_2)).trans hx260_2
                              have HR260_1 := Aside0.mk hi260_1
                              have HC260_1 := Aside0.mk hl260_1
                              clear hi260_1 hl260_1
                              replace p260 := eq_true p260
                              replace q260 := eq_true q260
                              go_wp2_with (first | (go_at_call 43; (with_reducible refine (cmp_Less_int.calls (((rd_T37 l0 x12_1).f1).length : Int) (((rd_T37 l0 x5_1).f1).length : Int) false _ A17.out).mono ?_); rintro e w' ⟨rfl, ⟨nd, rfl⟩⟩; (try first | exact ⟨rfl, _, World.drewN_drewN _ _ _⟩ | exact ⟨rfl, _, Eq.trans (World.drewN_drewN _ _ _) (congrArg (World.drewN _) (Nat.add_assoc _ _ _))⟩)))
                              repeat (go_quiet (first | (go_at_call 43; (with_reducible refine (cmp_Less_int.calls (((rd_T37 l0 x12_1).f1).length : Int) (((rd_T37 l0 x5_1).f1).length : Int) false _ A17.out).mono ?_); rintro e w' ⟨rfl, ⟨nd, rfl⟩⟩; (try first | exact ⟨rfl, _, World.drewN_drewN _ _ _⟩ | exact ⟨rfl, _, Eq.trans (World.drewN_drewN _ _ _) (congrArg (World.drewN _) (Nat.add_assoc _ _ _))⟩))); try go_wp2_with (first | (go_at_call 43; (with_reducible refine (cmp_Less_int.calls (((rd_T37 l0 x12_1).f1).length : Int) (((rd_T37 l0 x5_1).f1).length : Int) false _ A17.out).mono ?_); rintro e w' ⟨rfl, ⟨nd, rfl⟩⟩; (try first | exact ⟨rfl, _, World.drewN_drewN _ _ _⟩ | exact ⟨rfl, _, Eq.trans (World.drewN_drewN _ _ _) (congrArg (World.drewN _) (Nat.add_assoc _ _ _))⟩))))
                              go_roundg kj8
                              case measure => have := HK1.out; have := HJ8.out; omega
                              case rel => exact ⟨(x5_1), (wrap64 (x12_1 + 1)), (by first | rfl | (simp; done) | (simp [*]; done)), (by first | rfl | (simp; done) | (simp [*]; done)), H', ⟨by have := HK1.out; have := HJ8.out; omega⟩, ⟨by repeat (first | (with_reducible first | exact HB.out | apply below_alloc | apply pw_below_drewN | apply below_drew1 | refine below_set ?_ GE256.out) | exact HB.out)⟩⟩
                          · rw [if_neg c16] at H
                            exact absurd H (by simp)
                        · rw [if_neg c15] at H
                          exact absurd H (by simp)
              · rw [if_neg c7] at H
                exact absurd H (by simp)
            · rw [if_neg c6] at H
              exact absurd H (by simp)
          · rw [if_neg c5] at H
            exact absurd H (by simp)
        · rw [if_neg c4] at H
          exact absurd H (by simp)
      · rw [if_neg c3] at H
        have c3b0 : decide (x12_1 < (l0.length : Int)) = false := decide_eq_false c3
        clear c3
        obtain rfl := Option.some.inj H
        go_wp2
        repeat (go_quiet (fail); try go_wp2)
        go_ret
        exact ⟨by first | rfl | (simp [errW_none, errW_some] <;> rfl) | (simp [*, errW_none, errW_some] <;> rfl), by repeat (first | (with_reducible first | exact HB.out | apply below_alloc | apply pw_below_drewN | apply below_drew1) | exact HB.out)⟩

end Go.Proofs.Ytjflddnmkajleaa.PG
