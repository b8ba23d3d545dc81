/- Function 17: the next block to merge. -/
import Derived.Test.YtdndnjpfpelimaaLeads
import Derived.Test.YtdndnjpfpelimaaPGx0
import Derived.Test.YtdndnjpfpelimaaU
namespace Go.Proofs.Ytdndnjpfpelimaa.PG
open Go.RowKit Go.Proofs.YtdndnjpfpelimaaW.PrintWords Go.Proofs.YtdndnjpfpelimaaW.PrintLast Go.Proofs.YtdndnjpfpelimaaW.PrintMore
attribute [local go_sem] max2_int min2_int max_two min_two max_three min_three max_four min_four   -- for this text's walks alone
set_option linter.unusedVariables false
set_option linter.unusedSimpArgs false
attribute [local go_sem] run_store_complex
theorem lm2 (lx ly : List S32) (x1 x3 y1 y2 y3 : Int) : lm [(⟨lx, ⟨1, x1, 1, x3⟩⟩ : S37), (⟨ly, ⟨3, y1, y2, y3⟩⟩ : S37)] = [(1, some 1)] := by simp [lm, lmStep, mval]
theorem lm1 (ly : List S32) (y1 y2 y3 : Int) : lm [(⟨ly, ⟨3, y1, y2, y3⟩⟩ : S37)] = [] := by simp [lm, lmStep]
theorem leads2 (lx ly : List S32) (x1 x3 y1 y2 y3 : Int) : LeadsOK [(⟨lx, ⟨1, x1, 1, x3⟩⟩ : S37), (⟨ly, ⟨3, y1, y2, y3⟩⟩ : S37)] := by
  refine ⟨by simp, ?_, ?_⟩
  · intro b hb
    simp only [List.mem_cons, List.not_mem_nil, or_false] at hb
    rcases hb with rfl | rfl
    · exact ⟨show (1 : Int) ≠ 2 by decide, fun _ => wfI (show (0 : Int) ≤ 1 by decide) (show (1 : Int) < 1000000 by decide)⟩
    · exact ⟨show (3 : Int) ≠ 2 by decide, fun h => by simp at h⟩
  · intro i k
    rcases i with _ | _ | i
    · simp [lm, mval]
    · simp [lm, lmStep, mval]
      split <;> simp
    · have : ([(⟨lx, ⟨1, x1, 1, x3⟩⟩ : S37), (⟨ly, ⟨3, y1, y2, y3⟩⟩ : S37)] : List S37).take (i + 1 + 1) = [(⟨lx, ⟨1, x1, 1, x3⟩⟩ : S37), (⟨ly, ⟨3, y1, y2, y3⟩⟩ : S37)] := List.take_of_length_le (by simp)
      rw [this, lm2]
      simp [mval]
      split <;> simp <;> omega
theorem leads1 (ly : List S32) (y1 y2 y3 : Int) : LeadsOK [(⟨ly, ⟨3, y1, y2, y3⟩⟩ : S37)] := by
  refine ⟨by simp, ?_, ?_⟩
  · intro b hb
    simp only [List.mem_cons, List.not_mem_nil, or_false] at hb
    subst hb
    exact ⟨show (3 : Int) ≠ 2 by decide, fun h => by simp at h⟩
  · intro i k
    rcases i with _ | i
    · simp [lm, mval]
    · have : ([(⟨ly, ⟨3, y1, y2, y3⟩⟩ : S37)] : List S37).take (i + 1) = [(⟨ly, ⟨3, y1, y2, y3⟩⟩ : S37)] := List.take_of_length_le (by simp)
      rw [this, lm1]
      simp [mval]
      omega
set_option maxHeartbeats 4000000 in
set_option maxRecDepth 100000 in
theorem next2_calls (A : Option Addr) (c : Nat) (lx ly : List S32) (x1 x3 y1 y2 y3 : Int) (nm : ByteArray) (p q : Int) (w : World) (hr : Kd.C k37 w A 2 [(⟨lx, ⟨1, x1, 1, x3⟩⟩ : S37), (⟨ly, ⟨3, y1, y2, y3⟩⟩ : S37)]) :
    Calls Try.prog 17 #[.agg #[.string nm, .int .i64 p, .int .i64 q, .slice A 2 c]] w fun e w' => e = .returned (.int .i64 0) ∧ Below w.heap.size w w' := by
  have HR := Aside0.mk hr
  clear hr
  have hu24 := Try.underlying24
  have hu37 := Try.underlying37
  have hu35 := Try.underlying35
  go_enter Try.func17, Try.ntmps17
  go_upto_region 2 with (go_at_call 27; refine (leads_calls A c [(⟨lx, ⟨1, x1, 1, x3⟩⟩ : S37), (⟨ly, ⟨3, y1, y2, y3⟩⟩ : S37)] nm p q _ (Kd.C_alloc HR.out _) (leads2 lx ly x1 x3 y1 y2 y3)).mono ?_; rintro e w2 ⟨rfl, hm, hb⟩; have HM := Aside0.mk hm; have H0 := Aside0.mk (blk_below (new1 w (.cells #[.string nm, .int .i64 p, .int .i64 q, .slice A 2 c] 24)) hb); have HB := Aside0.mk (below_step (below_alloc (Below.refl _ _) _) hb); have HS := Aside0.mk hm.lt; clear hm hb)
  obtain ⟨f0, f1, f2, f3⟩ := box4 H0.out
  obtain ⟨ad, A0, c0, rfl, hx0, hx1, hx2, hx3, hx4, _, _⟩ := at_T37 HR.out 0 (by omega) (by simp)
  replace hx0 := (HB.out.cell (World.block_lt_of_cell? w _ hx0)).trans hx0
  replace hx1 := (HB.out.cell (World.block_lt_of_cell? w _ hx1)).trans hx1
  replace hx2 := (HB.out.cell (World.block_lt_of_cell? w _ hx2)).trans hx2
  replace hx3 := (HB.out.cell (World.block_lt_of_cell? w _ hx3)).trans hx3
  replace hx4 := (HB.out.cell (World.block_lt_of_cell? w _ hx4)).trans hx4
  have ha0 : ad.add 0 = ad := by simp [Addr.add]
  simp only [Int.toNat_zero, Nat.zero_mul, rd_T37, List.getD_cons_zero, ha0] at hx0 hx1 hx2 hx3 hx4
  clear ha0
  go_wp2
  refine wp_loop_rounds 1 ?_
  rw [rounds_succ]
  go_upto_region 6 with (fail)
  refine rebase (P := fun W_ => Code.wp _ _ _ _ W_) (fun W_ => W_.heap[w2.heap.size]? = some (.cells #[.slice A0 lx.length c0, .int .i64 1, .int .i64 x1, .int .i64 1, .int .i64 x3] 37 (0, 0)) ∧ W_.heap[w.heap.size]? = some (.cells #[.string nm, .int .i64 p, .int .i64 q, .slice (some ad) 2 c] 24 (0, 0)) ∧ MapI W_ ((w.alloc (.cells #[.string nm, .int .i64 p, .int .i64 q, .slice (some ad) 2 c] 24)).heap.size + 1) [(1, some 1)] ∧ Below w.heap.size w W_) ⟨new1 _ _, blk_alloc H0.out _, by have h1 := HM.out.below (below_alloc (Below.refl _ _) (.cells #[.slice A0 lx.length c0, .int .i64 1, .int .i64 x1, .int .i64 1, .int .i64 x3] 37)); rwa [lm2] at h1, below_alloc HB.out _⟩ ?_
  clear hx0 hx1 hx2 hx3 hx4 f0 f1 f2 f3 HM HB H0
  rintro W6 ⟨h0, h1, h2, h3⟩
  obtain ⟨f0, f1, f2, f3⟩ := box4 h1
  obtain ⟨z0, z1, z2, z3, z4⟩ := box5 h0
  rw [World.size_alloc] at h2
  have hlk := (h2.look 1 (wfI (by decide) (by decide))).1
  have e1 : (mval [((1 : Int), some (1 : Int))] 1).getD 0 = 1 := rfl
  rw [e1] at hlk
  have HB := Aside0.mk h3
  clear h0 h1 h2 h3 e1
  go_wp2
  go_ret
  exact ⟨rfl, HB.out⟩
set_option maxHeartbeats 4000000 in
set_option maxRecDepth 100000 in
theorem next1_calls (A : Option Addr) (c : Nat) (ly : List S32) (y1 y2 y3 : Int) (nm : ByteArray) (p q : Int) (w : World) (hr : Kd.C k37 w A 1 [(⟨ly, ⟨3, y1, y2, y3⟩⟩ : S37)]) :
    Calls Try.prog 17 #[.agg #[.string nm, .int .i64 p, .int .i64 q, .slice A 1 c]] w fun e w' => e = .returned (.int .i64 (-1)) ∧ Below w.heap.size w w' := by
  have HR := Aside0.mk hr
  clear hr
  have hu24 := Try.underlying24
  have hu37 := Try.underlying37
  have hu35 := Try.underlying35
  go_enter Try.func17, Try.ntmps17
  go_upto_region 2 with (go_at_call 27; refine (leads_calls A c [(⟨ly, ⟨3, y1, y2, y3⟩⟩ : S37)] nm p q _ (Kd.C_alloc HR.out _) (leads1 ly y1 y2 y3)).mono ?_; rintro e w2 ⟨rfl, hm, hb⟩; have H0 := Aside0.mk (blk_below (new1 w (.cells #[.string nm, .int .i64 p, .int .i64 q, .slice A 1 c] 24)) hb); have HB := Aside0.mk (below_step (below_alloc (Below.refl _ _) _) hb); clear hm hb)
  obtain ⟨f0, f1, f2, f3⟩ := box4 H0.out
  obtain ⟨ad, A0, c0, rfl, hx0, hx1, hx2, hx3, hx4, _, _⟩ := at_T37 HR.out 0 (by omega) (by simp)
  replace hx0 := (HB.out.cell (World.block_lt_of_cell? w _ hx0)).trans hx0
  replace hx1 := (HB.out.cell (World.block_lt_of_cell? w _ hx1)).trans hx1
  replace hx2 := (HB.out.cell (World.block_lt_of_cell? w _ hx2)).trans hx2
  replace hx3 := (HB.out.cell (World.block_lt_of_cell? w _ hx3)).trans hx3
  replace hx4 := (HB.out.cell (World.block_lt_of_cell? w _ hx4)).trans hx4
  have ha0 : ad.add 0 = ad := by simp [Addr.add]
  simp only [Int.toNat_zero, Nat.zero_mul, rd_T37, List.getD_cons_zero, ha0] at hx0 hx1 hx2 hx3 hx4
  clear ha0
  go_wp2
  refine wp_loop_rounds 2 ?_
  rw [rounds_succ]
  go_wp2
  rw [rounds_succ]
  go_wp2
  go_ret
  exact ⟨rfl, below_alloc HB.out _⟩
end Go.Proofs.Ytdndnjpfpelimaa.PG
