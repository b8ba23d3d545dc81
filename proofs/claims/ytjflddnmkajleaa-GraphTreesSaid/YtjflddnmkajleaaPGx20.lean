-- By the session's own program out of the kit's print, with texts of the session's own for the functions that the print does not take.
import Derived.Test.YtjflddnmkajleaaPGx0
import Derived.Test.YtjflddnmkajleaaPGx2
import Derived.Test.YtjflddnmkajleaaPGx6
import Derived.Test.YtjflddnmkajleaaPGx7
import Derived.Test.YtjflddnmkajleaaPGx9
import Derived.Test.YtjflddnmkajleaaPGx10
import Derived.Test.YtjflddnmkajleaaPGx13
import Derived.Test.YtjflddnmkajleaaPGx18
import Derived.Test.YtjflddnmkajleaaPGx19
namespace Go.Proofs.Ytjflddnmkajleaa.PG
open Go.RowKit Go.Proofs.YtjflddnmkajleaaW.PrintWords Go.Proofs.YtjflddnmkajleaaW.PrintLast Go.Proofs.YtjflddnmkajleaaW.PrintMore
attribute [local go_sem] max2_int min2_int max_two min_two max_three min_three max_four min_four   -- for this text's walks alone
set_option linter.unusedVariables false
set_option linter.unusedSimpArgs false

/-! ### graph_Loops: function 17 -/
mutual
def graph_Loops.l0 : Nat → List Int → List Bool → List (List Int) → List (S37) → Int → Int → Option ((List (S37)))
  | 0, _, _, _, _, _, _ => none
  | k + 1, x3, x4, x5, x6, x21, x22 => if x22 < x21 then (if 0 ≤ x22 then (if x22 < (x5.length : Int) then (graph_Loops.l1 k x3 x4 x5 x6 x22 ([] : List Int) x21 x22 (rd_L1 x5 x22) ((rd_L1 x5 x22).length : Int) 0) else (none)) else (none)) else (graph_Loops.l2 k x6 (x6.length : Int) 0)
def graph_Loops.l1 : Nat → List Int → List Bool → List (List Int) → List (S37) → Int → List Int → Int → Int → List Int → Int → Int → Option ((List (S37)))
  | 0, _, _, _, _, _, _, _, _, _, _, _ => none
  | k + 1, x3, x4, x5, x6, x7, x8, x21, x22, x28, x29, x30 => if x30 < x29 then (if 0 ≤ x30 then (if x30 < (x28.length : Int) then (if 0 ≤ (rd x28 x30) then (if (rd x28 x30) < (x4.length : Int) then (if rdOf false x4 (rd x28 x30) = true then (if 0 ≤ x7 then (if x7 < (x4.length : Int) then (if rdOf false x4 x7 = true then ((graph_Dominates.f k x3 x7 (rd x28 x30)).bind fun t283 => (if t283 = true then (if x8.length < 17592186044416 then (graph_Loops.l1 k x3 x4 x5 x6 x7 (x8 ++ [rd x28 x30]) x21 x22 x28 x29 (wrap64 (x30 + 1))) else (none)) else (graph_Loops.l1 k x3 x4 x5 x6 x7 x8 x21 x22 x28 x29 (wrap64 (x30 + 1))))) else (graph_Loops.l1 k x3 x4 x5 x6 x7 x8 x21 x22 x28 x29 (wrap64 (x30 + 1)))) else (none)) else (none)) else (graph_Loops.l1 k x3 x4 x5 x6 x7 x8 x21 x22 x28 x29 (wrap64 (x30 + 1)))) else (none)) else (none)) else (none)) else (none)) else (if (x8.length : Int) > 0 then ((graph_body.f k x5 x7 x8 x4).bind fun t287 => (if x6.length < 3518437208883 then (graph_Loops.l0 k x3 x4 x5 (x6 ++ [(⟨x7, t287, (-1)⟩ : S37)]) x21 (wrap64 (x22 + 1))) else (none))) else (graph_Loops.l0 k x3 x4 x5 x6 x21 (wrap64 (x22 + 1))))
def graph_Loops.l2 : Nat → List (S37) → Int → Int → Option ((List (S37)))
  | 0, _, _, _ => none
  | k + 1, x6, x70, x71 => if x71 < x70 then ((graph_inside.f k x6 x71).bind fun t293 => (if 0 ≤ x71 then (if x71 < (x6.length : Int) then (graph_Loops.l2 k (x6.set (x71 : Int).toNat (⟨(rd_T37 x6 x71).f0, (rd_T37 x6 x71).f1, t293⟩ : S37)) x70 (wrap64 (x71 + 1))) else (none)) else (none))) else ((graph_Loop.f x6).bind fun t295 => (some t295))
end
def graph_Loops.f (k : Nat) (l0 : List (List Int)) : Option ((List (S37))) := (graph_clean.f k l0).bind fun t267 => ((graph_doms.f k t267).bind fun t270 => ((graph_reach.f k t267 0 (-1)).bind fun t273 => ((graph_preds.f k t267).bind fun t276 => (graph_Loops.l0 k t270 t273 t276 ([] : List (S37)) (t267.length : Int) 0))))
theorem graph_Loops.mono_l : ∀ k, (∀ y0 y1 y2 y3 y4 y5, LeO (graph_Loops.l0 k y0 y1 y2 y3 y4 y5) (graph_Loops.l0 (k + 1) y0 y1 y2 y3 y4 y5)) ∧ (∀ y0 y1 y2 y3 y4 y5 y6 y7 y8 y9 y10, LeO (graph_Loops.l1 k y0 y1 y2 y3 y4 y5 y6 y7 y8 y9 y10) (graph_Loops.l1 (k + 1) y0 y1 y2 y3 y4 y5 y6 y7 y8 y9 y10)) ∧ (∀ y0 y1 y2, LeO (graph_Loops.l2 k y0 y1 y2) (graph_Loops.l2 (k + 1) y0 y1 y2))
  | 0 => ⟨fun _ _ _ _ _ _ r h => by simp [graph_Loops.l0] at h, fun _ _ _ _ _ _ _ _ _ _ _ r h => by simp [graph_Loops.l1] at h, fun _ _ _ r h => by simp [graph_Loops.l2] at h⟩
  | k + 1 => by
    obtain ⟨ih0, ih1, ih2⟩ := graph_Loops.mono_l k
    refine ⟨?_, ?_, ?_⟩
    · intro y0 y1 y2 y3 y4 y5
      unfold graph_Loops.l0
      repeat' first
      | (with_reducible exact ih0 _ _ _ _ _ _)
      | (with_reducible exact ih1 _ _ _ _ _ _ _ _ _ _ _)
      | (with_reducible exact ih2 _ _ _)
      | (with_reducible exact graph_Dominates.mono _ _ _ _)
      | (with_reducible exact graph_body.mono _ _ _ _ _)
      | (with_reducible exact graph_clean.mono _ _)
      | (with_reducible exact graph_doms.mono _ _)
      | (with_reducible exact graph_inside.mono _ _ _)
      | (with_reducible exact graph_preds.mono _ _)
      | (with_reducible exact graph_reach.mono _ _ _ _)
      | (with_reducible exact LeO.refl _)
      | (with_reducible exact LeO.none _)
      | (with_reducible refine LeO.ite ?_ ?_)
      | (with_reducible refine LeO.bind ?_ (fun _ => ?_))
      | exact ih0 _ _ _ _ _ _
      | exact ih1 _ _ _ _ _ _ _ _ _ _ _
      | exact ih2 _ _ _
      | exact graph_Dominates.mono _ _ _ _
      | exact graph_body.mono _ _ _ _ _
      | exact graph_clean.mono _ _
      | exact graph_doms.mono _ _
      | exact graph_inside.mono _ _ _
      | exact graph_preds.mono _ _
      | exact graph_reach.mono _ _ _ _
      | exact LeO.none _
      | refine LeO.ite ?_ ?_
      | refine LeO.bind ?_ (fun _ => ?_)
    · intro y0 y1 y2 y3 y4 y5 y6 y7 y8 y9 y10
      unfold graph_Loops.l1
      repeat' first
      | (with_reducible exact ih0 _ _ _ _ _ _)
      | (with_reducible exact ih1 _ _ _ _ _ _ _ _ _ _ _)
      | (with_reducible exact ih2 _ _ _)
      | (with_reducible exact graph_Dominates.mono _ _ _ _)
      | (with_reducible exact graph_body.mono _ _ _ _ _)
      | (with_reducible exact graph_clean.mono _ _)
      | (with_reducible exact graph_doms.mono _ _)
      | (with_reducible exact graph_inside.mono _ _ _)
      | (with_reducible exact graph_preds.mono _ _)
      | (with_reducible exact graph_reach.mono _ _ _ _)
      | (with_reducible exact LeO.refl _)
      | (with_reducible exact LeO.none _)
      | (with_reducible refine LeO.ite ?_ ?_)
      | (with_reducible refine LeO.bind ?_ (fun _ => ?_))
      | exact ih0 _ _ _ _ _ _
      | exact ih1 _ _ _ _ _ _ _ _ _ _ _
      | exact ih2 _ _ _
      | exact graph_Dominates.mono _ _ _ _
      | exact graph_body.mono _ _ _ _ _
      | exact graph_clean.mono _ _
      | exact graph_doms.mono _ _
      | exact graph_inside.mono _ _ _
      | exact graph_preds.mono _ _
      | exact graph_reach.mono _ _ _ _
      | exact LeO.none _
      | refine LeO.ite ?_ ?_
      | refine LeO.bind ?_ (fun _ => ?_)
    · intro y0 y1 y2
      unfold graph_Loops.l2
      repeat' first
      | (with_reducible exact ih0 _ _ _ _ _ _)
      | (with_reducible exact ih1 _ _ _ _ _ _ _ _ _ _ _)
      | (with_reducible exact ih2 _ _ _)
      | (with_reducible exact graph_Dominates.mono _ _ _ _)
      | (with_reducible exact graph_body.mono _ _ _ _ _)
      | (with_reducible exact graph_clean.mono _ _)
      | (with_reducible exact graph_doms.mono _ _)
      | (with_reducible exact graph_inside.mono _ _ _)
      | (with_reducible exact graph_preds.mono _ _)
      | (with_reducible exact graph_reach.mono _ _ _ _)
      | (with_reducible exact LeO.refl _)
      | (with_reducible exact LeO.none _)
      | (with_reducible refine LeO.ite ?_ ?_)
      | (with_reducible refine LeO.bind ?_ (fun _ => ?_))
      | exact ih0 _ _ _ _ _ _
      | exact ih1 _ _ _ _ _ _ _ _ _ _ _
      | exact ih2 _ _ _
      | exact graph_Dominates.mono _ _ _ _
      | exact graph_body.mono _ _ _ _ _
      | exact graph_clean.mono _ _
      | exact graph_doms.mono _ _
      | exact graph_inside.mono _ _ _
      | exact graph_preds.mono _ _
      | exact graph_reach.mono _ _ _ _
      | exact LeO.none _
      | refine LeO.ite ?_ ?_
      | refine LeO.bind ?_ (fun _ => ?_)
theorem graph_Loops.mono : ∀ a0 k, LeO (graph_Loops.f k a0) (graph_Loops.f (k + 1) a0) := by
  intro a0 k
  obtain ⟨ih0, ih1, ih2⟩ := graph_Loops.mono_l k
  unfold graph_Loops.f
  repeat' first
      | (with_reducible exact ih0 _ _ _ _ _ _)
      | (with_reducible exact ih1 _ _ _ _ _ _ _ _ _ _ _)
      | (with_reducible exact ih2 _ _ _)
      | (with_reducible exact graph_Dominates.mono _ _ _ _)
      | (with_reducible exact graph_body.mono _ _ _ _ _)
      | (with_reducible exact graph_clean.mono _ _)
      | (with_reducible exact graph_doms.mono _ _)
      | (with_reducible exact graph_inside.mono _ _ _)
      | (with_reducible exact graph_preds.mono _ _)
      | (with_reducible exact graph_reach.mono _ _ _ _)
      | (with_reducible exact LeO.refl _)
      | (with_reducible exact LeO.none _)
      | (with_reducible refine LeO.ite ?_ ?_)
      | (with_reducible refine LeO.bind ?_ (fun _ => ?_))
      | exact ih0 _ _ _ _ _ _
      | exact ih1 _ _ _ _ _ _ _ _ _ _ _
      | exact ih2 _ _ _
      | exact graph_Dominates.mono _ _ _ _
      | exact graph_body.mono _ _ _ _ _
      | exact graph_clean.mono _ _
      | exact graph_doms.mono _ _
      | exact graph_inside.mono _ _ _
      | exact graph_preds.mono _ _
      | exact graph_reach.mono _ _ _ _
      | exact LeO.none _
      | refine LeO.ite ?_ ?_
      | refine LeO.bind ?_ (fun _ => ?_)
set_option maxHeartbeats 8000000 in
set_option maxRecDepth 100000 in
theorem graph_Loops.calls (k : Nat) (A0 : Option Addr) (c0 : Nat) (l0 : List (List Int)) (r : List (S37)) (w : World) (hr0 : Kd.C (Kd.slice 3 (Kd.int .i64)) w A0 l0.length l0) (hc0 : l0.length ≤ c0) (h : graph_Loops.f k l0 = some r) :
    Calls Try.prog 17 #[.slice A0 l0.length c0] w fun e w' => ∃ v0_ : Value, e = .returned (v0_) ∧ Kd.V k37 37 w' w.heap.size (fun k_ => (w.heap.size ≤ k_)) v0_ r ∧ Below w.heap.size w w' := by
  have hu37 := Try.underlying37
  have HR0 := Aside0.mk hr0
  have HC0 := Aside0.mk hc0
  clear hr0 hc0
  have HB := Aside0.mk (Below.refl w.heap.size w)
  have H : ((graph_clean.f k l0).bind fun t267 => ((graph_doms.f k t267).bind fun t270 => ((graph_reach.f k t267 0 (-1)).bind fun t273 => ((graph_preds.f k t267).bind fun t276 => (graph_Loops.l0 k t270 t273 t276 ([] : List (S37)) (t267.length : Int) 0))))) = some r := h
  clear h
  replace H := Option.bind_eq_some_iff.mp H
  obtain ⟨t267, A20, H⟩ := H
  replace H : ((graph_doms.f k t267).bind fun t270 => ((graph_reach.f k t267 0 (-1)).bind fun t273 => ((graph_preds.f k t267).bind fun t276 => (graph_Loops.l0 k t270 t273 t276 ([] : List (S37)) (t267.length : Int) 0)))) = some r := H
  have A2 := Aside0.mk A20
  clear A20
  replace H := Option.bind_eq_some_iff.mp H
  obtain ⟨t270, A30, H⟩ := H
  replace H : ((graph_reach.f k t267 0 (-1)).bind fun t273 => ((graph_preds.f k t267).bind fun t276 => (graph_Loops.l0 k t270 t273 t276 ([] : List (S37)) (t267.length : Int) 0))) = some r := H
  have A3 := Aside0.mk A30
  clear A30
  replace H := Option.bind_eq_some_iff.mp H
  obtain ⟨t273, A40, H⟩ := H
  replace H : ((graph_preds.f k t267).bind fun t276 => (graph_Loops.l0 k t270 t273 t276 ([] : List (S37)) (t267.length : Int) 0)) = some r := H
  have A4 := Aside0.mk A40
  clear A40
  replace H := Option.bind_eq_some_iff.mp H
  obtain ⟨t276, A50, H⟩ := H
  replace H : (graph_Loops.l0 k t270 t273 t276 ([] : List (S37)) (t267.length : Int) 0) = some r := H
  have A5 := Aside0.mk A50
  clear A50
  have H' := Aside0.mk H
  clear H
  go_enter Try.func17, Try.ntmps17
  go_wp2_with (first | ((with_reducible refine gate_callee (f := 27) rfl ?_); refine goesL_ (some 13) rfl rfl Try.func27 (by kernel_rfl) rfl #[.slice A0 l0.length c0] rfl (by (try simp only [List.map_toArray, List.map_cons, List.map_nil]); first | done | rfl | (simp only [List.length_drop, List.length_take]; rfl)) ?_; (with_reducible refine (graph_clean.calls k _ _ l0 t267 _ ?side1 ?side2 A2.out).mono ?_); (case side1 => repeat (first | exact HR0.out | (with_reducible refine Kd.C_alloc ?_ _) | (with_reducible refine Kd.C_drewN ?_ _) | (with_reducible refine Kd.C_drew ?_))); (case side2 => exact HC0.out); rintro e w6 ⟨v268, rfl, ho0, hb⟩; refine ⟨_, rfl, ?_⟩; have n0_ := Aside0.mk (Kd.N_lower (Kd.N_mono (ok' := fun k_ => (w.heap.size ≤ k_)) (Kd.S_N (Kd.S_bound ho0)) (fun k_ hk_ => (Nat.le_trans (below_size (by repeat (first | (with_reducible first | exact HB.out | apply below_alloc | apply pw_below_drewN | apply below_drew1) | exact HB.out))) hk_.2.1))) (below_size (by repeat (first | (with_reducible first | exact HB.out | apply below_alloc | apply pw_below_drewN | apply below_drew1) | exact HB.out)))); have n1_ := Aside0.mk (below_step (by repeat (first | (with_reducible first | exact HB.out | apply below_alloc | apply pw_below_drewN | apply below_drew1) | exact HB.out)) hb); clear HB; have HO269 := n0_; have HB := n1_; clear n0_ n1_; (try clear hb); (try clear hb2); (try clear hk); (try clear hi); (try clear ho0); obtain ⟨Ao7, co7, eo7⟩ := Kd.N_slice HO269.out; subst eo7) | ((with_reducible refine gate_callee (f := 26) rfl ?_); refine goesL_ (some 15) rfl rfl Try.func26 (by kernel_rfl) rfl #[.slice Ao7 t267.length co7] rfl (by (try simp only [List.map_toArray, List.map_cons, List.map_nil]); first | done | rfl | (simp only [List.length_drop, List.length_take]; rfl)) ?_; (with_reducible refine (graph_doms.calls k _ _ t267 t270 _ ?side1 ?side2 A3.out).mono ?_); (case side1 => repeat (first | exact (Kd.N_reads' HO269.out).2.2 | (with_reducible refine Kd.C_alloc ?_ _) | (with_reducible refine Kd.C_drewN ?_ _) | (with_reducible refine Kd.C_drew ?_))); (case side2 => exact (Kd.N_reads' HO269.out).2.1); rintro e w8 ⟨v271, rfl, ho0, hb⟩; refine ⟨_, rfl, ?_⟩; have n0_ := Aside0.mk (Kd.N_elder' (by (with_reducible repeat (first | apply Kd.N_alloc | apply Kd.N_drewN | apply Kd.N_drew)); exact HO269.out) (Kd.R_base ho0) hb); have n1_ := Aside0.mk (Kd.R_lower (Kd.R_newM (M := fun k_ => (w.heap.size ≤ k_)) ho0 (below_size (by repeat (first | (with_reducible first | exact HB.out | apply below_alloc | apply pw_below_drewN | apply below_drew1) | exact HB.out))) (fun k_ h_ => h_)) (below_size (by repeat (first | (with_reducible first | exact HB.out | apply below_alloc | apply pw_below_drewN | apply below_drew1) | exact HB.out)))); have n2_ := Aside0.mk (below_step (by repeat (first | (with_reducible first | exact HB.out | apply below_alloc | apply pw_below_drewN | apply below_drew1) | exact HB.out)) hb); clear HO269; clear HB; have HO269 := n0_; have HO272 := n1_; have HB := n2_; clear n0_ n1_ n2_; (try clear hb); (try clear hb2); (try clear hk); (try clear hi); (try clear ho0)) | ((with_reducible refine gate_callee (f := 30) rfl ?_); refine goesL_ (some 17) rfl rfl Try.func30 (by kernel_rfl) rfl #[.slice Ao7 t267.length co7, .int .i64 0, .int .i64 (-1)] rfl (by (try simp only [List.map_toArray, List.map_cons, List.map_nil]); first | done | rfl | (simp only [List.length_drop, List.length_take]; rfl)) ?_; (with_reducible refine (graph_reach.calls k _ _ t267 0 (-1) t273 _ ?side1 ?side2 A4.out).mono ?_); (case side1 => repeat (first | exact (Kd.N_reads' HO269.out).2.2 | (with_reducible refine Kd.C_alloc ?_ _) | (with_reducible refine Kd.C_drewN ?_ _) | (with_reducible refine Kd.C_drew ?_))); (case side2 => exact (Kd.N_reads' HO269.out).2.1); rintro e w9 ⟨v274, rfl, ho0, hb⟩; refine ⟨_, rfl, ?_⟩; have n0_ := Aside0.mk (Kd.N_elder' (by (with_reducible repeat (first | apply Kd.N_alloc | apply Kd.N_drewN | apply Kd.N_drew)); exact HO269.out) (Kd.R_base ho0) hb); have n1_ := Aside0.mk (Kd.R_below (by (with_reducible repeat (first | apply Kd.R_alloc | apply Kd.R_drewN | apply Kd.R_drew)); exact HO272.out) hb); have n2_ := Aside0.mk (Kd.R_lower (Kd.R_newM (M := fun k_ => (w.heap.size ≤ k_)) ho0 (below_size (by repeat (first | (with_reducible first | exact HB.out | apply below_alloc | apply pw_below_drewN | apply below_drew1) | exact HB.out))) (fun k_ h_ => h_)) (below_size (by repeat (first | (with_reducible first | exact HB.out | apply below_alloc | apply pw_below_drewN | apply below_drew1) | exact HB.out)))); have n3_ := Aside0.mk (below_step (by repeat (first | (with_reducible first | exact HB.out | apply below_alloc | apply pw_below_drewN | apply below_drew1) | exact HB.out)) hb); clear HO269; clear HO272; clear HB; have HO269 := n0_; have HO272 := n1_; have HO275 := n2_; have HB := n3_; clear n0_ n1_ n2_ n3_; (try clear hb); (try clear hb2); (try clear hk); (try clear hi); (try clear ho0)) | ((with_reducible refine gate_callee (f := 31) rfl ?_); refine goesL_ (some 19) rfl rfl Try.func31 (by kernel_rfl) rfl #[.slice Ao7 t267.length co7] rfl (by (try simp only [List.map_toArray, List.map_cons, List.map_nil]); first | done | rfl | (simp only [List.length_drop, List.length_take]; rfl)) ?_; (with_reducible refine (graph_preds.calls k _ _ t267 t276 _ ?side1 ?side2 A5.out).mono ?_); (case side1 => repeat (first | exact (Kd.N_reads' HO269.out).2.2 | (with_reducible refine Kd.C_alloc ?_ _) | (with_reducible refine Kd.C_drewN ?_ _) | (with_reducible refine Kd.C_drew ?_))); (case side2 => exact (Kd.N_reads' HO269.out).2.1); rintro e w10 ⟨v277, rfl, ho0, hb⟩; refine ⟨_, rfl, ?_⟩; have n0_ := Aside0.mk (Kd.N_elder' (by (with_reducible repeat (first | apply Kd.N_alloc | apply Kd.N_drewN | apply Kd.N_drew)); exact HO269.out) (by first | exact Kd.N_base ho0 | exact Kd.N_base (Kd.S_N ho0)) hb); have n1_ := Aside0.mk (Kd.R_below (by (with_reducible repeat (first | apply Kd.R_alloc | apply Kd.R_drewN | apply Kd.R_drew)); exact HO272.out) hb); have n2_ := Aside0.mk (Kd.R_below (by (with_reducible repeat (first | apply Kd.R_alloc | apply Kd.R_drewN | apply Kd.R_drew)); exact HO275.out) hb); have n3_ := Aside0.mk (Kd.N_lower (Kd.N_mono (ok' := fun k_ => (w.heap.size ≤ k_) ∧ some k_ ≠ (.slice Ao7 t267.length co7 : Value).ownBlock ∧ some k_ ≠ (v271 : Value).ownBlock ∧ some k_ ≠ (v274 : Value).ownBlock) (Kd.S_N (Kd.S_bound ho0)) (fun k_ hk_ => ⟨(Nat.le_trans (below_size (by repeat (first | (with_reducible first | exact HB.out | apply below_alloc | apply pw_below_drewN | apply below_drew1) | exact HB.out))) hk_.2.1), (Kd.fresh' (Kd.N_lt (by (with_reducible repeat (first | apply Kd.N_alloc | apply Kd.N_drewN | apply Kd.N_drew)); exact HO269.out)) k_ hk_.2.1), (Kd.fresh' (Kd.R_lt (by (with_reducible repeat (first | apply Kd.R_alloc | apply Kd.R_drewN | apply Kd.R_drew)); exact HO272.out)) k_ hk_.2.1), (Kd.fresh' (Kd.R_lt (by (with_reducible repeat (first | apply Kd.R_alloc | apply Kd.R_drewN | apply Kd.R_drew)); exact HO275.out)) k_ hk_.2.1)⟩)) (below_size (by repeat (first | (with_reducible first | exact HB.out | apply below_alloc | apply pw_below_drewN | apply below_drew1) | exact HB.out)))); have n4_ := Aside0.mk (below_step (by repeat (first | (with_reducible first | exact HB.out | apply below_alloc | apply pw_below_drewN | apply below_drew1) | exact HB.out)) hb); clear HO269; clear HO272; clear HO275; clear HB; have HO269 := n0_; have HO272 := n1_; have HO275 := n2_; have HO278 := n3_; have HB := n4_; clear n0_ n1_ n2_ n3_ n4_; (try clear hb); (try clear hb2); (try clear hk); (try clear hi); (try clear ho0)))
  go_loopg [6, 22] k (fun kq v6 v22 w' => ∃ (x6_1 : List (S37)) (x22_1 : Int), v22 = .int .i64 x22_1 ∧ Aside0 (graph_Loops.l0 kq t270 t273 t276 x6_1 (t267.length : Int) x22_1 = some r) ∧ Aside0 (kq ≤ k) ∧ Aside0 (Kd.R (Kd.int .i64) 3 w' w.heap.size (fun k_ => (w.heap.size ≤ k_)) v271 t270) ∧ Aside0 (Kd.R Kd.bool 4 w' w.heap.size (fun k_ => (w.heap.size ≤ k_)) v274 t273) ∧ Aside0 (Kd.N (Kd.slice 3 (Kd.int .i64)) 25 w' w.heap.size (fun k_ => (w.heap.size ≤ k_) ∧ some k_ ≠ (v271 : Value).ownBlock ∧ some k_ ≠ (v274 : Value).ownBlock ∧ some k_ ≠ (v6 : Value).ownBlock) v277 t276) ∧ Aside0 (Kd.N k37 37 w' w.heap.size (fun k_ => (w.heap.size ≤ k_) ∧ some k_ ≠ (v271 : Value).ownBlock ∧ some k_ ≠ (v274 : Value).ownBlock ∧ some k_ ≠ (v277 : Value).ownBlock) v6 x6_1) ∧ Aside0 (Below w.heap.size w w'))
  case atStart => exact ⟨(([] : List (S37))), (0), (by first | rfl | (simp; done) | (simp [*]; done)), H', ⟨Nat.le_refl _⟩, ⟨by (with_reducible repeat (first | apply Kd.R_alloc | apply Kd.R_drewN | apply Kd.R_drew)); exact Kd.R_mono HO272.out (fun _ hk => hk.1)⟩, ⟨by (with_reducible repeat (first | apply Kd.R_alloc | apply Kd.R_drewN | apply Kd.R_drew)); exact Kd.R_mono HO275.out (fun _ hk => hk.1)⟩, ⟨by (with_reducible repeat (first | apply Kd.N_alloc | apply Kd.N_drewN | apply Kd.N_drew)); exact Kd.N_mono HO278.out (fun _ hk => ⟨hk.1, ⟨hk.2.2.1, ⟨hk.2.2.2, (by simp [Value.ownBlock])⟩⟩⟩)⟩, ⟨by first | exact Kd.S_nil _ _ _ _ _ | exact Kd.N_nil _ _ _ _ _ | exact Kd.V_nil _ _ _ _ _ | exact Kd.Q_nil _ _ _ _ _ | exact Kd.R_nil _ _ _ _ _⟩, ⟨by repeat (first | (with_reducible first | exact HB.out | apply below_alloc | apply pw_below_drewN | apply below_drew1) | exact HB.out)⟩⟩
  case round =>
    clear H'
    try clear c1
    try clear c2
    try clear p2
    try clear c3
    obtain ⟨x6_1, x22_1, rfl, HA, HK1, HO_3, HO_4, HO_5, HO_6, HB⟩ := hrel
    cases gk with
    | zero => exact absurd HA.out (by simp [graph_Loops.l0])
    | succ k1 =>
      have H := HA.out
      clear HA
      simp only [graph_Loops.l0] at H
      by_cases c11 : x22_1 < (t267.length : Int)
      · rw [if_pos c11] at H
        have c11b0 : decide (x22_1 < (t267.length : Int)) = true := decide_eq_true c11
        clear c11
        by_cases c12 : 0 ≤ x22_1
        · rw [if_pos c12] at H
          have c12b0 : decide (0 ≤ x22_1) = true := decide_eq_true c12
          clear c12
          by_cases c13 : x22_1 < (t276.length : Int)
          · rw [if_pos c13] at H
            have c13b0 : decide (x22_1 < (t276.length : Int)) = true := decide_eq_true c13
            clear c13
            have H' := Aside0.mk H
            clear H
            obtain ⟨Ao14, co14, eo14⟩ := Kd.N_slice HO_5.out
            subst eo14
            have p279 : 0 ≤ (x22_1 : Int) := of_decide_eq_true (by first | (with_reducible assumption) | assumption)
            have q279 : x22_1 < (t276.length : Int) := of_decide_eq_true (by first | (with_reducible assumption) | assumption)
            obtain ⟨ad279, A279_0, c279_0, e279, hx279_0, hl279_0, hi279_0⟩ := at_L1 (Kd.N_reads' HO_5.out).2.2 x22_1 p279 q279
            cases e279
            obtain ⟨ce279, hce279, hMe279, hcc279⟩ := Kd.N_get HO_5.out [] x22_1 p279 (by first | exact q279 | exact of_decide_eq_true (by first | (with_reducible assumption) | assumption) | (have e_ := (Kd.N_reads' HO_5.out).1; omega))
            obtain ⟨ua279_0, uc279_0, rfl, ul279_0, ge279_0⟩ := Kd.FK_slice_open hMe279
            have hv279_0 := hcc279 0 _ rfl
            rw [Nat.add_zero, show ((Kd.slice 3 (Kd.int .i64))).sz = 1 from rfl, Nat.mul_one] at hv279_0
            replace hv279_0 := Option.some.inj (hv279_0.symm.trans hx279_0)
            injection hv279_0 with hva_ hvn_ hvc_
            rw [hva_] at ge279_0
            rw [hvc_] at ul279_0
            have HL279_0 := Aside0.mk (show Kd.V (Kd.int .i64) 3 _ w.heap.size _ _ (rd_L1 t276 x22_1) from Kd.V_mk ul279_0 ge279_0)
            clear hva_ hvn_ hvc_ ge279_0 ul279_0
            clear hcc279 hce279
            have HR279_0 := Aside0.mk hi279_0
            obtain ⟨cs279, -, hK279, hcs279⟩ := Kd.V_get (Kd.N_V (base' := w.heap.size) HO_5.out) [] x22_1 (by first | (with_reducible assumption) | omega | exact of_decide_eq_true (by assumption)) (by first | (with_reducible assumption) | omega | exact of_decide_eq_true (by assumption))
            obtain ⟨AF279, cF279, rfl, -, hF279⟩ := Kd.FK_slice_open hK279
            have hq279 := hcs279 0 _ rfl
            rw [show (Kd.slice 3 (Kd.int .i64)).sz = 1 from rfl, Nat.mul_one, Nat.add_zero] at hq279
            have he279 : A279_0 = AF279 := by injection (Option.some.inj (hx279_0.symm.trans hq279))
            rw [← he279] at hF279
            have HF_9 := Aside0.mk (show Kd.F (Kd.int .i64) wr _ A279_0 (rd_L1 t276 x22_1).length (rd_L1 t276 x22_1) from hF279)
            clear he279 hq279 hcs279 hK279 hF279
            have HC279_0 := Aside0.mk hl279_0
            clear hi279_0 hl279_0
            replace p279 := eq_true p279
            replace q279 := eq_true q279
            go_wp2
            go_loopg [8, 30] k1 (fun kq v8 v30 w' => ∃ (x8_2 : List Int) (x30_2 : Int), v30 = .int .i64 x30_2 ∧ Aside0 (graph_Loops.l1 kq t270 t273 t276 x6_1 x22_1 x8_2 (t267.length : Int) x22_1 (rd_L1 t276 x22_1) ((rd_L1 t276 x22_1).length : Int) x30_2 = some r) ∧ Aside0 (kq ≤ k1) ∧ Aside0 (Kd.R (Kd.int .i64) 3 w' w.heap.size (fun k_ => (w.heap.size ≤ k_) ∧ some k_ ≠ (v8 : Value).ownBlock) v271 t270) ∧ Aside0 (Kd.R Kd.bool 4 w' w.heap.size (fun k_ => (w.heap.size ≤ k_)) v274 t273) ∧ Aside0 (Kd.N (Kd.slice 3 (Kd.int .i64)) 25 w' w.heap.size (fun k_ => (w.heap.size ≤ k_) ∧ some k_ ≠ (v271 : Value).ownBlock ∧ some k_ ≠ (v274 : Value).ownBlock ∧ some k_ ≠ (u6 : Value).ownBlock ∧ some k_ ≠ (v8 : Value).ownBlock) (.slice (some ad279) t276.length co14) t276) ∧ Aside0 (Kd.N k37 37 w' w.heap.size (fun k_ => (w.heap.size ≤ k_) ∧ some k_ ≠ (v271 : Value).ownBlock ∧ some k_ ≠ (v274 : Value).ownBlock ∧ some k_ ≠ ((.slice (some ad279) t276.length co14) : Value).ownBlock ∧ some k_ ≠ (v8 : Value).ownBlock) u6 x6_1) ∧ Aside0 (Kd.R (Kd.int .i64) 3 w' w.heap.size (fun k_ => (w.heap.size ≤ k_) ∧ some k_ ≠ (v271 : Value).ownBlock) v8 x8_2) ∧ Aside0 (Kd.F (Kd.int .i64) w' (fun k_ => (w.heap.size ≤ k_) ∧ some k_ ≠ (v8 : Value).ownBlock) A279_0 (rd_L1 t276 x22_1).length (rd_L1 t276 x22_1)) ∧ Aside0 (Below w.heap.size w w'))
            case atStart => exact ⟨(([] : List Int)), (0), (by first | rfl | (simp; done) | (simp [*]; done)), H', ⟨Nat.le_refl _⟩, ⟨by (with_reducible repeat (first | apply Kd.R_alloc | apply Kd.R_drewN | apply Kd.R_drew)); exact Kd.R_mono HO_3.out (fun _ hk => ⟨hk, (by simp [Value.ownBlock])⟩)⟩, ⟨by (with_reducible repeat (first | apply Kd.R_alloc | apply Kd.R_drewN | apply Kd.R_drew)); exact HO_4.out⟩, ⟨by (with_reducible repeat (first | apply Kd.N_alloc | apply Kd.N_drewN | apply Kd.N_drew)); exact Kd.N_mono HO_5.out (fun _ hk => ⟨hk.1, ⟨hk.2.1, ⟨hk.2.2.1, ⟨hk.2.2.2, (by simp [Value.ownBlock])⟩⟩⟩⟩)⟩, ⟨by (with_reducible repeat (first | apply Kd.N_alloc | apply Kd.N_drewN | apply Kd.N_drew)); exact Kd.N_mono HO_6.out (fun _ hk => ⟨hk.1, ⟨hk.2.1, ⟨hk.2.2.1, ⟨hk.2.2.2, (by simp [Value.ownBlock])⟩⟩⟩⟩)⟩, ⟨by first | exact Kd.R_nil _ _ _ _ _ | exact Kd.N_nil _ _ _ _ _ | exact Kd.V_nil _ _ _ _ _ | exact Kd.Q_nil _ _ _ _ _ | exact Kd.S_nil _ _ _ _ _⟩, ⟨Kd.F_mono HF_9.out (fun _ hk => ⟨hk.1, (by simp [Value.ownBlock])⟩)⟩, ⟨by repeat (first | (with_reducible first | exact HB.out | apply below_alloc | apply pw_below_drewN | apply below_drew1) | exact HB.out)⟩⟩
            case round =>
              clear H'
              try clear c1
              try clear c2
              try clear p2
              try clear q2
              try clear hx2
              try clear c3
              try clear c11
              try clear c11b0
              try clear c12
              try clear c12b0
              try clear c13
              try clear c13b0
              try clear hx279_0
              try clear p2
              try clear p279
              try clear q279
              clear HF_9
              obtain ⟨x8_2, x30_2, rfl, HA, HK2, HO_3, HO_4, HO_5, HO_6, HO_8, HF_9, HB⟩ := hrel
              have HR279_0 := Aside0.mk (Kd.F_now HF_9.out)
              cases gk with
              | zero => exact absurd HA.out (by simp [graph_Loops.l1])
              | succ k2 =>
                have H := HA.out
                clear HA
                simp only [graph_Loops.l1] at H
                by_cases c15 : x30_2 < ((rd_L1 t276 x22_1).length : Int)
                · rw [if_pos c15] at H
                  have c15b0 : decide (x30_2 < ((rd_L1 t276 x22_1).length : Int)) = true := decide_eq_true c15
                  clear c15
                  by_cases c16 : 0 ≤ x30_2
                  · rw [if_pos c16] at H
                    have c16b0 : decide (0 ≤ x30_2) = true := decide_eq_true c16
                    clear c16
                    by_cases c17 : x30_2 < ((rd_L1 t276 x22_1).length : Int)
                    · rw [if_pos c17] at H
                      have c17b0 : decide (x30_2 < ((rd_L1 t276 x22_1).length : Int)) = true := decide_eq_true c17
                      clear c17
                      by_cases c18 : 0 ≤ (rd (rd_L1 t276 x22_1) x30_2)
                      · rw [if_pos c18] at H
                        have c18b0 : decide (0 ≤ (rd (rd_L1 t276 x22_1) x30_2)) = true := decide_eq_true c18
                        clear c18
                        by_cases c19 : (rd (rd_L1 t276 x22_1) x30_2) < (t273.length : Int)
                        · rw [if_pos c19] at H
                          have c19b0 : decide ((rd (rd_L1 t276 x22_1) x30_2) < (t273.length : Int)) = true := decide_eq_true c19
                          clear c19
                          obtain ⟨bq20, hbq20⟩ : ∃ b_ : Bool, b_ = (rdOf false t273 (rd (rd_L1 t276 x22_1) x30_2)) := ⟨_, rfl⟩
                          replace H : (if bq20 = true then (if 0 ≤ x22_1 then (if x22_1 < (t273.length : Int) then (if rdOf false t273 x22_1 = true then ((graph_Dominates.f k2 t270 x22_1 (rd (rd_L1 t276 x22_1) x30_2)).bind fun t283 => (if t283 = true then (if x8_2.length < 17592186044416 then (graph_Loops.l1 k2 t270 t273 t276 x6_1 x22_1 (x8_2 ++ [rd (rd_L1 t276 x22_1) x30_2]) (t267.length : Int) x22_1 (rd_L1 t276 x22_1) ((rd_L1 t276 x22_1).length : Int) (wrap64 (x30_2 + 1))) else (none)) else (graph_Loops.l1 k2 t270 t273 t276 x6_1 x22_1 x8_2 (t267.length : Int) x22_1 (rd_L1 t276 x22_1) ((rd_L1 t276 x22_1).length : Int) (wrap64 (x30_2 + 1))))) else (graph_Loops.l1 k2 t270 t273 t276 x6_1 x22_1 x8_2 (t267.length : Int) x22_1 (rd_L1 t276 x22_1) ((rd_L1 t276 x22_1).length : Int) (wrap64 (x30_2 + 1)))) else (none)) else (none)) else (graph_Loops.l1 k2 t270 t273 t276 x6_1 x22_1 x8_2 (t267.length : Int) x22_1 (rd_L1 t276 x22_1) ((rd_L1 t276 x22_1).length : Int) (wrap64 (x30_2 + 1)))) = some r := by rw [← hbq20] at H; exact H
                          have Nbq20 := Aside0.mk hbq20
                          clear hbq20
                          by_cases c21 : bq20 = true
                          · subst c21
                            have H1 : (if 0 ≤ x22_1 then (if x22_1 < (t273.length : Int) then (if rdOf false t273 x22_1 = true then ((graph_Dominates.f k2 t270 x22_1 (rd (rd_L1 t276 x22_1) x30_2)).bind fun t283 => (if t283 = true then (if x8_2.length < 17592186044416 then (graph_Loops.l1 k2 t270 t273 t276 x6_1 x22_1 (x8_2 ++ [rd (rd_L1 t276 x22_1) x30_2]) (t267.length : Int) x22_1 (rd_L1 t276 x22_1) ((rd_L1 t276 x22_1).length : Int) (wrap64 (x30_2 + 1))) else (none)) else (graph_Loops.l1 k2 t270 t273 t276 x6_1 x22_1 x8_2 (t267.length : Int) x22_1 (rd_L1 t276 x22_1) ((rd_L1 t276 x22_1).length : Int) (wrap64 (x30_2 + 1))))) else (graph_Loops.l1 k2 t270 t273 t276 x6_1 x22_1 x8_2 (t267.length : Int) x22_1 (rd_L1 t276 x22_1) ((rd_L1 t276 x22_1).length : Int) (wrap64 (x30_2 + 1)))) else (none)) else (none)) = some r := by rw [if_pos rfl] at H; exact H
                            clear H
                            have H := H1
                            clear H1
                            by_cases c22 : 0 ≤ x22_1
                            · rw [if_pos c22] at H
                              have c22b0 : decide (0 ≤ x22_1) = true := decide_eq_true c22
                              clear c22
                              by_cases c23 : x22_1 < (t273.length : Int)
                              · rw [if_pos c23] at H
                                have c23b0 : decide (x22_1 < (t273.length : Int)) = true := decide_eq_true c23
                                clear c23
                                obtain ⟨bq24, hbq24⟩ : ∃ b_ : Bool, b_ = (rdOf false t273 x22_1) := ⟨_, rfl⟩
                                replace H : (if bq24 = true then ((graph_Dominates.f k2 t270 x22_1 (rd (rd_L1 t276 x22_1) x30_2)).bind fun t283 => (if t283 = true then (if x8_2.length < 17592186044416 then (graph_Loops.l1 k2 t270 t273 t276 x6_1 x22_1 (x8_2 ++ [rd (rd_L1 t276 x22_1) x30_2]) (t267.length : Int) x22_1 (rd_L1 t276 x22_1) ((rd_L1 t276 x22_1).length : Int) (wrap64 (x30_2 + 1))) else (none)) else (graph_Loops.l1 k2 t270 t273 t276 x6_1 x22_1 x8_2 (t267.length : Int) x22_1 (rd_L1 t276 x22_1) ((rd_L1 t276 x22_1).length : Int) (wrap64 (x30_2 + 1))))) else (graph_Loops.l1 k2 t270 t273 t276 x6_1 x22_1 x8_2 (t267.length : Int) x22_1 (rd_L1 t276 x22_1) ((rd_L1 t276 x22_1).length : Int) (wrap64 (x30_2 + 1)))) = some r := by rw [← hbq24] at H; exact H
                                have Nbq24 := Aside0.mk hbq24
                                clear hbq24
                                by_cases c25 : bq24 = true
                                · subst c25
                                  have H1 : ((graph_Dominates.f k2 t270 x22_1 (rd (rd_L1 t276 x22_1) x30_2)).bind fun t283 => (if t283 = true then (if x8_2.length < 17592186044416 then (graph_Loops.l1 k2 t270 t273 t276 x6_1 x22_1 (x8_2 ++ [rd (rd_L1 t276 x22_1) x30_2]) (t267.length : Int) x22_1 (rd_L1 t276 x22_1) ((rd_L1 t276 x22_1).length : Int) (wrap64 (x30_2 + 1))) else (none)) else (graph_Loops.l1 k2 t270 t273 t276 x6_1 x22_1 x8_2 (t267.length : Int) x22_1 (rd_L1 t276 x22_1) ((rd_L1 t276 x22_1).length : Int) (wrap64 (x30_2 + 1))))) = some r := by rw [if_pos rfl] at H; exact H
                                  clear H
                                  have H := H1
                                  clear H1
                                  replace H := Option.bind_eq_some_iff.mp H
                                  obtain ⟨t283, A260, H⟩ := H
                                  replace H : (if t283 = true then (if x8_2.length < 17592186044416 then (graph_Loops.l1 k2 t270 t273 t276 x6_1 x22_1 (x8_2 ++ [rd (rd_L1 t276 x22_1) x30_2]) (t267.length : Int) x22_1 (rd_L1 t276 x22_1) ((rd_L1 t276 x22_1).length : Int) (wrap64 (x30_2 + 1))) else (none)) else (graph_Loops.l1 k2 t270 t273 t276 x6_1 x22_1 x8_2 (t267.length : Int) x22_1 (rd_L1 t276 x22_1) ((rd_L1 t276 x22_1).length : Int) (wrap64 (x30_2 + 1)))) = some r := H
                                  have A26 := Aside0.mk A260
                                  clear A260
                                  by_cases c27 : t283 = true
                                  · subst c27
                                    have H1 : (if x8_2.length < 17592186044416 then (graph_Loops.l1 k2 t270 t273 t276 x6_1 x22_1 (x8_2 ++ [rd (rd_L1 t276 x22_1) x30_2]) (t267.length : Int) x22_1 (rd_L1 t276 x22_1) ((rd_L1 t276 x22_1).length : Int) (wrap64 (x30_2 + 1))) else (none)) = some r := by rw [if_pos rfl] at H; exact H
                                    clear H
                                    have H := H1
                                    clear H1
                                    by_cases c28 : x8_2.length < 17592186044416
                                    · rw [if_pos c28] at H
                                      have LMc28 := Aside0.mk c28
                                      clear c28
                                      obtain ⟨y284, hy284⟩ : ∃ y_ : List Int, y_ = (x8_2 ++ [rd (rd_L1 t276 x22_1) x30_2]) := ⟨_, rfl⟩
                                      replace H : (graph_Loops.l1 k2 t270 t273 t276 x6_1 x22_1 y284 (t267.length : Int) x22_1 (rd_L1 t276 x22_1) ((rd_L1 t276 x22_1).length : Int) (wrap64 (x30_2 + 1))) = some r := by first | (rw [hy284]; with_reducible exact H) | (have H2_ := (Option.bind_some _ _).symm.trans H; rw [hy284]; with_reducible exact H2_) | (have H2_ := (Option.bind_some _ _).symm.trans H; with_reducible exact H2_) | with_reducible exact H | (rw [hy284]; exact H) | exact H
                                      have Ny284 := Aside0.mk hy284
                                      clear hy284
                                      have H' := Aside0.mk H
                                      clear H
                                      have p280 : 0 ≤ (x30_2 : Int) := of_decide_eq_true (by first | (with_reducible assumption) | assumption)
                                      have q280 : x30_2 < ((rd_L1 t276 x22_1).length : Int) := of_decide_eq_true (by first | (with_reducible assumption) | assumption)
                                      obtain ⟨ad280, e280, hx280_0⟩ := Kd.at_int HR279_0.out x30_2 p280 q280
                                      cases e280
                                      replace p280 := eq_true p280
                                      replace q280 := eq_true q280
                                      obtain ⟨Ao29, co29, eo29⟩ := Kd.R_slice HO_4.out
                                      subst eo29
                                      have p281 : 0 ≤ ((rd (rd_L1 t276 x22_1) x30_2) : Int) := of_decide_eq_true (by first | (with_reducible assumption) | assumption)
                                      have q281 : (rd (rd_L1 t276 x22_1) x30_2) < (t273.length : Int) := of_decide_eq_true (by first | (with_reducible assumption) | assumption)
                                      obtain ⟨ad281, e281, hx281_0⟩ := Kd.at_bool (Kd.R_reads' HO_4.out).2.2 (rd (rd_L1 t276 x22_1) x30_2) p281 q281
                                      (try rw [← Nbq20.out] at hx281_0)
                                      (try rw [← Nbq24.out] at hx281_0)
                                      cases e281
                                      replace p281 := eq_true p281
                                      replace q281 := eq_true q281
                                      have p282 : 0 ≤ (x22_1 : Int) := of_decide_eq_true (by first | (with_reducible assumption) | assumption)
                                      have q282 : x22_1 < (t273.length : Int) := of_decide_eq_true (by first | (with_reducible assumption) | assumption)
                                      obtain ⟨ad282, e282, hx282_0⟩ := Kd.at_bool (Kd.R_reads' HO_4.out).2.2 x22_1 p282 q282
                                      (try rw [← Nbq20.out] at hx282_0)
                                      (try rw [← Nbq24.out] at hx282_0)
                                      obtain rfl : ad281 = ad282 := (by injection e282)
                                      replace p282 := eq_true p282
                                      replace q282 := eq_true q282
                                      obtain ⟨Ao30, co30, eo30⟩ := Kd.R_slice HO_3.out
                                      subst eo30
                                      go_wp2_with (first | (go_at_call 16; (with_reducible refine (graph_Dominates.calls k2 _ _ t270 x22_1 (rd (rd_L1 t276 x22_1) x30_2) true _ ?side1 ?side2 A26.out).mono ?_); (case side1 => repeat (first | exact (Kd.R_reads' HO_3.out).2.2 | (with_reducible refine Kd.C_alloc ?_ _) | (with_reducible refine Kd.C_drewN ?_ _) | (with_reducible refine Kd.C_drew ?_))); (case side2 => exact (Kd.R_reads' HO_3.out).2.1); rintro e w' ⟨rfl, ⟨nd, rfl⟩⟩) | ((with_reducible refine gate_builtin (b := .append) (xs := #[.tmp 50, .tmp 52]) rfl ?_); at_builtin; refine Kd.R_append (Kd.int .i64) (w0 := w) w.heap.size rfl (.tmp 50) (.tmp 52) 25 3 (.int .i64 0) 8 rfl Try.underlying25 info3 rfl (by decide) (by omega) u8 x8_2 (rd (rd_L1 t276 x22_1) x30_2) [.int .i64 (rd (rd_L1 t276 x22_1) x30_2)] (fun k_ => (w.heap.size ≤ k_) ∧ some k_ ≠ (.slice Ao30 t270.length co30 : Value).ownBlock) (fun _ => False) rfl rfl ?aP (fun _ hk => hk.elim) ?aF ?aO ?aB ?aS ?aL ?_; (case aP => exact rfl); (case aB => exact (by repeat (first | (with_reducible first | exact HB.out | apply below_alloc | apply pw_below_drewN | apply below_drew1) | exact HB.out))); (case aF => exact (fun k_ hk => ⟨(Nat.le_trans (below_size (by repeat (first | (with_reducible first | exact HB.out | apply below_alloc | apply pw_below_drewN | apply below_drew1) | exact HB.out))) hk), Kd.fresh' (Kd.R_lt (by (with_reducible repeat (first | apply Kd.R_alloc | apply Kd.R_drewN | apply Kd.R_drew)); exact HO_3.out)) k_ hk⟩)); (case aO => exact (by (with_reducible repeat (first | apply Kd.R_alloc | apply Kd.R_drewN | apply Kd.R_drew)); exact HO_8.out)); (case aS => exact (below_size (by repeat (first | (with_reducible first | exact HB.out | apply below_alloc | apply pw_below_drewN | apply below_drew1) | exact HB.out)))); (case aL => have := LMc28.out; omega); intro v285 w31 ho hb hg hat; have nF_ := Aside0.mk (Kd.F_after (ok := fun k_ => (w.heap.size ≤ k_)) (by (with_reducible repeat (first | apply Kd.F_alloc | apply Kd.F_drewN | apply Kd.F_drew)); exact HF_9.out) hg hat); clear HF_9; have HF_9 := nF_; clear nF_; rw [← Ny284.out] at ho; have n0_ := Aside0.mk (Kd.R_after (ok := (fun k_ => (w.heap.size ≤ k_))) (by (with_reducible repeat (first | apply Kd.R_alloc | apply Kd.R_drewN | apply Kd.R_drew)); exact HO_3.out) hg hat); have n1_ := Aside0.mk (Kd.R_over' (by (with_reducible repeat (first | apply Kd.R_alloc | apply Kd.R_drewN | apply Kd.R_drew)); exact HO_4.out) (Kd.R_typed (by (with_reducible repeat (first | apply Kd.R_alloc | apply Kd.R_drewN | apply Kd.R_drew)); exact HO_8.out)) (by decide) hg); have n2_ := Aside0.mk (Kd.N_afterv (ok := (fun k_ => (w.heap.size ≤ k_) ∧ some k_ ≠ (.slice Ao30 t270.length co30 : Value).ownBlock ∧ some k_ ≠ (.slice (some ad281) t273.length co29 : Value).ownBlock ∧ some k_ ≠ (u6 : Value).ownBlock)) (by (with_reducible repeat (first | apply Kd.N_alloc | apply Kd.N_drewN | apply Kd.N_drew)); exact Kd.N_mono HO_5.out (fun _ hk => ⟨⟨hk.1, ⟨hk.2.1, ⟨hk.2.2.1, hk.2.2.2.1⟩⟩⟩, hk.2.2.2.2⟩)) hg hat); have n3_ := Aside0.mk (Kd.N_afterv (ok := (fun k_ => (w.heap.size ≤ k_) ∧ some k_ ≠ (.slice Ao30 t270.length co30 : Value).ownBlock ∧ some k_ ≠ (.slice (some ad281) t273.length co29 : Value).ownBlock ∧ some k_ ≠ (.slice (some ad279) t276.length co14 : Value).ownBlock)) (by (with_reducible repeat (first | apply Kd.N_alloc | apply Kd.N_drewN | apply Kd.N_drew)); exact Kd.N_mono HO_6.out (fun _ hk => ⟨⟨hk.1, ⟨hk.2.1, ⟨hk.2.2.1, hk.2.2.2.1⟩⟩⟩, hk.2.2.2.2⟩)) hg hat); have n4_ := Aside0.mk (hb); have n5_ := Aside0.mk (ho); clear HO_3; clear HO_4; clear HO_5; clear HO_6; clear HB; clear HO_8; have HO_3 := n0_; have HO_4 := n1_; have HO_5 := n2_; have HO_6 := n3_; have HB := n4_; have HO286 := n5_; clear n0_ n1_ n2_ n3_ n4_ n5_; clear ho hb hg hat))
                                      go_roundg k2
                                      case measure => have := HK1.out; have := HK2.out; omega
                                      case rel => exact ⟨(y284), (wrap64 (x30_2 + 1)), (by first | rfl | (simp; done) | (simp [*]; done)), H', ⟨by have := HK1.out; have := HK2.out; omega⟩, ⟨by (with_reducible repeat (first | apply Kd.R_alloc | apply Kd.R_drewN | apply Kd.R_drew)); exact HO_3.out⟩, ⟨by (with_reducible repeat (first | apply Kd.R_alloc | apply Kd.R_drewN | apply Kd.R_drew)); exact HO_4.out⟩, ⟨by (with_reducible repeat (first | apply Kd.N_alloc | apply Kd.N_drewN | apply Kd.N_drew)); exact Kd.N_mono HO_5.out (fun _ hk => ⟨hk.1.1, ⟨hk.1.2.1, ⟨hk.1.2.2.1, ⟨hk.1.2.2.2, hk.2⟩⟩⟩⟩)⟩, ⟨by (with_reducible repeat (first | apply Kd.N_alloc | apply Kd.N_drewN | apply Kd.N_drew)); exact Kd.N_mono HO_6.out (fun _ hk => ⟨hk.1.1, ⟨hk.1.2.1, ⟨hk.1.2.2.1, ⟨hk.1.2.2.2, hk.2⟩⟩⟩⟩)⟩, ⟨by (with_reducible repeat (first | apply Kd.R_alloc | apply Kd.R_drewN | apply Kd.R_drew)); exact HO286.out⟩, ⟨by (with_reducible repeat (first | apply Kd.F_alloc | apply Kd.F_drewN | apply Kd.F_drew)); exact HF_9.out⟩, ⟨by repeat (first | (with_reducible first | exact HB.out | apply below_alloc | apply pw_below_drewN | apply below_drew1) | exact HB.out)⟩⟩
                                    · rw [if_neg c28] at H
                                      exact absurd H (by simp)
                                  · replace c27 := Bool.eq_false_iff.mpr c27
                                    subst c27
                                    have H1 : (graph_Loops.l1 k2 t270 t273 t276 x6_1 x22_1 x8_2 (t267.length : Int) x22_1 (rd_L1 t276 x22_1) ((rd_L1 t276 x22_1).length : Int) (wrap64 (x30_2 + 1))) = some r := by rw [if_neg (show ¬ (false = true) by decide)] at H; exact H
                                    clear H
                                    have H := H1
                                    clear H1
                                    have H' := Aside0.mk H
                                    clear H
                                    have p280 : 0 ≤ (x30_2 : Int) := of_decide_eq_true (by first | (with_reducible assumption) | assumption)
                                    have q280 : x30_2 < ((rd_L1 t276 x22_1).length : Int) := of_decide_eq_true (by first | (with_reducible assumption) | assumption)
                                    obtain ⟨ad280, e280, hx280_0⟩ := Kd.at_int HR279_0.out x30_2 p280 q280
                                    cases e280
                                    replace p280 := eq_true p280
                                    replace q280 := eq_true q280
                                    obtain ⟨Ao32, co32, eo32⟩ := Kd.R_slice HO_4.out
                                    subst eo32
                                    have p281 : 0 ≤ ((rd (rd_L1 t276 x22_1) x30_2) : Int) := of_decide_eq_true (by first | (with_reducible assumption) | assumption)
                                    have q281 : (rd (rd_L1 t276 x22_1) x30_2) < (t273.length : Int) := of_decide_eq_true (by first | (with_reducible assumption) | assumption)
                                    obtain ⟨ad281, e281, hx281_0⟩ := Kd.at_bool (Kd.R_reads' HO_4.out).2.2 (rd (rd_L1 t276 x22_1) x30_2) p281 q281
                                    (try rw [← Nbq20.out] at hx281_0)
                                    (try rw [← Nbq24.out] at hx281_0)
                                    cases e281
                                    replace p281 := eq_true p281
                                    replace q281 := eq_true q281
                                    have p282 : 0 ≤ (x22_1 : Int) := of_decide_eq_true (by first | (with_reducible assumption) | assumption)
                                    have q282 : x22_1 < (t273.length : Int) := of_decide_eq_true (by first | (with_reducible assumption) | assumption)
                                    obtain ⟨ad282, e282, hx282_0⟩ := Kd.at_bool (Kd.R_reads' HO_4.out).2.2 x22_1 p282 q282
                                    (try rw [← Nbq20.out] at hx282_0)
                                    (try rw [← Nbq24.out] at hx282_0)
                                    obtain rfl : ad281 = ad282 := (by injection e282)
                                    replace p282 := eq_true p282
                                    replace q282 := eq_true q282
                                    obtain ⟨Ao33, co33, eo33⟩ := Kd.R_slice HO_3.out
                                    subst eo33
                                    go_wp2_with (first | (go_at_call 16; (with_reducible refine (graph_Dominates.calls k2 _ _ t270 x22_1 (rd (rd_L1 t276 x22_1) x30_2) false _ ?side1 ?side2 A26.out).mono ?_); (case side1 => repeat (first | exact (Kd.R_reads' HO_3.out).2.2 | (with_reducible refine Kd.C_alloc ?_ _) | (with_reducible refine Kd.C_drewN ?_ _) | (with_reducible refine Kd.C_drew ?_))); (case side2 => exact (Kd.R_reads' HO_3.out).2.1); rintro e w' ⟨rfl, ⟨nd, rfl⟩⟩))
                                    go_roundg k2
                                    case measure => have := HK1.out; have := HK2.out; omega
                                    case rel => exact ⟨(x8_2), (wrap64 (x30_2 + 1)), (by first | rfl | (simp; done) | (simp [*]; done)), H', ⟨by have := HK1.out; have := HK2.out; omega⟩, ⟨by (with_reducible repeat (first | apply Kd.R_alloc | apply Kd.R_drewN | apply Kd.R_drew)); exact HO_3.out⟩, ⟨by (with_reducible repeat (first | apply Kd.R_alloc | apply Kd.R_drewN | apply Kd.R_drew)); exact HO_4.out⟩, ⟨by (with_reducible repeat (first | apply Kd.N_alloc | apply Kd.N_drewN | apply Kd.N_drew)); exact HO_5.out⟩, ⟨by (with_reducible repeat (first | apply Kd.N_alloc | apply Kd.N_drewN | apply Kd.N_drew)); exact HO_6.out⟩, ⟨by (with_reducible repeat (first | apply Kd.R_alloc | apply Kd.R_drewN | apply Kd.R_drew)); exact HO_8.out⟩, ⟨by (with_reducible repeat (first | apply Kd.F_alloc | apply Kd.F_drewN | apply Kd.F_drew)); exact HF_9.out⟩, ⟨by repeat (first | (with_reducible first | exact HB.out | apply below_alloc | apply pw_below_drewN | apply below_drew1) | exact HB.out)⟩⟩
                                · replace c25 := Bool.eq_false_iff.mpr c25
                                  subst c25
                                  have H1 : (graph_Loops.l1 k2 t270 t273 t276 x6_1 x22_1 x8_2 (t267.length : Int) x22_1 (rd_L1 t276 x22_1) ((rd_L1 t276 x22_1).length : Int) (wrap64 (x30_2 + 1))) = some r := by rw [if_neg (show ¬ (false = true) by decide)] at H; exact H
                                  clear H
                                  have H := H1
                                  clear H1
                                  have H' := Aside0.mk H
                                  clear H
                                  have p280 : 0 ≤ (x30_2 : Int) := of_decide_eq_true (by first | (with_reducible assumption) | assumption)
                                  have q280 : x30_2 < ((rd_L1 t276 x22_1).length : Int) := of_decide_eq_true (by first | (with_reducible assumption) | assumption)
                                  obtain ⟨ad280, e280, hx280_0⟩ := Kd.at_int HR279_0.out x30_2 p280 q280
                                  cases e280
                                  replace p280 := eq_true p280
                                  replace q280 := eq_true q280
                                  obtain ⟨Ao34, co34, eo34⟩ := Kd.R_slice HO_4.out
                                  subst eo34
                                  have p281 : 0 ≤ ((rd (rd_L1 t276 x22_1) x30_2) : Int) := of_decide_eq_true (by first | (with_reducible assumption) | assumption)
                                  have q281 : (rd (rd_L1 t276 x22_1) x30_2) < (t273.length : Int) := of_decide_eq_true (by first | (with_reducible assumption) | assumption)
                                  obtain ⟨ad281, e281, hx281_0⟩ := Kd.at_bool (Kd.R_reads' HO_4.out).2.2 (rd (rd_L1 t276 x22_1) x30_2) p281 q281
                                  (try rw [← Nbq20.out] at hx281_0)
                                  (try rw [← Nbq24.out] at hx281_0)
                                  cases e281
                                  replace p281 := eq_true p281
                                  replace q281 := eq_true q281
                                  have p282 : 0 ≤ (x22_1 : Int) := of_decide_eq_true (by first | (with_reducible assumption) | assumption)
                                  have q282 : x22_1 < (t273.length : Int) := of_decide_eq_true (by first | (with_reducible assumption) | assumption)
                                  obtain ⟨ad282, e282, hx282_0⟩ := Kd.at_bool (Kd.R_reads' HO_4.out).2.2 x22_1 p282 q282
                                  (try rw [← Nbq20.out] at hx282_0)
                                  (try rw [← Nbq24.out] at hx282_0)
                                  obtain rfl : ad281 = ad282 := (by injection e282)
                                  replace p282 := eq_true p282
                                  replace q282 := eq_true q282
                                  go_wp2
                                  go_roundg k2
                                  case measure => have := HK1.out; have := HK2.out; omega
                                  case rel => exact ⟨(x8_2), (wrap64 (x30_2 + 1)), (by first | rfl | (simp; done) | (simp [*]; done)), H', ⟨by have := HK1.out; have := HK2.out; omega⟩, ⟨by (with_reducible repeat (first | apply Kd.R_alloc | apply Kd.R_drewN | apply Kd.R_drew)); exact HO_3.out⟩, ⟨by (with_reducible repeat (first | apply Kd.R_alloc | apply Kd.R_drewN | apply Kd.R_drew)); exact HO_4.out⟩, ⟨by (with_reducible repeat (first | apply Kd.N_alloc | apply Kd.N_drewN | apply Kd.N_drew)); exact HO_5.out⟩, ⟨by (with_reducible repeat (first | apply Kd.N_alloc | apply Kd.N_drewN | apply Kd.N_drew)); exact HO_6.out⟩, ⟨by (with_reducible repeat (first | apply Kd.R_alloc | apply Kd.R_drewN | apply Kd.R_drew)); exact HO_8.out⟩, ⟨by (with_reducible repeat (first | apply Kd.F_alloc | apply Kd.F_drewN | apply Kd.F_drew)); exact HF_9.out⟩, ⟨by repeat (first | (with_reducible first | exact HB.out | apply below_alloc | apply pw_below_drewN | apply below_drew1) | exact HB.out)⟩⟩
                              · rw [if_neg c23] at H
                                exact absurd H (by simp)
                            · rw [if_neg c22] at H
                              exact absurd H (by simp)
                          · replace c21 := Bool.eq_false_iff.mpr c21
                            subst c21
                            have H1 : (graph_Loops.l1 k2 t270 t273 t276 x6_1 x22_1 x8_2 (t267.length : Int) x22_1 (rd_L1 t276 x22_1) ((rd_L1 t276 x22_1).length : Int) (wrap64 (x30_2 + 1))) = some r := by rw [if_neg (show ¬ (false = true) by decide)] at H; exact H
                            clear H
                            have H := H1
                            clear H1
                            have H' := Aside0.mk H
                            clear H
                            have p280 : 0 ≤ (x30_2 : Int) := of_decide_eq_true (by first | (with_reducible assumption) | assumption)
                            have q280 : x30_2 < ((rd_L1 t276 x22_1).length : Int) := of_decide_eq_true (by first | (with_reducible assumption) | assumption)
                            obtain ⟨ad280, e280, hx280_0⟩ := Kd.at_int HR279_0.out x30_2 p280 q280
                            cases e280
                            replace p280 := eq_true p280
                            replace q280 := eq_true q280
                            obtain ⟨Ao35, co35, eo35⟩ := Kd.R_slice HO_4.out
                            subst eo35
                            have p281 : 0 ≤ ((rd (rd_L1 t276 x22_1) x30_2) : Int) := of_decide_eq_true (by first | (with_reducible assumption) | assumption)
                            have q281 : (rd (rd_L1 t276 x22_1) x30_2) < (t273.length : Int) := of_decide_eq_true (by first | (with_reducible assumption) | assumption)
                            obtain ⟨ad281, e281, hx281_0⟩ := Kd.at_bool (Kd.R_reads' HO_4.out).2.2 (rd (rd_L1 t276 x22_1) x30_2) p281 q281
                            (try rw [← Nbq20.out] at hx281_0)
                            cases e281
                            replace p281 := eq_true p281
                            replace q281 := eq_true q281
                            go_wp2
                            go_roundg k2
                            case measure => have := HK1.out; have := HK2.out; omega
                            case rel => exact ⟨(x8_2), (wrap64 (x30_2 + 1)), (by first | rfl | (simp; done) | (simp [*]; done)), H', ⟨by have := HK1.out; have := HK2.out; omega⟩, ⟨by (with_reducible repeat (first | apply Kd.R_alloc | apply Kd.R_drewN | apply Kd.R_drew)); exact HO_3.out⟩, ⟨by (with_reducible repeat (first | apply Kd.R_alloc | apply Kd.R_drewN | apply Kd.R_drew)); exact HO_4.out⟩, ⟨by (with_reducible repeat (first | apply Kd.N_alloc | apply Kd.N_drewN | apply Kd.N_drew)); exact HO_5.out⟩, ⟨by (with_reducible repeat (first | apply Kd.N_alloc | apply Kd.N_drewN | apply Kd.N_drew)); exact HO_6.out⟩, ⟨by (with_reducible repeat (first | apply Kd.R_alloc | apply Kd.R_drewN | apply Kd.R_drew)); exact HO_8.out⟩, ⟨by (with_reducible repeat (first | apply Kd.F_alloc | apply Kd.F_drewN | apply Kd.F_drew)); exact HF_9.out⟩, ⟨by repeat (first | (with_reducible first | exact HB.out | apply below_alloc | apply pw_below_drewN | apply below_drew1) | exact HB.out)⟩⟩
                        · rw [if_neg c19] at H
                          exact absurd H (by simp)
                      · rw [if_neg c18] at H
                        exact absurd H (by simp)
                    · rw [if_neg c17] at H
                      exact absurd H (by simp)
                  · rw [if_neg c16] at H
                    exact absurd H (by simp)
                · rw [if_neg c15] at H
                  have c15b0 : decide (x30_2 < ((rd_L1 t276 x22_1).length : Int)) = false := decide_eq_false c15
                  clear c15
                  by_cases c36 : (x8_2.length : Int) > 0
                  · rw [if_pos c36] at H
                    have c36b0 : decide (0 < (x8_2.length : Int)) = true := decide_eq_true c36
                    have c36b1 : decide (0 < x8_2.length) = true := decide_eq_true (by omega)
                    clear c36
                    replace H := Option.bind_eq_some_iff.mp H
                    obtain ⟨t287, A370, H⟩ := H
                    replace H : (if x6_1.length < 3518437208883 then (graph_Loops.l0 k2 t270 t273 t276 (x6_1 ++ [(⟨x22_1, t287, (-1)⟩ : S37)]) (t267.length : Int) (wrap64 (x22_1 + 1))) else (none)) = some r := H
                    have A37 := Aside0.mk A370
                    clear A370
                    by_cases c38 : x6_1.length < 3518437208883
                    · rw [if_pos c38] at H
                      have LMc38 := Aside0.mk c38
                      clear c38
                      obtain ⟨y290, hy290⟩ : ∃ y_ : List (S37), y_ = (x6_1 ++ [(⟨x22_1, t287, (-1)⟩ : S37)]) := ⟨_, rfl⟩
                      replace H : (graph_Loops.l0 k2 t270 t273 t276 y290 (t267.length : Int) (wrap64 (x22_1 + 1))) = some r := by first | (rw [hy290]; with_reducible exact H) | (have H2_ := (Option.bind_some _ _).symm.trans H; rw [hy290]; with_reducible exact H2_) | (have H2_ := (Option.bind_some _ _).symm.trans H; with_reducible exact H2_) | with_reducible exact H | (rw [hy290]; exact H) | exact H
                      have Ny290 := Aside0.mk hy290
                      clear hy290
                      have H' := Aside0.mk H
                      clear H
                      obtain ⟨Ao39, co39, eo39⟩ := Kd.R_slice HO_8.out
                      subst eo39
                      obtain ⟨Ao40, co40, eo40⟩ := Kd.R_slice HO_4.out
                      subst eo40
                      go_wp2_with (first | ((with_reducible refine gate_callee (f := 32) rfl ?_); refine goesL_ (some 64) rfl rfl Try.func32 (by kernel_rfl) rfl #[.slice (some ad279) t276.length co14, .int .i64 x22_1, .slice Ao39 x8_2.length co39, .slice Ao40 t273.length co40] rfl (by (try simp only [List.map_toArray, List.map_cons, List.map_nil]); first | done | rfl | (simp only [List.length_drop, List.length_take]; rfl)) ?_; (with_reducible refine (graph_body.calls k2 _ _ t276 x22_1 _ _ x8_2 _ _ t273 t287 _ ?side1 ?side2 ?side3 ?side4 ?side5 ?side6 A37.out).mono ?_); (case side1 => repeat (first | exact (Kd.N_reads' HO_5.out).2.2 | (with_reducible refine Kd.C_alloc ?_ _) | (with_reducible refine Kd.C_drewN ?_ _) | (with_reducible refine Kd.C_drew ?_))); (case side2 => exact (Kd.N_reads' HO_5.out).2.1); (case side3 => repeat (first | exact (Kd.R_reads' HO_8.out).2.2 | (with_reducible refine Kd.C_alloc ?_ _) | (with_reducible refine Kd.C_drewN ?_ _) | (with_reducible refine Kd.C_drew ?_))); (case side4 => exact (Kd.R_reads' HO_8.out).2.1); (case side5 => repeat (first | exact (Kd.R_reads' HO_4.out).2.2 | (with_reducible refine Kd.C_alloc ?_ _) | (with_reducible refine Kd.C_drewN ?_ _) | (with_reducible refine Kd.C_drew ?_))); (case side6 => exact (Kd.R_reads' HO_4.out).2.1); rintro e w41 ⟨v288, rfl, ho0, hb⟩; refine ⟨_, rfl, ?_⟩; have n0_ := Aside0.mk (Kd.R_below (by (with_reducible repeat (first | apply Kd.R_alloc | apply Kd.R_drewN | apply Kd.R_drew)); exact HO_3.out) hb); have n1_ := Aside0.mk (Kd.R_below (by (with_reducible repeat (first | apply Kd.R_alloc | apply Kd.R_drewN | apply Kd.R_drew)); exact HO_4.out) hb); have n2_ := Aside0.mk (Kd.N_below (by (with_reducible repeat (first | apply Kd.N_alloc | apply Kd.N_drewN | apply Kd.N_drew)); exact HO_5.out) hb); have n3_ := Aside0.mk (Kd.N_below (by (with_reducible repeat (first | apply Kd.N_alloc | apply Kd.N_drewN | apply Kd.N_drew)); exact HO_6.out) hb); have n4_ := Aside0.mk (Kd.R_below (by (with_reducible repeat (first | apply Kd.R_alloc | apply Kd.R_drewN | apply Kd.R_drew)); exact HO_8.out) hb); have n5_ := Aside0.mk (Kd.V_lower (Kd.V_mono (ok' := fun k_ => (w.heap.size ≤ k_) ∧ some k_ ≠ (v271 : Value).ownBlock ∧ some k_ ≠ (.slice Ao40 t273.length co40 : Value).ownBlock ∧ some k_ ≠ (.slice (some ad279) t276.length co14 : Value).ownBlock ∧ some k_ ≠ (u6 : Value).ownBlock ∧ some k_ ≠ (.slice Ao39 x8_2.length co39 : Value).ownBlock) ho0 (fun k_ hk_ => ⟨(Nat.le_trans (below_size (by repeat (first | (with_reducible first | exact HB.out | apply below_alloc | apply pw_below_drewN | apply below_drew1) | exact HB.out))) hk_), (Kd.fresh' (Kd.R_lt (by (with_reducible repeat (first | apply Kd.R_alloc | apply Kd.R_drewN | apply Kd.R_drew)); exact HO_3.out)) k_ hk_), (Kd.fresh' (Kd.R_lt (by (with_reducible repeat (first | apply Kd.R_alloc | apply Kd.R_drewN | apply Kd.R_drew)); exact HO_4.out)) k_ hk_), (Kd.fresh' (Kd.N_lt (by (with_reducible repeat (first | apply Kd.N_alloc | apply Kd.N_drewN | apply Kd.N_drew)); exact HO_5.out)) k_ hk_), (Kd.fresh' (Kd.N_lt (by (with_reducible repeat (first | apply Kd.N_alloc | apply Kd.N_drewN | apply Kd.N_drew)); exact HO_6.out)) k_ hk_), (Kd.fresh' (Kd.R_lt (by (with_reducible repeat (first | apply Kd.R_alloc | apply Kd.R_drewN | apply Kd.R_drew)); exact HO_8.out)) k_ hk_)⟩)) (below_size (by repeat (first | (with_reducible first | exact HB.out | apply below_alloc | apply pw_below_drewN | apply below_drew1) | exact HB.out)))); have n6_ := Aside0.mk (below_step (by repeat (first | (with_reducible first | exact HB.out | apply below_alloc | apply pw_below_drewN | apply below_drew1) | exact HB.out)) hb); clear HO_3; clear HO_4; clear HO_5; clear HO_6; clear HO_8; clear HB; have HO_3 := n0_; have HO_4 := n1_; have HO_5 := n2_; have HO_6 := n3_; have HO_8 := n4_; have HO289 := n5_; have HB := n6_; clear n0_ n1_ n2_ n3_ n4_ n5_ n6_; (try clear hb); (try clear hb2); (try clear hk); (try clear hi); (try clear ho0); obtain ⟨Ao42, co42, eo42⟩ := Kd.V_slice HO289.out; subst eo42) | ((with_reducible refine gate_builtin (b := .append) (xs := #[.tmp 58, .tmp 66]) rfl ?_); at_builtin; refine Kd.N_append k37 (w0 := w) w.heap.size rfl (.tmp 58) (.tmp 66) 34 37 (.agg #[(.int .i64 0), (.slice none 0 0), (.int .i64 0)]) 40 rfl Try.underlying34 info37 rfl (by decide) (by omega) u6 x6_1 (⟨x22_1, t287, (-1)⟩ : S37) [.int .i64 x22_1, .slice Ao42 t287.length co42, .int .i64 (-1)] (fun k_ => (w.heap.size ≤ k_) ∧ some k_ ≠ (v271 : Value).ownBlock ∧ some k_ ≠ (.slice Ao40 t273.length co40 : Value).ownBlock ∧ some k_ ≠ (.slice (some ad279) t276.length co14 : Value).ownBlock ∧ some k_ ≠ (.slice Ao39 x8_2.length co39 : Value).ownBlock) (fun k_ => ((fun k_ => (w.heap.size ≤ k_) ∧ some k_ ≠ (v271 : Value).ownBlock ∧ some k_ ≠ (.slice Ao40 t273.length co40 : Value).ownBlock ∧ some k_ ≠ (.slice (some ad279) t276.length co14 : Value).ownBlock ∧ some k_ ≠ (.slice Ao39 x8_2.length co39 : Value).ownBlock)) k_ ∧ some k_ ≠ (u6 : Value).ownBlock) rfl rfl ?aP (fun _ hk => hk) ?aF ?aO ?aB ?aS ?aL ?_; (case aP => exact (k37_mkF _ _ (⟨x22_1, t287, (-1)⟩ : S37) (Kd.V_reads' (Kd.V_mono (ok' := (fun k_ => ((fun k_ => (w.heap.size ≤ k_) ∧ some k_ ≠ (v271 : Value).ownBlock ∧ some k_ ≠ (.slice Ao40 t273.length co40 : Value).ownBlock ∧ some k_ ≠ (.slice (some ad279) t276.length co14 : Value).ownBlock ∧ some k_ ≠ (.slice Ao39 x8_2.length co39 : Value).ownBlock)) k_ ∧ some k_ ≠ (u6 : Value).ownBlock)) (HO289.out) (fun k_ hk => ⟨⟨hk.1, ⟨hk.2.1, ⟨hk.2.2.1, ⟨hk.2.2.2.1, hk.2.2.2.2.2⟩⟩⟩⟩, hk.2.2.2.2.1⟩))).2.1 (Kd.V_F (Kd.V_mono (ok' := (fun k_ => ((fun k_ => (w.heap.size ≤ k_) ∧ some k_ ≠ (v271 : Value).ownBlock ∧ some k_ ≠ (.slice Ao40 t273.length co40 : Value).ownBlock ∧ some k_ ≠ (.slice (some ad279) t276.length co14 : Value).ownBlock ∧ some k_ ≠ (.slice Ao39 x8_2.length co39 : Value).ownBlock)) k_ ∧ some k_ ≠ (u6 : Value).ownBlock)) (HO289.out) (fun k_ hk => ⟨⟨hk.1, ⟨hk.2.1, ⟨hk.2.2.1, ⟨hk.2.2.2.1, hk.2.2.2.2.2⟩⟩⟩⟩, hk.2.2.2.2.1⟩))))); (case aB => exact (by repeat (first | (with_reducible first | exact HB.out | apply below_alloc | apply pw_below_drewN | apply below_drew1) | exact HB.out))); (case aF => exact (fun k_ hk => ⟨(Nat.le_trans (below_size (by repeat (first | (with_reducible first | exact HB.out | apply below_alloc | apply pw_below_drewN | apply below_drew1) | exact HB.out))) hk), Kd.fresh' (Kd.R_lt (by (with_reducible repeat (first | apply Kd.R_alloc | apply Kd.R_drewN | apply Kd.R_drew)); exact HO_3.out)) k_ hk, Kd.fresh' (Kd.R_lt (by (with_reducible repeat (first | apply Kd.R_alloc | apply Kd.R_drewN | apply Kd.R_drew)); exact HO_4.out)) k_ hk, Kd.fresh' (Kd.N_lt (by (with_reducible repeat (first | apply Kd.N_alloc | apply Kd.N_drewN | apply Kd.N_drew)); exact HO_5.out)) k_ hk, Kd.fresh' (Kd.R_lt (by (with_reducible repeat (first | apply Kd.R_alloc | apply Kd.R_drewN | apply Kd.R_drew)); exact HO_8.out)) k_ hk⟩)); (case aO => exact (by (with_reducible repeat (first | apply Kd.N_alloc | apply Kd.N_drewN | apply Kd.N_drew)); exact HO_6.out)); (case aS => exact (below_size (by repeat (first | (with_reducible first | exact HB.out | apply below_alloc | apply pw_below_drewN | apply below_drew1) | exact HB.out)))); (case aL => have := LMc38.out; omega); intro v291 w43 ho hb hg hat; rw [← Ny290.out] at ho; have n0_ := Aside0.mk (Kd.R_over' (by (with_reducible repeat (first | apply Kd.R_alloc | apply Kd.R_drewN | apply Kd.R_drew)); exact HO_3.out) (Kd.N_typed (by (with_reducible repeat (first | apply Kd.N_alloc | apply Kd.N_drewN | apply Kd.N_drew)); exact HO_6.out)) (by decide) hg); have n1_ := Aside0.mk (Kd.R_over' (by (with_reducible repeat (first | apply Kd.R_alloc | apply Kd.R_drewN | apply Kd.R_drew)); exact HO_4.out) (Kd.N_typed (by (with_reducible repeat (first | apply Kd.N_alloc | apply Kd.N_drewN | apply Kd.N_drew)); exact HO_6.out)) (by decide) hg); have n2_ := Aside0.mk (Kd.N_afterv (ok := (fun k_ => (w.heap.size ≤ k_) ∧ some k_ ≠ (v271 : Value).ownBlock ∧ some k_ ≠ (.slice Ao40 t273.length co40 : Value).ownBlock ∧ some k_ ≠ (.slice Ao39 x8_2.length co39 : Value).ownBlock)) (by (with_reducible repeat (first | apply Kd.N_alloc | apply Kd.N_drewN | apply Kd.N_drew)); exact Kd.N_mono HO_5.out (fun _ hk => ⟨⟨hk.1, ⟨hk.2.1, ⟨hk.2.2.1, hk.2.2.2.2⟩⟩⟩, hk.2.2.2.1⟩)) hg hat); have n3_ := Aside0.mk (Kd.R_over' (by (with_reducible repeat (first | apply Kd.R_alloc | apply Kd.R_drewN | apply Kd.R_drew)); exact HO_8.out) (Kd.N_typed (by (with_reducible repeat (first | apply Kd.N_alloc | apply Kd.N_drewN | apply Kd.N_drew)); exact HO_6.out)) (by decide) hg); have n4_ := Aside0.mk (Kd.V_afterv (ok := (fun k_ => (w.heap.size ≤ k_) ∧ some k_ ≠ (v271 : Value).ownBlock ∧ some k_ ≠ (.slice Ao40 t273.length co40 : Value).ownBlock ∧ some k_ ≠ (.slice (some ad279) t276.length co14 : Value).ownBlock ∧ some k_ ≠ (.slice Ao39 x8_2.length co39 : Value).ownBlock)) (by (with_reducible repeat (first | apply Kd.V_alloc | apply Kd.V_drewN | apply Kd.V_drew)); exact Kd.V_mono HO289.out (fun _ hk => ⟨⟨hk.1, ⟨hk.2.1, ⟨hk.2.2.1, ⟨hk.2.2.2.1, hk.2.2.2.2.2⟩⟩⟩⟩, hk.2.2.2.2.1⟩)) hg hat); have n5_ := Aside0.mk (hb); have n6_ := Aside0.mk (ho); clear HO_3; clear HO_4; clear HO_5; clear HO_8; clear HO289; clear HB; clear HO_6; have HO_3 := n0_; have HO_4 := n1_; have HO_5 := n2_; have HO_8 := n3_; have HO289 := n4_; have HB := n5_; have HO292 := n6_; clear n0_ n1_ n2_ n3_ n4_ n5_ n6_; clear ho hb hg hat))
                      go_roundg k2
                      case measure => have := HK1.out; have := HK2.out; omega
                      case rel => exact ⟨(y290), (wrap64 (x22_1 + 1)), (by first | rfl | (simp; done) | (simp [*]; done)), H', ⟨by have := HK1.out; have := HK2.out; omega⟩, ⟨by (with_reducible repeat (first | apply Kd.R_alloc | apply Kd.R_drewN | apply Kd.R_drew)); exact Kd.R_mono HO_3.out (fun _ hk => hk.1)⟩, ⟨by (with_reducible repeat (first | apply Kd.R_alloc | apply Kd.R_drewN | apply Kd.R_drew)); exact HO_4.out⟩, ⟨by (with_reducible repeat (first | apply Kd.N_alloc | apply Kd.N_drewN | apply Kd.N_drew)); exact Kd.N_mono HO_5.out (fun _ hk => ⟨hk.1.1, ⟨hk.1.2.1, ⟨hk.1.2.2.1, hk.2⟩⟩⟩)⟩, ⟨by (with_reducible repeat (first | apply Kd.N_alloc | apply Kd.N_drewN | apply Kd.N_drew)); exact Kd.N_mono HO292.out (fun _ hk => ⟨hk.1, ⟨hk.2.1, ⟨hk.2.2.1, hk.2.2.2.1⟩⟩⟩)⟩, ⟨by repeat (first | (with_reducible first | exact HB.out | apply below_alloc | apply pw_below_drewN | apply below_drew1) | exact HB.out)⟩⟩
                    · rw [if_neg c38] at H
                      exact absurd H (by simp)
                  · rw [if_neg c36] at H
                    have c36b0 : decide (0 < (x8_2.length : Int)) = false := decide_eq_false c36
                    have c36b1 : decide (0 < x8_2.length) = false := decide_eq_false (by omega)
                    clear c36
                    have H' := Aside0.mk H
                    clear H
                    obtain ⟨Ao44, co44, eo44⟩ := Kd.R_slice HO_8.out
                    subst eo44
                    go_wp2
                    go_roundg k2
                    case measure => have := HK1.out; have := HK2.out; omega
                    case rel => exact ⟨(x6_1), (wrap64 (x22_1 + 1)), (by first | rfl | (simp; done) | (simp [*]; done)), H', ⟨by have := HK1.out; have := HK2.out; omega⟩, ⟨by (with_reducible repeat (first | apply Kd.R_alloc | apply Kd.R_drewN | apply Kd.R_drew)); exact Kd.R_mono HO_3.out (fun _ hk => hk.1)⟩, ⟨by (with_reducible repeat (first | apply Kd.R_alloc | apply Kd.R_drewN | apply Kd.R_drew)); exact HO_4.out⟩, ⟨by (with_reducible repeat (first | apply Kd.N_alloc | apply Kd.N_drewN | apply Kd.N_drew)); exact Kd.N_mono HO_5.out (fun _ hk => ⟨hk.1, ⟨hk.2.1, ⟨hk.2.2.1, hk.2.2.2.1⟩⟩⟩)⟩, ⟨by (with_reducible repeat (first | apply Kd.N_alloc | apply Kd.N_drewN | apply Kd.N_drew)); exact Kd.N_mono HO_6.out (fun _ hk => ⟨hk.1, ⟨hk.2.1, ⟨hk.2.2.1, hk.2.2.2.1⟩⟩⟩)⟩, ⟨by repeat (first | (with_reducible first | exact HB.out | apply below_alloc | apply pw_below_drewN | apply below_drew1) | exact HB.out)⟩⟩
          · rw [if_neg c13] at H
            exact absurd H (by simp)
        · rw [if_neg c12] at H
          exact absurd H (by simp)
      · rw [if_neg c11] at H
        have c11b0 : decide (x22_1 < (t267.length : Int)) = false := decide_eq_false c11
        clear c11
        have H' := Aside0.mk H
        clear H
        obtain ⟨Ao45, co45, eo45⟩ := Kd.N_slice HO_6.out
        subst eo45
        go_wp2
        go_loopg [71] k1 (fun kq v71 w' => ∃ (x6_2 : List (S37)) (x71_2 : Int), v71 = .int .i64 x71_2 ∧ Aside0 (graph_Loops.l2 kq x6_2 (x6_1.length : Int) x71_2 = some r) ∧ Aside0 (kq ≤ k1) ∧ Aside0 (Kd.N k37 37 w' w.heap.size (fun k_ => (w.heap.size ≤ k_)) (.slice Ao45 x6_1.length co45) x6_2) ∧ Aside0 (Below w.heap.size w w'))
        case atStart => exact ⟨(x6_1), (0), (by first | rfl | (simp; done) | (simp [*]; done)), H', ⟨Nat.le_refl _⟩, ⟨by (with_reducible repeat (first | apply Kd.N_alloc | apply Kd.N_drewN | apply Kd.N_drew)); exact Kd.N_mono HO_6.out (fun _ hk => hk.1)⟩, ⟨by repeat (first | (with_reducible first | exact HB.out | apply below_alloc | apply pw_below_drewN | apply below_drew1) | exact HB.out)⟩⟩
        case round =>
          clear H'
          try clear c1
          try clear c2
          try clear p2
          try clear q2
          try clear hx2
          try clear c3
          try clear p6
          try clear c11
          try clear c11b0
          try clear c12
          try clear c12b0
          try clear c13
          try clear c13b0
          try clear c15
          try clear c15b0
          try clear c16
          try clear c16b0
          try clear c17
          try clear c17b0
          try clear c18
          try clear c18b0
          try clear c19
          try clear c19b0
          try clear q20
          try clear c21
          try clear c22
          try clear c22b0
          try clear c23
          try clear c23b0
          try clear q24
          try clear c25
          try clear c26
          try clear c27
          try clear p27
          try clear q27
          try clear hx27
          try clear c28
          try clear p28
          try clear q28
          try clear hx28
          try clear c30
          try clear c31
          try clear c32
          try clear c36
          try clear c36b0
          try clear c36b1
          try clear c38
          try clear hx279_0
          try clear hx280_0
          try clear hx281_0
          try clear hx282_0
          try clear p2
          try clear p279
          try clear p280
          try clear p281
          try clear p282
          try clear q2
          try clear q279
          try clear q280
          try clear q281
          try clear q282
          obtain ⟨x6_2, x71_2, rfl, HA, HK2, HO_6, HB⟩ := hrel
          have hl6_2 := (Kd.N_reads' HO_6.out).1
          rw [hl6_2] at HO_6
          (try simp only [hl6_2])
          cases gk with
          | zero => exact absurd HA.out (by simp [graph_Loops.l2])
          | succ k2 =>
            have H := HA.out
            clear HA
            simp only [graph_Loops.l2] at H
            by_cases c46 : x71_2 < (x6_1.length : Int)
            · rw [if_pos c46] at H
              have c46b0 : decide (x71_2 < (x6_1.length : Int)) = true := decide_eq_true c46
              clear c46
              replace H := Option.bind_eq_some_iff.mp H
              obtain ⟨t293, A470, H⟩ := H
              replace H : (if 0 ≤ x71_2 then (if x71_2 < (x6_2.length : Int) then (graph_Loops.l2 k2 (x6_2.set (x71_2 : Int).toNat (⟨(rd_T37 x6_2 x71_2).f0, (rd_T37 x6_2 x71_2).f1, t293⟩ : S37)) (x6_1.length : Int) (wrap64 (x71_2 + 1))) else (none)) else (none)) = some r := H
              have A47 := Aside0.mk A470
              clear A470
              by_cases c48 : 0 ≤ x71_2
              · rw [if_pos c48] at H
                have c48b0 : decide (0 ≤ x71_2) = true := decide_eq_true c48
                clear c48
                by_cases c49 : x71_2 < (x6_2.length : Int)
                · rw [if_pos c49] at H
                  have c49b0 : decide (x71_2 < (x6_2.length : Int)) = true := decide_eq_true c49
                  clear c49
                  obtain ⟨y294, hy294⟩ : ∃ y_ : List (S37), y_ = (x6_2.set (x71_2 : Int).toNat (⟨(rd_T37 x6_2 x71_2).f0, (rd_T37 x6_2 x71_2).f1, t293⟩ : S37)) := ⟨_, rfl⟩
                  replace H : (graph_Loops.l2 k2 y294 (x6_1.length : Int) (wrap64 (x71_2 + 1))) = some r := by first | (rw [hy294]; with_reducible exact H) | (have H2_ := (Option.bind_some _ _).symm.trans H; rw [hy294]; with_reducible exact H2_) | (have H2_ := (Option.bind_some _ _).symm.trans H; with_reducible exact H2_) | with_reducible exact H | (rw [hy294]; exact H) | exact H
                  have Ny294 := Aside0.mk hy294
                  clear hy294
                  have H' := Aside0.mk H
                  clear H
                  go_wp2_with (first | ((with_reducible refine gate_callee (f := 33) rfl ?_); refine goesL_ (some 78) rfl rfl Try.func33 (by kernel_rfl) rfl #[.slice Ao45 x6_2.length co45, .int .i64 x71_2] rfl (by (try simp only [List.map_toArray, List.map_cons, List.map_nil]); first | done | rfl | (simp only [List.length_drop, List.length_take]; rfl)) ?_; (with_reducible refine (graph_inside.calls k2 _ _ x6_2 x71_2 t293 _ ?side1 ?side2 A47.out).mono ?_); (case side1 => repeat (first | exact (Kd.N_reads' HO_6.out).2.2 | (with_reducible refine Kd.C_alloc ?_ _) | (with_reducible refine Kd.C_drewN ?_ _) | (with_reducible refine Kd.C_drew ?_))); (case side2 => exact (Kd.N_reads' HO_6.out).2.1); rintro e w51 ⟨rfl, hb⟩; refine ⟨_, rfl, ?_⟩; have n0_ := Aside0.mk (Kd.N_below (by (with_reducible repeat (first | apply Kd.N_alloc | apply Kd.N_drewN | apply Kd.N_drew)); exact HO_6.out) hb); have n1_ := Aside0.mk (below_step (by repeat (first | (with_reducible first | exact HB.out | apply below_alloc | apply pw_below_drewN | apply below_drew1) | exact HB.out)) hb); clear HO_6; clear HB; have HO_6 := n0_; have HB := n1_; clear n0_ n1_; (try clear hb); (try clear hb2); (try clear hk); (try clear hi); have p50 : 0 ≤ (x71_2 : Int) := of_decide_eq_true (by first | (with_reducible assumption) | assumption); have q50 : (x71_2 : Int) < ((x6_2.length : Int) : Int) := of_decide_eq_true (by first | (with_reducible assumption) | assumption); obtain ⟨go50, co50, eo50, gb50, gl50, cl50, HG50⟩ := Kd.N_form HO_6.out (by omega); (first | cases eo50 | (injection eo50 with ea_ en_ ec_; (first | subst ea_ | (injection ea_ with ea_; subst ea_)); subst ec_; clear en_)); have GB50 := Aside0.mk gb50; have GG50 := Aside0.mk HG50; clear gb50 gl50 HG50; obtain ⟨ce50, hcl50, hM50, hcc50, hfr50⟩ := Kd.N_elem HO_6.out z37 (x71_2 : Int) p50 q50; obtain ⟨ua50_1, uc50_1, rfl, ul50_1, ge50_1⟩ := k37_openF hM50; have hx50_0 : w51.cell? ⟨go50, (x71_2 : Int).toNat * 3, none⟩ = some (.int .i64 ((rd_T37 x6_2 x71_2).f0)) := hcc50 0 _ rfl; have hx50_1 : w51.cell? ⟨go50, (x71_2 : Int).toNat * 3 + 1, none⟩ = some (.slice ua50_1 ((rd_T37 x6_2 x71_2).f1).length uc50_1) := hcc50 1 _ rfl; have hx50_2 : w51.cell? ⟨go50, (x71_2 : Int).toNat * 3 + 2, none⟩ = some (.int .i64 ((rd_T37 x6_2 x71_2).f2)) := hcc50 2 _ rfl; have hf50_0 : w51.frozen? ⟨go50, (x71_2 : Int).toNat * 3, none⟩ = false := hfr50 0; have hf50_1 : w51.frozen? ⟨go50, (x71_2 : Int).toNat * 3 + 1, none⟩ = false := hfr50 1; have hf50_2 : w51.frozen? ⟨go50, (x71_2 : Int).toNat * 3 + 2, none⟩ = false := hfr50 2; clear hcl50 hcc50 hfr50 hM50; replace p50 := eq_true p50; replace q50 := eq_true q50; have HX52 := Aside0.mk (show Kd.N k37 37 w51 w.heap.size (fun k_ => (w.heap.size ≤ k_)) (.slice (some ⟨go50, 0, none⟩) x6_2.length co45) x6_2 from (by (with_reducible repeat (first | apply Kd.N_alloc | apply Kd.N_drewN | apply Kd.N_drew)); exact HO_6.out)); obtain ⟨ce52, hcl52, hM52, hcc52, hfr52⟩ := Kd.N_elem HX52.out z37 (x71_2 : Int) (of_decide_eq_true (by first | (with_reducible assumption) | assumption)) (by have h_ : (x71_2 : Int) < ((x6_2.length : Int) : Int) := of_decide_eq_true (by first | (with_reducible assumption) | assumption); first | exact h_ | (have e_ := (Kd.N_reads' HO_6.out).1; omega) | simpa using h_); obtain ⟨ua52_1, uc52_1, rfl, ul52_1, ge52_1⟩ := k37_openF hM52; have HP52 := Kd.N_seg HX52.out (x71_2 : Int) (of_decide_eq_true (by first | (with_reducible assumption) | assumption)) (by have h_ : (x71_2 : Int) < ((x6_2.length : Int) : Int) := of_decide_eq_true (by first | (with_reducible assumption) | assumption); first | exact h_ | (have e_ := (Kd.N_reads' HO_6.out).1; omega) | simpa using h_) (seg := [.int .i64 t293]) (j := 2) hcl52 hcc52 (show 3 ≤ 3 from by decide) (x' := (⟨(rd_T37 x6_2 x71_2).f0, (rd_T37 x6_2 x71_2).f1, t293⟩ : S37)) (k37_mkF _ _ (⟨(rd_T37 x6_2 x71_2).f0, (rd_T37 x6_2 x71_2).f1, t293⟩ : S37) ul52_1 ge52_1) (fun _ hk => hk); have hx52_2 := hcc52 2 _ rfl; (try simp only [show (k37).sz = 3 from rfl, Nat.mul_one, Nat.add_zero] at hx52_2); have hf52_2 := hfr52 2; (try simp only [show (k37).sz = 3 from rfl, Nat.mul_one, Nat.add_zero] at hf52_2); clear hcl52 hcc52 hfr52 hM52) | ((with_reducible refine gate_store (t := 3) (p := 80) rfl ?_); refine store_event (t := 3) (p := 80) (v := ?vo_w53) (w1 := (w51.setCell ⟨go50, (x71_2 : Int).toNat * 3 + 2, none⟩ (.int .i64 t293))) ?hg ?ho ?hn ?hr ?_; (case ho => rfl); (case hg => rfl); (case hn => rfl); (case hr => first | (go_simp; done) | (go_simp; rfl)); intro w53 hw; have hg : w51.grownBy w53 (some go50) := (by rw [hw]; exact HP52.2); have hp_ : Kd.N k37 37 w53 w.heap.size (fun k_ => (w.heap.size ≤ k_)) (.slice (some ⟨go50, 0, none⟩) x6_2.length co45) y294 := (by rw [hw, Ny294.out]; exact HP52.1); clear HP52; have n0_ := Aside0.mk (hp_); have n1_ := Aside0.mk ((by rw [hw]; exact below_set (HB.out) GB50.out : Below w.heap.size w w53)); clear HO_6; clear HB; have HO_6 := n0_; have HB := n1_; clear n0_ n1_; clear hg hw hp_))
                  (try simp only [← hl6_2])
                  go_roundg k2
                  case measure => have := HK1.out; have := HK2.out; omega
                  case rel => exact ⟨(y294), (wrap64 (x71_2 + 1)), (by first | rfl | (simp; done) | (simp [*]; done)), H', ⟨by have := HK1.out; have := HK2.out; omega⟩, ⟨by (try simp only [hl6_2]); (with_reducible repeat (first | apply Kd.N_alloc | apply Kd.N_drewN | apply Kd.N_drew)); exact HO_6.out⟩, ⟨by repeat (first | (with_reducible first | exact HB.out | apply below_alloc | apply pw_below_drewN | apply below_drew1) | exact HB.out)⟩⟩
                · rw [if_neg c49] at H
                  exact absurd H (by simp)
              · rw [if_neg c48] at H
                exact absurd H (by simp)
            · rw [if_neg c46] at H
              have c46b0 : decide (x71_2 < (x6_1.length : Int)) = false := decide_eq_false c46
              have c46b2 : decide (x71_2 < (x6_2.length : Int)) = false := by rw [← hl6_2]; exact c46b0
              clear c46
              replace H := Option.bind_eq_some_iff.mp H
              obtain ⟨t295, A540, H⟩ := H
              replace H : (some t295) = some r := H
              have A54 := Aside0.mk A540
              clear A540
              obtain rfl := Option.some.inj H
              go_wp2_with (first | ((with_reducible refine gate_callee (f := 34) rfl ?_); refine goesL_ (some 83) rfl rfl Try.func34 (by kernel_rfl) rfl #[.slice Ao45 x6_2.length co45] rfl (by (try simp only [List.map_toArray, List.map_cons, List.map_nil]); first | done | rfl | (simp only [List.length_drop, List.length_take]; rfl)) ?_; (with_reducible refine (graph_Loop.calls (fun k_ => (w.heap.size ≤ k_)) _ _ x6_2 t295 _ ?side1 A54.out).mono ?_); (case side1 => exact Kd.N_V (HO_6.out)); rintro e w55 ⟨v296, rfl, ho0, hb⟩; refine ⟨_, rfl, ?_⟩; have n0_ := Aside0.mk (Kd.N_below (by (with_reducible repeat (first | apply Kd.N_alloc | apply Kd.N_drewN | apply Kd.N_drew)); exact HO_6.out) hb); have n1_ := Aside0.mk (Kd.V_lower (Kd.V_mono (ok' := fun k_ => (w.heap.size ≤ k_)) ho0 (fun k_ hk_ => Or.elim hk_ (fun hs_ => hs_) (fun hn_ => (Nat.le_trans (below_size (by repeat (first | (with_reducible first | exact HB.out | apply below_alloc | apply pw_below_drewN | apply below_drew1) | exact HB.out))) hn_)))) (below_size (by repeat (first | (with_reducible first | exact HB.out | apply below_alloc | apply pw_below_drewN | apply below_drew1) | exact HB.out)))); have n2_ := Aside0.mk (below_step (by repeat (first | (with_reducible first | exact HB.out | apply below_alloc | apply pw_below_drewN | apply below_drew1) | exact HB.out)) hb); clear HO_6; clear HB; have HO_6 := n0_; have HO297 := n1_; have HB := n2_; clear n0_ n1_ n2_; (try clear hb); (try clear hb2); (try clear hk); (try clear hi); (try clear ho0)))
              go_ret
              exact ⟨_, by first | rfl | (simp [errW_none, errW_some] <;> rfl) | (simp [*, errW_none, errW_some] <;> rfl), by (with_reducible repeat (first | apply Kd.V_alloc | apply Kd.V_drewN | apply Kd.V_drew)); exact HO297.out, by repeat (first | (with_reducible first | exact HB.out | apply below_alloc | apply pw_below_drewN | apply below_drew1) | exact HB.out)⟩

end Go.Proofs.Ytjflddnmkajleaa.PG
