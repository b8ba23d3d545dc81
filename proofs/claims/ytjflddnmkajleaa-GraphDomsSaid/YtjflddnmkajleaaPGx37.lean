-- By the session's own program out of the kit's print, with texts of the session's own for the functions that the print does not take.
import Derived.Test.YtjflddnmkajleaaPGx0
import Derived.Test.YtjflddnmkajleaaPGx1
import Derived.Test.YtjflddnmkajleaaPGx8
import Derived.Test.YtjflddnmkajleaaPGx9
import Derived.Test.YtjflddnmkajleaaPGx21
import Derived.Test.YtjflddnmkajleaaPGx22
import Derived.Test.YtjflddnmkajleaaPGx26
import Derived.Test.YtjflddnmkajleaaPGx35
import Derived.Test.YtjflddnmkajleaaPGx36
namespace Go.Proofs.Ytjflddnmkajleaa.PG
open Go.RowKit Go.Proofs.YtjflddnmkajleaaW.PrintWords Go.Proofs.YtjflddnmkajleaaW.PrintLast Go.Proofs.YtjflddnmkajleaaW.PrintMore
attribute [local go_sem] max2_int min2_int max_two min_two max_three min_three max_four min_four   -- for this text's walks alone
set_option linter.unusedVariables false
set_option linter.unusedSimpArgs false

/-! ### ratlinelaw10_GraphDoms: function 3 -/
mutual
def ratlinelaw10_GraphDoms.l0 : Nat → List (List Int) → Int → Int → List Int → List (List Bool) → List Bool → Int → Option (Bool)
  | 0, _, _, _, _, _, _, _ => none
  | k + 1, x0, x1, x2, x7, x8, x9, x10 => if x10 < (x0.length : Int) then (ratlinelaw10_GraphDoms.l1 k x0 x1 x2 x7 x8 x9 x10 0) else (if x1 < 0 then (ratlinelaw10_GraphDoms.j2 k x1 x2 x7 true) else (if x1 ≥ (x0.length : Int) then (ratlinelaw10_GraphDoms.j2 k x1 x2 x7 true) else (if x2 < 0 then (ratlinelaw10_GraphDoms.j2 k x1 x2 x7 true) else (ratlinelaw10_GraphDoms.j2 k x1 x2 x7 (decide (x2 ≥ (x0.length : Int)))))))
def ratlinelaw10_GraphDoms.l1 : Nat → List (List Int) → Int → Int → List Int → List (List Bool) → List Bool → Int → Int → Option (Bool)
  | 0, _, _, _, _, _, _, _, _ => none
  | k + 1, x0, x1, x2, x7, x8, x9, x10, x11 => if x11 < (x0.length : Int) then (if 0 ≤ x10 then (if x10 < (x9.length : Int) then (if rdOf false x9 x10 = true then (if 0 ≤ x11 then (if x11 < (x9.length : Int) then (if rdOf false x9 x11 = true then ((graph_Dominates.f k x7 x10 x11).bind fun t505 => (if x10 < (x8.length : Int) then (if x11 < ((rd_L5 x8 x10).length : Int) then (if (t505 != (rdOf false (rd_L5 x8 x10) x11)) = true then (some false) else (ratlinelaw10_GraphDoms.l1 k x0 x1 x2 x7 x8 x9 x10 (wrap64 (x11 + 1)))) else (none)) else (none))) else (ratlinelaw10_GraphDoms.l1 k x0 x1 x2 x7 x8 x9 x10 (wrap64 (x11 + 1)))) else (none)) else (none)) else (ratlinelaw10_GraphDoms.l1 k x0 x1 x2 x7 x8 x9 x10 (wrap64 (x11 + 1)))) else (none)) else (none)) else (ratlinelaw10_GraphDoms.l0 k x0 x1 x2 x7 x8 x9 (wrap64 (x10 + 1)))
def ratlinelaw10_GraphDoms.j2 : Nat → Int → Int → List Int → Bool → Option (Bool)
  | 0, _, _, _, _ => none
  | k + 1, x1, x2, x7, x80 => if x80 = true then ((graph_Dominates.f k x7 x1 x2).bind fun t508 => (if t508 = true then (some false) else ((ratlinelaw10_awake.f k).bind fun t509 => (some t509)))) else ((ratlinelaw10_awake.f k).bind fun t510 => (some t510))
end
def ratlinelaw10_GraphDoms.f (k : Nat) (l0 : List (List Int)) (a1 : Int) (a2 : Int) : Option (Bool) := (ratlinelaw10_few.f k l0).bind fun t488 => (if t488 = true then ((graph_Doms.f k l0).bind fun t490 => ((ratlineref10_Doms.f k l0).bind fun t493 => ((ratlineref11_SameInts.f k t490 t493).bind fun t496 => (if t496 = true then ((ratlineref10_Over.f k l0).bind fun t497 => ((ratlineref10_Reach.f k l0).bind fun t500 => (ratlinelaw10_GraphDoms.l0 k l0 a1 a2 t490 t497 t500 0))) else (some false))))) else ((ratlinelaw10_awake.f k).bind fun t489 => (some t489)))
theorem ratlinelaw10_GraphDoms.mono_l : ∀ k, (∀ y0 y1 y2 y3 y4 y5 y6, LeO (ratlinelaw10_GraphDoms.l0 k y0 y1 y2 y3 y4 y5 y6) (ratlinelaw10_GraphDoms.l0 (k + 1) y0 y1 y2 y3 y4 y5 y6)) ∧ (∀ y0 y1 y2 y3 y4 y5 y6 y7, LeO (ratlinelaw10_GraphDoms.l1 k y0 y1 y2 y3 y4 y5 y6 y7) (ratlinelaw10_GraphDoms.l1 (k + 1) y0 y1 y2 y3 y4 y5 y6 y7)) ∧ (∀ y0 y1 y2 y3, LeO (ratlinelaw10_GraphDoms.j2 k y0 y1 y2 y3) (ratlinelaw10_GraphDoms.j2 (k + 1) y0 y1 y2 y3))
  | 0 => ⟨fun _ _ _ _ _ _ _ r h => by simp [ratlinelaw10_GraphDoms.l0] at h, fun _ _ _ _ _ _ _ _ r h => by simp [ratlinelaw10_GraphDoms.l1] at h, fun _ _ _ _ r h => by simp [ratlinelaw10_GraphDoms.j2] at h⟩
  | k + 1 => by
    obtain ⟨ih0, ih1, ih2⟩ := ratlinelaw10_GraphDoms.mono_l k
    refine ⟨?_, ?_, ?_⟩
    · intro y0 y1 y2 y3 y4 y5 y6
      unfold ratlinelaw10_GraphDoms.l0
      repeat' first
      | (with_reducible exact ih0 _ _ _ _ _ _ _)
      | (with_reducible exact ih1 _ _ _ _ _ _ _ _)
      | (with_reducible exact ih2 _ _ _ _)
      | (with_reducible exact graph_Dominates.mono _ _ _ _)
      | (with_reducible exact graph_Doms.mono _ _)
      | (with_reducible exact ratlinelaw10_awake.mono _)
      | (with_reducible exact ratlinelaw10_few.mono _ _)
      | (with_reducible exact ratlineref10_Doms.mono _ _)
      | (with_reducible exact ratlineref10_Over.mono _ _)
      | (with_reducible exact ratlineref10_Reach.mono _ _)
      | (with_reducible exact ratlineref11_SameInts.mono _ _ _)
      | (with_reducible exact LeO.refl _)
      | (with_reducible exact LeO.none _)
      | (with_reducible refine LeO.ite ?_ ?_)
      | (with_reducible refine LeO.bind ?_ (fun _ => ?_))
      | exact ih0 _ _ _ _ _ _ _
      | exact ih1 _ _ _ _ _ _ _ _
      | exact ih2 _ _ _ _
      | exact graph_Dominates.mono _ _ _ _
      | exact graph_Doms.mono _ _
      | exact ratlinelaw10_awake.mono _
      | exact ratlinelaw10_few.mono _ _
      | exact ratlineref10_Doms.mono _ _
      | exact ratlineref10_Over.mono _ _
      | exact ratlineref10_Reach.mono _ _
      | exact ratlineref11_SameInts.mono _ _ _
      | exact LeO.none _
      | refine LeO.ite ?_ ?_
      | refine LeO.bind ?_ (fun _ => ?_)
    · intro y0 y1 y2 y3 y4 y5 y6 y7
      unfold ratlinelaw10_GraphDoms.l1
      repeat' first
      | (with_reducible exact ih0 _ _ _ _ _ _ _)
      | (with_reducible exact ih1 _ _ _ _ _ _ _ _)
      | (with_reducible exact ih2 _ _ _ _)
      | (with_reducible exact graph_Dominates.mono _ _ _ _)
      | (with_reducible exact graph_Doms.mono _ _)
      | (with_reducible exact ratlinelaw10_awake.mono _)
      | (with_reducible exact ratlinelaw10_few.mono _ _)
      | (with_reducible exact ratlineref10_Doms.mono _ _)
      | (with_reducible exact ratlineref10_Over.mono _ _)
      | (with_reducible exact ratlineref10_Reach.mono _ _)
      | (with_reducible exact ratlineref11_SameInts.mono _ _ _)
      | (with_reducible exact LeO.refl _)
      | (with_reducible exact LeO.none _)
      | (with_reducible refine LeO.ite ?_ ?_)
      | (with_reducible refine LeO.bind ?_ (fun _ => ?_))
      | exact ih0 _ _ _ _ _ _ _
      | exact ih1 _ _ _ _ _ _ _ _
      | exact ih2 _ _ _ _
      | exact graph_Dominates.mono _ _ _ _
      | exact graph_Doms.mono _ _
      | exact ratlinelaw10_awake.mono _
      | exact ratlinelaw10_few.mono _ _
      | exact ratlineref10_Doms.mono _ _
      | exact ratlineref10_Over.mono _ _
      | exact ratlineref10_Reach.mono _ _
      | exact ratlineref11_SameInts.mono _ _ _
      | exact LeO.none _
      | refine LeO.ite ?_ ?_
      | refine LeO.bind ?_ (fun _ => ?_)
    · intro y0 y1 y2 y3
      unfold ratlinelaw10_GraphDoms.j2
      repeat' first
      | (with_reducible exact ih0 _ _ _ _ _ _ _)
      | (with_reducible exact ih1 _ _ _ _ _ _ _ _)
      | (with_reducible exact ih2 _ _ _ _)
      | (with_reducible exact graph_Dominates.mono _ _ _ _)
      | (with_reducible exact graph_Doms.mono _ _)
      | (with_reducible exact ratlinelaw10_awake.mono _)
      | (with_reducible exact ratlinelaw10_few.mono _ _)
      | (with_reducible exact ratlineref10_Doms.mono _ _)
      | (with_reducible exact ratlineref10_Over.mono _ _)
      | (with_reducible exact ratlineref10_Reach.mono _ _)
      | (with_reducible exact ratlineref11_SameInts.mono _ _ _)
      | (with_reducible exact LeO.refl _)
      | (with_reducible exact LeO.none _)
      | (with_reducible refine LeO.ite ?_ ?_)
      | (with_reducible refine LeO.bind ?_ (fun _ => ?_))
      | exact ih0 _ _ _ _ _ _ _
      | exact ih1 _ _ _ _ _ _ _ _
      | exact ih2 _ _ _ _
      | exact graph_Dominates.mono _ _ _ _
      | exact graph_Doms.mono _ _
      | exact ratlinelaw10_awake.mono _
      | exact ratlinelaw10_few.mono _ _
      | exact ratlineref10_Doms.mono _ _
      | exact ratlineref10_Over.mono _ _
      | exact ratlineref10_Reach.mono _ _
      | exact ratlineref11_SameInts.mono _ _ _
      | exact LeO.none _
      | refine LeO.ite ?_ ?_
      | refine LeO.bind ?_ (fun _ => ?_)
theorem ratlinelaw10_GraphDoms.mono : ∀ a0 a1 a2 k, LeO (ratlinelaw10_GraphDoms.f k a0 a1 a2) (ratlinelaw10_GraphDoms.f (k + 1) a0 a1 a2) := by
  intro a0 a1 a2 k
  obtain ⟨ih0, ih1, ih2⟩ := ratlinelaw10_GraphDoms.mono_l k
  unfold ratlinelaw10_GraphDoms.f
  repeat' first
      | (with_reducible exact ih0 _ _ _ _ _ _ _)
      | (with_reducible exact ih1 _ _ _ _ _ _ _ _)
      | (with_reducible exact ih2 _ _ _ _)
      | (with_reducible exact graph_Dominates.mono _ _ _ _)
      | (with_reducible exact graph_Doms.mono _ _)
      | (with_reducible exact ratlinelaw10_awake.mono _)
      | (with_reducible exact ratlinelaw10_few.mono _ _)
      | (with_reducible exact ratlineref10_Doms.mono _ _)
      | (with_reducible exact ratlineref10_Over.mono _ _)
      | (with_reducible exact ratlineref10_Reach.mono _ _)
      | (with_reducible exact ratlineref11_SameInts.mono _ _ _)
      | (with_reducible exact LeO.refl _)
      | (with_reducible exact LeO.none _)
      | (with_reducible refine LeO.ite ?_ ?_)
      | (with_reducible refine LeO.bind ?_ (fun _ => ?_))
      | exact ih0 _ _ _ _ _ _ _
      | exact ih1 _ _ _ _ _ _ _ _
      | exact ih2 _ _ _ _
      | exact graph_Dominates.mono _ _ _ _
      | exact graph_Doms.mono _ _
      | exact ratlinelaw10_awake.mono _
      | exact ratlinelaw10_few.mono _ _
      | exact ratlineref10_Doms.mono _ _
      | exact ratlineref10_Over.mono _ _
      | exact ratlineref10_Reach.mono _ _
      | exact ratlineref11_SameInts.mono _ _ _
      | exact LeO.none _
      | refine LeO.ite ?_ ?_
      | refine LeO.bind ?_ (fun _ => ?_)
set_option maxHeartbeats 8000000 in
set_option maxRecDepth 100000 in
theorem ratlinelaw10_GraphDoms.calls (k : Nat) (A0 : Option Addr) (c0 : Nat) (l0 : List (List Int)) (a1 : Int) (a2 : Int) (r : Bool) (hr : Aside0 (r = true)) (w : World) (hr0 : Kd.C (Kd.slice 3 (Kd.int .i64)) w A0 l0.length l0) (hc0 : l0.length ≤ c0) (h : ratlinelaw10_GraphDoms.f k l0 a1 a2 = some r) :
    Calls Try.prog 3 #[.slice A0 l0.length c0, .int .i64 a1, .int .i64 a2] w fun e w' => e = .returned (.bool r) ∧ Below w.heap.size w w' := by
  have HR0 := Aside0.mk hr0
  have HC0 := Aside0.mk hc0
  clear hr0 hc0
  have HB := Aside0.mk (Below.refl w.heap.size w)
  have H : ((ratlinelaw10_few.f k l0).bind fun t488 => (if t488 = true then ((graph_Doms.f k l0).bind fun t490 => ((ratlineref10_Doms.f k l0).bind fun t493 => ((ratlineref11_SameInts.f k t490 t493).bind fun t496 => (if t496 = true then ((ratlineref10_Over.f k l0).bind fun t497 => ((ratlineref10_Reach.f k l0).bind fun t500 => (ratlinelaw10_GraphDoms.l0 k l0 a1 a2 t490 t497 t500 0))) else (some false))))) else ((ratlinelaw10_awake.f k).bind fun t489 => (some t489)))) = some r := h
  clear h
  replace H := Option.bind_eq_some_iff.mp H
  obtain ⟨t488, A40, H⟩ := H
  replace H : (if t488 = true then ((graph_Doms.f k l0).bind fun t490 => ((ratlineref10_Doms.f k l0).bind fun t493 => ((ratlineref11_SameInts.f k t490 t493).bind fun t496 => (if t496 = true then ((ratlineref10_Over.f k l0).bind fun t497 => ((ratlineref10_Reach.f k l0).bind fun t500 => (ratlinelaw10_GraphDoms.l0 k l0 a1 a2 t490 t497 t500 0))) else (some false))))) else ((ratlinelaw10_awake.f k).bind fun t489 => (some t489))) = some r := H
  have A4 := Aside0.mk A40
  clear A40
  by_cases c5 : t488 = true
  · subst c5
    have H1 : ((graph_Doms.f k l0).bind fun t490 => ((ratlineref10_Doms.f k l0).bind fun t493 => ((ratlineref11_SameInts.f k t490 t493).bind fun t496 => (if t496 = true then ((ratlineref10_Over.f k l0).bind fun t497 => ((ratlineref10_Reach.f k l0).bind fun t500 => (ratlinelaw10_GraphDoms.l0 k l0 a1 a2 t490 t497 t500 0))) else (some false))))) = some r := by rw [if_pos rfl] at H; exact H
    clear H
    have H := H1
    clear H1
    replace H := Option.bind_eq_some_iff.mp H
    obtain ⟨t490, A60, H⟩ := H
    replace H : ((ratlineref10_Doms.f k l0).bind fun t493 => ((ratlineref11_SameInts.f k t490 t493).bind fun t496 => (if t496 = true then ((ratlineref10_Over.f k l0).bind fun t497 => ((ratlineref10_Reach.f k l0).bind fun t500 => (ratlinelaw10_GraphDoms.l0 k l0 a1 a2 t490 t497 t500 0))) else (some false)))) = some r := H
    have A6 := Aside0.mk A60
    clear A60
    replace H := Option.bind_eq_some_iff.mp H
    obtain ⟨t493, A70, H⟩ := H
    replace H : ((ratlineref11_SameInts.f k t490 t493).bind fun t496 => (if t496 = true then ((ratlineref10_Over.f k l0).bind fun t497 => ((ratlineref10_Reach.f k l0).bind fun t500 => (ratlinelaw10_GraphDoms.l0 k l0 a1 a2 t490 t497 t500 0))) else (some false))) = some r := H
    have A7 := Aside0.mk A70
    clear A70
    replace H := Option.bind_eq_some_iff.mp H
    obtain ⟨t496, A80, H⟩ := H
    replace H : (if t496 = true then ((ratlineref10_Over.f k l0).bind fun t497 => ((ratlineref10_Reach.f k l0).bind fun t500 => (ratlinelaw10_GraphDoms.l0 k l0 a1 a2 t490 t497 t500 0))) else (some false)) = some r := H
    have A8 := Aside0.mk A80
    clear A80
    by_cases c9 : t496 = true
    · subst c9
      have H1 : ((ratlineref10_Over.f k l0).bind fun t497 => ((ratlineref10_Reach.f k l0).bind fun t500 => (ratlinelaw10_GraphDoms.l0 k l0 a1 a2 t490 t497 t500 0))) = some r := by rw [if_pos rfl] at H; exact H
      clear H
      have H := H1
      clear H1
      replace H := Option.bind_eq_some_iff.mp H
      obtain ⟨t497, A100, H⟩ := H
      replace H : ((ratlineref10_Reach.f k l0).bind fun t500 => (ratlinelaw10_GraphDoms.l0 k l0 a1 a2 t490 t497 t500 0)) = some r := H
      have A10 := Aside0.mk A100
      clear A100
      replace H := Option.bind_eq_some_iff.mp H
      obtain ⟨t500, A110, H⟩ := H
      replace H : (ratlinelaw10_GraphDoms.l0 k l0 a1 a2 t490 t497 t500 0) = some r := H
      have A11 := Aside0.mk A110
      clear A110
      have H' := Aside0.mk H
      clear H
      go_enter Try.func3, Try.ntmps3
      go_wp2_with (first | (go_at_call 9; (with_reducible refine (ratlinelaw10_few.calls k _ _ l0 true _ ?side1 ?side2 A4.out).mono ?_); (case side1 => repeat (first | exact HR0.out | (with_reducible refine Kd.C_alloc ?_ _) | (with_reducible refine Kd.C_drewN ?_ _) | (with_reducible refine Kd.C_drew ?_))); (case side2 => exact HC0.out); rintro e w' ⟨rfl, ⟨nd, rfl⟩⟩; (try first | exact ⟨rfl, _, World.drewN_drewN _ _ _⟩ | exact ⟨rfl, _, Eq.trans (World.drewN_drewN _ _ _) (congrArg (World.drewN _) (Nat.add_assoc _ _ _))⟩)) | (go_at_call 11; (with_reducible refine (graph_Doms.calls k _ _ l0 t490 _ ?side1 ?side2 A6.out).mono ?_); (case side1 => repeat (first | exact HR0.out | (with_reducible refine Kd.C_alloc ?_ _) | (with_reducible refine Kd.C_drewN ?_ _) | (with_reducible refine Kd.C_drew ?_))); (case side2 => exact HC0.out); rintro e w12 ⟨v491, rfl, ho0, hb⟩; have n0_ := Aside0.mk (Kd.R_lower ho0 (below_size (by repeat (first | (with_reducible first | exact HB.out | apply below_alloc | apply pw_below_drewN | apply below_drew1) | exact HB.out)))); have n1_ := Aside0.mk (below_step (by repeat (first | (with_reducible first | exact HB.out | apply below_alloc | apply pw_below_drewN | apply below_drew1) | exact HB.out)) hb); clear HB; have HO492 := n0_; have HB := n1_; clear n0_ n1_; (try clear hb); (try clear hb2); (try clear hk); (try clear hi); (try clear ho0)) | (go_at_call 13; (with_reducible refine (ratlineref10_Doms.calls k _ _ l0 t493 _ ?side1 ?side2 A7.out).mono ?_); (case side1 => repeat (first | exact (Kd.C_below HR0.out HB.out) | (with_reducible refine Kd.C_alloc ?_ _) | (with_reducible refine Kd.C_drewN ?_ _) | (with_reducible refine Kd.C_drew ?_))); (case side2 => exact HC0.out); rintro e w13 ⟨v494, rfl, ho0, hb⟩; have n0_ := Aside0.mk (Kd.R_elder' (by (with_reducible repeat (first | apply Kd.R_alloc | apply Kd.R_drewN | apply Kd.R_drew)); exact HO492.out) (Kd.R_base ho0) hb); have n1_ := Aside0.mk (Kd.R_lower (Kd.R_new' ho0 (Kd.R_lt (by (with_reducible repeat (first | apply Kd.R_alloc | apply Kd.R_drewN | apply Kd.R_drew)); exact HO492.out))) (below_size (by repeat (first | (with_reducible first | exact HB.out | apply below_alloc | apply pw_below_drewN | apply below_drew1) | exact HB.out)))); have n2_ := Aside0.mk (below_step (by repeat (first | (with_reducible first | exact HB.out | apply below_alloc | apply pw_below_drewN | apply below_drew1) | exact HB.out)) hb); clear HO492; clear HB; have HO492 := n0_; have HO495 := n1_; have HB := n2_; clear n0_ n1_ n2_; (try clear hb); (try clear hb2); (try clear hk); (try clear hi); (try clear ho0); obtain ⟨Ao14, co14, eo14⟩ := Kd.R_slice HO492.out; subst eo14; obtain ⟨Ao15, co15, eo15⟩ := Kd.R_slice HO495.out; subst eo15) | (go_at_call 12; (with_reducible refine (ratlineref11_SameInts.calls k _ _ t490 _ _ t493 true _ ?side1 ?side2 ?side3 ?side4 A8.out).mono ?_); (case side1 => repeat (first | exact (Kd.R_reads' HO492.out).2.2 | (with_reducible refine Kd.C_alloc ?_ _) | (with_reducible refine Kd.C_drewN ?_ _) | (with_reducible refine Kd.C_drew ?_))); (case side2 => exact (Kd.R_reads' HO492.out).2.1); (case side3 => repeat (first | exact (Kd.R_reads' HO495.out).2.2 | (with_reducible refine Kd.C_alloc ?_ _) | (with_reducible refine Kd.C_drewN ?_ _) | (with_reducible refine Kd.C_drew ?_))); (case side4 => exact (Kd.R_reads' HO495.out).2.1); rintro e w' ⟨rfl, ⟨nd, rfl⟩⟩; (try first | exact ⟨rfl, _, World.drewN_drewN _ _ _⟩ | exact ⟨rfl, _, Eq.trans (World.drewN_drewN _ _ _) (congrArg (World.drewN _) (Nat.add_assoc _ _ _))⟩)) | (go_at_call 14; (with_reducible refine (ratlineref10_Over.calls k _ _ l0 t497 _ ?side1 ?side2 A10.out).mono ?_); (case side1 => repeat (first | exact (Kd.C_below HR0.out (by repeat (first | (with_reducible first | exact HB.out | apply below_alloc | apply pw_below_drewN | apply below_drew1) | exact HB.out))) | (with_reducible refine Kd.C_alloc ?_ _) | (with_reducible refine Kd.C_drewN ?_ _) | (with_reducible refine Kd.C_drew ?_))); (case side2 => exact HC0.out); rintro e w16 ⟨v498, rfl, ho0, hb⟩; have n0_ := Aside0.mk (Kd.R_below (by (with_reducible repeat (first | apply Kd.R_alloc | apply Kd.R_drewN | apply Kd.R_drew)); exact HO492.out) hb); have n1_ := Aside0.mk (Kd.R_below (by (with_reducible repeat (first | apply Kd.R_alloc | apply Kd.R_drewN | apply Kd.R_drew)); exact HO495.out) hb); have n2_ := Aside0.mk (Kd.S_lower ho0 (below_size (by repeat (first | (with_reducible first | exact HB.out | apply below_alloc | apply pw_below_drewN | apply below_drew1) | exact HB.out)))); have n3_ := Aside0.mk (below_step (by repeat (first | (with_reducible first | exact HB.out | apply below_alloc | apply pw_below_drewN | apply below_drew1) | exact HB.out)) hb); clear HO492; clear HO495; clear HB; have HO492 := n0_; have HO495 := n1_; have HO499 := n2_; have HB := n3_; clear n0_ n1_ n2_ n3_; (try clear hb); (try clear hb2); (try clear hk); (try clear hi); (try clear ho0)) | (go_at_call 15; (with_reducible refine (ratlineref10_Reach.calls k _ _ l0 t500 _ ?side1 ?side2 A11.out).mono ?_); (case side1 => repeat (first | exact (Kd.C_below HR0.out HB.out) | (with_reducible refine Kd.C_alloc ?_ _) | (with_reducible refine Kd.C_drewN ?_ _) | (with_reducible refine Kd.C_drew ?_))); (case side2 => exact HC0.out); rintro e w17 ⟨v501, rfl, ho0, hb⟩; have n0_ := Aside0.mk (Kd.R_below (by (with_reducible repeat (first | apply Kd.R_alloc | apply Kd.R_drewN | apply Kd.R_drew)); exact HO492.out) hb); have n1_ := Aside0.mk (Kd.R_below (by (with_reducible repeat (first | apply Kd.R_alloc | apply Kd.R_drewN | apply Kd.R_drew)); exact HO495.out) hb); have n2_ := Aside0.mk (Kd.S_elder' (by (with_reducible repeat (first | apply Kd.S_alloc | apply Kd.S_drewN | apply Kd.S_drew)); exact HO499.out) (Kd.R_base ho0) hb); have n3_ := Aside0.mk (Kd.R_lower ho0 (below_size (by repeat (first | (with_reducible first | exact HB.out | apply below_alloc | apply pw_below_drewN | apply below_drew1) | exact HB.out)))); have n4_ := Aside0.mk (below_step (by repeat (first | (with_reducible first | exact HB.out | apply below_alloc | apply pw_below_drewN | apply below_drew1) | exact HB.out)) hb); clear HO492; clear HO495; clear HO499; clear HB; have HO492 := n0_; have HO495 := n1_; have HO499 := n2_; have HO502 := n3_; have HB := n4_; clear n0_ n1_ n2_ n3_ n4_; (try clear hb); (try clear hb2); (try clear hk); (try clear hi); (try clear ho0)))
      repeat (go_quiet (first | (go_at_call 9; (with_reducible refine (ratlinelaw10_few.calls k _ _ l0 true _ ?side1 ?side2 A4.out).mono ?_); (case side1 => repeat (first | exact HR0.out | (with_reducible refine Kd.C_alloc ?_ _) | (with_reducible refine Kd.C_drewN ?_ _) | (with_reducible refine Kd.C_drew ?_))); (case side2 => exact HC0.out); rintro e w' ⟨rfl, ⟨nd, rfl⟩⟩; (try first | exact ⟨rfl, _, World.drewN_drewN _ _ _⟩ | exact ⟨rfl, _, Eq.trans (World.drewN_drewN _ _ _) (congrArg (World.drewN _) (Nat.add_assoc _ _ _))⟩)) | (go_at_call 11; (with_reducible refine (graph_Doms.calls k _ _ l0 t490 _ ?side1 ?side2 A6.out).mono ?_); (case side1 => repeat (first | exact HR0.out | (with_reducible refine Kd.C_alloc ?_ _) | (with_reducible refine Kd.C_drewN ?_ _) | (with_reducible refine Kd.C_drew ?_))); (case side2 => exact HC0.out); rintro e w12 ⟨v491, rfl, ho0, hb⟩; have n0_ := Aside0.mk (Kd.R_lower ho0 (below_size (by repeat (first | (with_reducible first | exact HB.out | apply below_alloc | apply pw_below_drewN | apply below_drew1) | exact HB.out)))); have n1_ := Aside0.mk (below_step (by repeat (first | (with_reducible first | exact HB.out | apply below_alloc | apply pw_below_drewN | apply below_drew1) | exact HB.out)) hb); clear HB; have HO492 := n0_; have HB := n1_; clear n0_ n1_; (try clear hb); (try clear hb2); (try clear hk); (try clear hi); (try clear ho0)) | (go_at_call 13; (with_reducible refine (ratlineref10_Doms.calls k _ _ l0 t493 _ ?side1 ?side2 A7.out).mono ?_); (case side1 => repeat (first | exact (Kd.C_below HR0.out HB.out) | (with_reducible refine Kd.C_alloc ?_ _) | (with_reducible refine Kd.C_drewN ?_ _) | (with_reducible refine Kd.C_drew ?_))); (case side2 => exact HC0.out); rintro e w13 ⟨v494, rfl, ho0, hb⟩; have n0_ := Aside0.mk (Kd.R_elder' (by (with_reducible repeat (first | apply Kd.R_alloc | apply Kd.R_drewN | apply Kd.R_drew)); exact HO492.out) (Kd.R_base ho0) hb); have n1_ := Aside0.mk (Kd.R_lower (Kd.R_new' ho0 (Kd.R_lt (by (with_reducible repeat (first | apply Kd.R_alloc | apply Kd.R_drewN | apply Kd.R_drew)); exact HO492.out))) (below_size (by repeat (first | (with_reducible first | exact HB.out | apply below_alloc | apply pw_below_drewN | apply below_drew1) | exact HB.out)))); have n2_ := Aside0.mk (below_step (by repeat (first | (with_reducible first | exact HB.out | apply below_alloc | apply pw_below_drewN | apply below_drew1) | exact HB.out)) hb); clear HO492; clear HB; have HO492 := n0_; have HO495 := n1_; have HB := n2_; clear n0_ n1_ n2_; (try clear hb); (try clear hb2); (try clear hk); (try clear hi); (try clear ho0); obtain ⟨Ao14, co14, eo14⟩ := Kd.R_slice HO492.out; subst eo14; obtain ⟨Ao15, co15, eo15⟩ := Kd.R_slice HO495.out; subst eo15) | (go_at_call 12; (with_reducible refine (ratlineref11_SameInts.calls k _ _ t490 _ _ t493 true _ ?side1 ?side2 ?side3 ?side4 A8.out).mono ?_); (case side1 => repeat (first | exact (Kd.R_reads' HO492.out).2.2 | (with_reducible refine Kd.C_alloc ?_ _) | (with_reducible refine Kd.C_drewN ?_ _) | (with_reducible refine Kd.C_drew ?_))); (case side2 => exact (Kd.R_reads' HO492.out).2.1); (case side3 => repeat (first | exact (Kd.R_reads' HO495.out).2.2 | (with_reducible refine Kd.C_alloc ?_ _) | (with_reducible refine Kd.C_drewN ?_ _) | (with_reducible refine Kd.C_drew ?_))); (case side4 => exact (Kd.R_reads' HO495.out).2.1); rintro e w' ⟨rfl, ⟨nd, rfl⟩⟩; (try first | exact ⟨rfl, _, World.drewN_drewN _ _ _⟩ | exact ⟨rfl, _, Eq.trans (World.drewN_drewN _ _ _) (congrArg (World.drewN _) (Nat.add_assoc _ _ _))⟩)) | (go_at_call 14; (with_reducible refine (ratlineref10_Over.calls k _ _ l0 t497 _ ?side1 ?side2 A10.out).mono ?_); (case side1 => repeat (first | exact (Kd.C_below HR0.out (by repeat (first | (with_reducible first | exact HB.out | apply below_alloc | apply pw_below_drewN | apply below_drew1) | exact HB.out))) | (with_reducible refine Kd.C_alloc ?_ _) | (with_reducible refine Kd.C_drewN ?_ _) | (with_reducible refine Kd.C_drew ?_))); (case side2 => exact HC0.out); rintro e w16 ⟨v498, rfl, ho0, hb⟩; have n0_ := Aside0.mk (Kd.R_below (by (with_reducible repeat (first | apply Kd.R_alloc | apply Kd.R_drewN | apply Kd.R_drew)); exact HO492.out) hb); have n1_ := Aside0.mk (Kd.R_below (by (with_reducible repeat (first | apply Kd.R_alloc | apply Kd.R_drewN | apply Kd.R_drew)); exact HO495.out) hb); have n2_ := Aside0.mk (Kd.S_lower ho0 (below_size (by repeat (first | (with_reducible first | exact HB.out | apply below_alloc | apply pw_below_drewN | apply below_drew1) | exact HB.out)))); have n3_ := Aside0.mk (below_step (by repeat (first | (with_reducible first | exact HB.out | apply below_alloc | apply pw_below_drewN | apply below_drew1) | exact HB.out)) hb); clear HO492; clear HO495; clear HB; have HO492 := n0_; have HO495 := n1_; have HO499 := n2_; have HB := n3_; clear n0_ n1_ n2_ n3_; (try clear hb); (try clear hb2); (try clear hk); (try clear hi); (try clear ho0)) | (go_at_call 15; (with_reducible refine (ratlineref10_Reach.calls k _ _ l0 t500 _ ?side1 ?side2 A11.out).mono ?_); (case side1 => repeat (first | exact (Kd.C_below HR0.out HB.out) | (with_reducible refine Kd.C_alloc ?_ _) | (with_reducible refine Kd.C_drewN ?_ _) | (with_reducible refine Kd.C_drew ?_))); (case side2 => exact HC0.out); rintro e w17 ⟨v501, rfl, ho0, hb⟩; have n0_ := Aside0.mk (Kd.R_below (by (with_reducible repeat (first | apply Kd.R_alloc | apply Kd.R_drewN | apply Kd.R_drew)); exact HO492.out) hb); have n1_ := Aside0.mk (Kd.R_below (by (with_reducible repeat (first | apply Kd.R_alloc | apply Kd.R_drewN | apply Kd.R_drew)); exact HO495.out) hb); have n2_ := Aside0.mk (Kd.S_elder' (by (with_reducible repeat (first | apply Kd.S_alloc | apply Kd.S_drewN | apply Kd.S_drew)); exact HO499.out) (Kd.R_base ho0) hb); have n3_ := Aside0.mk (Kd.R_lower ho0 (below_size (by repeat (first | (with_reducible first | exact HB.out | apply below_alloc | apply pw_below_drewN | apply below_drew1) | exact HB.out)))); have n4_ := Aside0.mk (below_step (by repeat (first | (with_reducible first | exact HB.out | apply below_alloc | apply pw_below_drewN | apply below_drew1) | exact HB.out)) hb); clear HO492; clear HO495; clear HO499; clear HB; have HO492 := n0_; have HO495 := n1_; have HO499 := n2_; have HO502 := n3_; have HB := n4_; clear n0_ n1_ n2_ n3_ n4_; (try clear hb); (try clear hb2); (try clear hk); (try clear hi); (try clear ho0))); try go_wp2_with (first | (go_at_call 9; (with_reducible refine (ratlinelaw10_few.calls k _ _ l0 true _ ?side1 ?side2 A4.out).mono ?_); (case side1 => repeat (first | exact HR0.out | (with_reducible refine Kd.C_alloc ?_ _) | (with_reducible refine Kd.C_drewN ?_ _) | (with_reducible refine Kd.C_drew ?_))); (case side2 => exact HC0.out); rintro e w' ⟨rfl, ⟨nd, rfl⟩⟩; (try first | exact ⟨rfl, _, World.drewN_drewN _ _ _⟩ | exact ⟨rfl, _, Eq.trans (World.drewN_drewN _ _ _) (congrArg (World.drewN _) (Nat.add_assoc _ _ _))⟩)) | (go_at_call 11; (with_reducible refine (graph_Doms.calls k _ _ l0 t490 _ ?side1 ?side2 A6.out).mono ?_); (case side1 => repeat (first | exact HR0.out | (with_reducible refine Kd.C_alloc ?_ _) | (with_reducible refine Kd.C_drewN ?_ _) | (with_reducible refine Kd.C_drew ?_))); (case side2 => exact HC0.out); rintro e w12 ⟨v491, rfl, ho0, hb⟩; have n0_ := Aside0.mk (Kd.R_lower ho0 (below_size (by repeat (first | (with_reducible first | exact HB.out | apply below_alloc | apply pw_below_drewN | apply below_drew1) | exact HB.out)))); have n1_ := Aside0.mk (below_step (by repeat (first | (with_reducible first | exact HB.out | apply below_alloc | apply pw_below_drewN | apply below_drew1) | exact HB.out)) hb); clear HB; have HO492 := n0_; have HB := n1_; clear n0_ n1_; (try clear hb); (try clear hb2); (try clear hk); (try clear hi); (try clear ho0)) | (go_at_call 13; (with_reducible refine (ratlineref10_Doms.calls k _ _ l0 t493 _ ?side1 ?side2 A7.out).mono ?_); (case side1 => repeat (first | exact (Kd.C_below HR0.out HB.out) | (with_reducible refine Kd.C_alloc ?_ _) | (with_reducible refine Kd.C_drewN ?_ _) | (with_reducible refine Kd.C_drew ?_))); (case side2 => exact HC0.out); rintro e w13 ⟨v494, rfl, ho0, hb⟩; have n0_ := Aside0.mk (Kd.R_elder' (by (with_reducible repeat (first | apply Kd.R_alloc | apply Kd.R_drewN | apply Kd.R_drew)); exact HO492.out) (Kd.R_base ho0) hb); have n1_ := Aside0.mk (Kd.R_lower (Kd.R_new' ho0 (Kd.R_lt (by (with_reducible repeat (first | apply Kd.R_alloc | apply Kd.R_drewN | apply Kd.R_drew)); exact HO492.out))) (below_size (by repeat (first | (with_reducible first | exact HB.out | apply below_alloc | apply pw_below_drewN | apply below_drew1) | exact HB.out)))); have n2_ := Aside0.mk (below_step (by repeat (first | (with_reducible first | exact HB.out | apply below_alloc | apply pw_below_drewN | apply below_drew1) | exact HB.out)) hb); clear HO492; clear HB; have HO492 := n0_; have HO495 := n1_; have HB := n2_; clear n0_ n1_ n2_; (try clear hb); (try clear hb2); (try clear hk); (try clear hi); (try clear ho0); obtain ⟨Ao14, co14, eo14⟩ := Kd.R_slice HO492.out; subst eo14; obtain ⟨Ao15, co15, eo15⟩ := Kd.R_slice HO495.out; subst eo15) | (go_at_call 12; (with_reducible refine (ratlineref11_SameInts.calls k _ _ t490 _ _ t493 true _ ?side1 ?side2 ?side3 ?side4 A8.out).mono ?_); (case side1 => repeat (first | exact (Kd.R_reads' HO492.out).2.2 | (with_reducible refine Kd.C_alloc ?_ _) | (with_reducible refine Kd.C_drewN ?_ _) | (with_reducible refine Kd.C_drew ?_))); (case side2 => exact (Kd.R_reads' HO492.out).2.1); (case side3 => repeat (first | exact (Kd.R_reads' HO495.out).2.2 | (with_reducible refine Kd.C_alloc ?_ _) | (with_reducible refine Kd.C_drewN ?_ _) | (with_reducible refine Kd.C_drew ?_))); (case side4 => exact (Kd.R_reads' HO495.out).2.1); rintro e w' ⟨rfl, ⟨nd, rfl⟩⟩; (try first | exact ⟨rfl, _, World.drewN_drewN _ _ _⟩ | exact ⟨rfl, _, Eq.trans (World.drewN_drewN _ _ _) (congrArg (World.drewN _) (Nat.add_assoc _ _ _))⟩)) | (go_at_call 14; (with_reducible refine (ratlineref10_Over.calls k _ _ l0 t497 _ ?side1 ?side2 A10.out).mono ?_); (case side1 => repeat (first | exact (Kd.C_below HR0.out (by repeat (first | (with_reducible first | exact HB.out | apply below_alloc | apply pw_below_drewN | apply below_drew1) | exact HB.out))) | (with_reducible refine Kd.C_alloc ?_ _) | (with_reducible refine Kd.C_drewN ?_ _) | (with_reducible refine Kd.C_drew ?_))); (case side2 => exact HC0.out); rintro e w16 ⟨v498, rfl, ho0, hb⟩; have n0_ := Aside0.mk (Kd.R_below (by (with_reducible repeat (first | apply Kd.R_alloc | apply Kd.R_drewN | apply Kd.R_drew)); exact HO492.out) hb); have n1_ := Aside0.mk (Kd.R_below (by (with_reducible repeat (first | apply Kd.R_alloc | apply Kd.R_drewN | apply Kd.R_drew)); exact HO495.out) hb); have n2_ := Aside0.mk (Kd.S_lower ho0 (below_size (by repeat (first | (with_reducible first | exact HB.out | apply below_alloc | apply pw_below_drewN | apply below_drew1) | exact HB.out)))); have n3_ := Aside0.mk (below_step (by repeat (first | (with_reducible first | exact HB.out | apply below_alloc | apply pw_below_drewN | apply below_drew1) | exact HB.out)) hb); clear HO492; clear HO495; clear HB; have HO492 := n0_; have HO495 := n1_; have HO499 := n2_; have HB := n3_; clear n0_ n1_ n2_ n3_; (try clear hb); (try clear hb2); (try clear hk); (try clear hi); (try clear ho0)) | (go_at_call 15; (with_reducible refine (ratlineref10_Reach.calls k _ _ l0 t500 _ ?side1 ?side2 A11.out).mono ?_); (case side1 => repeat (first | exact (Kd.C_below HR0.out HB.out) | (with_reducible refine Kd.C_alloc ?_ _) | (with_reducible refine Kd.C_drewN ?_ _) | (with_reducible refine Kd.C_drew ?_))); (case side2 => exact HC0.out); rintro e w17 ⟨v501, rfl, ho0, hb⟩; have n0_ := Aside0.mk (Kd.R_below (by (with_reducible repeat (first | apply Kd.R_alloc | apply Kd.R_drewN | apply Kd.R_drew)); exact HO492.out) hb); have n1_ := Aside0.mk (Kd.R_below (by (with_reducible repeat (first | apply Kd.R_alloc | apply Kd.R_drewN | apply Kd.R_drew)); exact HO495.out) hb); have n2_ := Aside0.mk (Kd.S_elder' (by (with_reducible repeat (first | apply Kd.S_alloc | apply Kd.S_drewN | apply Kd.S_drew)); exact HO499.out) (Kd.R_base ho0) hb); have n3_ := Aside0.mk (Kd.R_lower ho0 (below_size (by repeat (first | (with_reducible first | exact HB.out | apply below_alloc | apply pw_below_drewN | apply below_drew1) | exact HB.out)))); have n4_ := Aside0.mk (below_step (by repeat (first | (with_reducible first | exact HB.out | apply below_alloc | apply pw_below_drewN | apply below_drew1) | exact HB.out)) hb); clear HO492; clear HO495; clear HO499; clear HB; have HO492 := n0_; have HO495 := n1_; have HO499 := n2_; have HO502 := n3_; have HB := n4_; clear n0_ n1_ n2_ n3_ n4_; (try clear hb); (try clear hb2); (try clear hk); (try clear hi); (try clear ho0))))
      go_loopg [10] k (fun kq v10 w' => ∃ (x10_1 : Int), v10 = .int .i64 x10_1 ∧ Aside0 (ratlinelaw10_GraphDoms.l0 kq l0 a1 a2 t490 t497 t500 x10_1 = some r) ∧ Aside0 (kq ≤ k) ∧ Aside0 (Kd.R (Kd.int .i64) 3 w' w.heap.size (fun _ => True) (.slice Ao14 t490.length co14) t490) ∧ Aside0 (Kd.S (Kd.slice 4 Kd.bool) 30 w' w.heap.size (fun k_ => some k_ ≠ (v501 : Value).ownBlock) v498 t497) ∧ Aside0 (Kd.R Kd.bool 4 w' w.heap.size (fun _ => True) v501 t500) ∧ Aside0 (Below w.heap.size w w'))
      case atStart => exact ⟨(0), (by first | rfl | (simp; done) | (simp [*]; done)), H', ⟨Nat.le_refl _⟩, ⟨by (with_reducible repeat (first | apply Kd.R_alloc | apply Kd.R_drewN | apply Kd.R_drew)); exact Kd.R_mono HO492.out (fun _ hk => trivial)⟩, ⟨by (with_reducible repeat (first | apply Kd.S_alloc | apply Kd.S_drewN | apply Kd.S_drew)); exact Kd.S_mono HO499.out (fun _ hk => hk.2)⟩, ⟨by (with_reducible repeat (first | apply Kd.R_alloc | apply Kd.R_drewN | apply Kd.R_drew)); exact HO502.out⟩, ⟨by repeat (first | (with_reducible first | exact HB.out | apply below_alloc | apply pw_below_drewN | apply below_drew1) | exact HB.out)⟩⟩
      case round =>
        clear H'
        try clear p2
        try clear c3
        try clear c5
        try clear c9
        obtain ⟨x10_1, rfl, HA, HK1, HO_7, HO_8, HO_9, HB⟩ := hrel
        cases gk with
        | zero => exact absurd HA.out (by simp [ratlinelaw10_GraphDoms.l0])
        | succ k1 =>
          have H := HA.out
          clear HA
          simp only [ratlinelaw10_GraphDoms.l0] at H
          by_cases c18 : x10_1 < (l0.length : Int)
          · rw [if_pos c18] at H
            have c18b0 : decide (x10_1 < (l0.length : Int)) = true := decide_eq_true c18
            clear c18
            have H' := Aside0.mk H
            clear H
            go_wp2
            repeat (go_quiet (fail); try go_wp2)
            go_loopg [11] k1 (fun kq v11 w' => ∃ (x11_2 : Int), v11 = .int .i64 x11_2 ∧ Aside0 (ratlinelaw10_GraphDoms.l1 kq l0 a1 a2 t490 t497 t500 x10_1 x11_2 = some r) ∧ Aside0 (kq ≤ k1) ∧ Aside0 (Kd.R (Kd.int .i64) 3 w' w.heap.size (fun _ => True) (.slice Ao14 t490.length co14) t490) ∧ Aside0 (Kd.S (Kd.slice 4 Kd.bool) 30 w' w.heap.size (fun k_ => some k_ ≠ (v501 : Value).ownBlock) v498 t497) ∧ Aside0 (Kd.R Kd.bool 4 w' w.heap.size (fun _ => True) v501 t500) ∧ Aside0 (Below w.heap.size w w'))
            case atStart => exact ⟨(0), (by first | rfl | (simp; done) | (simp [*]; done)), H', ⟨Nat.le_refl _⟩, ⟨by (with_reducible repeat (first | apply Kd.R_alloc | apply Kd.R_drewN | apply Kd.R_drew)); exact HO_7.out⟩, ⟨by (with_reducible repeat (first | apply Kd.S_alloc | apply Kd.S_drewN | apply Kd.S_drew)); exact HO_8.out⟩, ⟨by (with_reducible repeat (first | apply Kd.R_alloc | apply Kd.R_drewN | apply Kd.R_drew)); exact HO_9.out⟩, ⟨by repeat (first | (with_reducible first | exact HB.out | apply below_alloc | apply pw_below_drewN | apply below_drew1) | exact HB.out)⟩⟩
            case round =>
              clear H'
              try clear c1
              try clear p2
              try clear c3
              try clear c5
              try clear c9
              try clear c18
              try clear c18b0
              try clear p2
              obtain ⟨x11_2, rfl, HA, HK2, HO_7, HO_8, HO_9, HB⟩ := hrel
              cases gk with
              | zero => exact absurd HA.out (by simp [ratlinelaw10_GraphDoms.l1])
              | succ k2 =>
                have H := HA.out
                clear HA
                simp only [ratlinelaw10_GraphDoms.l1] at H
                by_cases c19 : x11_2 < (l0.length : Int)
                · rw [if_pos c19] at H
                  have c19b0 : decide (x11_2 < (l0.length : Int)) = true := decide_eq_true c19
                  clear c19
                  by_cases c20 : 0 ≤ x10_1
                  · rw [if_pos c20] at H
                    have c20b0 : decide (0 ≤ x10_1) = true := decide_eq_true c20
                    clear c20
                    by_cases c21 : x10_1 < (t500.length : Int)
                    · rw [if_pos c21] at H
                      have c21b0 : decide (x10_1 < (t500.length : Int)) = true := decide_eq_true c21
                      clear c21
                      obtain ⟨bq22, hbq22⟩ : ∃ b_ : Bool, b_ = (rdOf false t500 x10_1) := ⟨_, rfl⟩
                      replace H : (if bq22 = true then (if 0 ≤ x11_2 then (if x11_2 < (t500.length : Int) then (if rdOf false t500 x11_2 = true then ((graph_Dominates.f k2 t490 x10_1 x11_2).bind fun t505 => (if x10_1 < (t497.length : Int) then (if x11_2 < ((rd_L5 t497 x10_1).length : Int) then (if (t505 != (rdOf false (rd_L5 t497 x10_1) x11_2)) = true then (some false) else (ratlinelaw10_GraphDoms.l1 k2 l0 a1 a2 t490 t497 t500 x10_1 (wrap64 (x11_2 + 1)))) else (none)) else (none))) else (ratlinelaw10_GraphDoms.l1 k2 l0 a1 a2 t490 t497 t500 x10_1 (wrap64 (x11_2 + 1)))) else (none)) else (none)) else (ratlinelaw10_GraphDoms.l1 k2 l0 a1 a2 t490 t497 t500 x10_1 (wrap64 (x11_2 + 1)))) = some r := by rw [← hbq22] at H; exact H
                      have Nbq22 := Aside0.mk hbq22
                      clear hbq22
                      by_cases c23 : bq22 = true
                      · subst c23
                        have H1 : (if 0 ≤ x11_2 then (if x11_2 < (t500.length : Int) then (if rdOf false t500 x11_2 = true then ((graph_Dominates.f k2 t490 x10_1 x11_2).bind fun t505 => (if x10_1 < (t497.length : Int) then (if x11_2 < ((rd_L5 t497 x10_1).length : Int) then (if (t505 != (rdOf false (rd_L5 t497 x10_1) x11_2)) = true then (some false) else (ratlinelaw10_GraphDoms.l1 k2 l0 a1 a2 t490 t497 t500 x10_1 (wrap64 (x11_2 + 1)))) else (none)) else (none))) else (ratlinelaw10_GraphDoms.l1 k2 l0 a1 a2 t490 t497 t500 x10_1 (wrap64 (x11_2 + 1)))) else (none)) else (none)) = some r := by rw [if_pos rfl] at H; exact H
                        clear H
                        have H := H1
                        clear H1
                        by_cases c24 : 0 ≤ x11_2
                        · rw [if_pos c24] at H
                          have c24b0 : decide (0 ≤ x11_2) = true := decide_eq_true c24
                          clear c24
                          by_cases c25 : x11_2 < (t500.length : Int)
                          · rw [if_pos c25] at H
                            have c25b0 : decide (x11_2 < (t500.length : Int)) = true := decide_eq_true c25
                            clear c25
                            obtain ⟨bq26, hbq26⟩ : ∃ b_ : Bool, b_ = (rdOf false t500 x11_2) := ⟨_, rfl⟩
                            replace H : (if bq26 = true then ((graph_Dominates.f k2 t490 x10_1 x11_2).bind fun t505 => (if x10_1 < (t497.length : Int) then (if x11_2 < ((rd_L5 t497 x10_1).length : Int) then (if (t505 != (rdOf false (rd_L5 t497 x10_1) x11_2)) = true then (some false) else (ratlinelaw10_GraphDoms.l1 k2 l0 a1 a2 t490 t497 t500 x10_1 (wrap64 (x11_2 + 1)))) else (none)) else (none))) else (ratlinelaw10_GraphDoms.l1 k2 l0 a1 a2 t490 t497 t500 x10_1 (wrap64 (x11_2 + 1)))) = some r := by rw [← hbq26] at H; exact H
                            have Nbq26 := Aside0.mk hbq26
                            clear hbq26
                            by_cases c27 : bq26 = true
                            · subst c27
                              have H1 : ((graph_Dominates.f k2 t490 x10_1 x11_2).bind fun t505 => (if x10_1 < (t497.length : Int) then (if x11_2 < ((rd_L5 t497 x10_1).length : Int) then (if (t505 != (rdOf false (rd_L5 t497 x10_1) x11_2)) = true then (some false) else (ratlinelaw10_GraphDoms.l1 k2 l0 a1 a2 t490 t497 t500 x10_1 (wrap64 (x11_2 + 1)))) else (none)) else (none))) = some r := by rw [if_pos rfl] at H; exact H
                              clear H
                              have H := H1
                              clear H1
                              replace H := Option.bind_eq_some_iff.mp H
                              obtain ⟨t505, A280, H⟩ := H
                              replace H : (if x10_1 < (t497.length : Int) then (if x11_2 < ((rd_L5 t497 x10_1).length : Int) then (if (t505 != (rdOf false (rd_L5 t497 x10_1) x11_2)) = true then (some false) else (ratlinelaw10_GraphDoms.l1 k2 l0 a1 a2 t490 t497 t500 x10_1 (wrap64 (x11_2 + 1)))) else (none)) else (none)) = some r := H
                              have A28 := Aside0.mk A280
                              clear A280
                              by_cases c29 : x10_1 < (t497.length : Int)
                              · rw [if_pos c29] at H
                                have c29b0 : decide (x10_1 < (t497.length : Int)) = true := decide_eq_true c29
                                clear c29
                                by_cases c30 : x11_2 < ((rd_L5 t497 x10_1).length : Int)
                                · rw [if_pos c30] at H
                                  have c30b0 : decide (x11_2 < ((rd_L5 t497 x10_1).length : Int)) = true := decide_eq_true c30
                                  clear c30
                                  by_cases c31 : (t505 != (rdOf false (rd_L5 t497 x10_1) x11_2)) = true
                                  · rw [if_pos c31] at H
                                    have c31b0 : (t505 != (rdOf false (rd_L5 t497 x10_1) x11_2)) = true := c31
                                    (try (have c31b1 : decide (t505 = (rdOf false (rd_L5 t497 x10_1) x11_2)) = false := by simpa using c31))
                                    (try (have c31b2 : (t505 == (rdOf false (rd_L5 t497 x10_1) x11_2)) = false := by simpa using c31))
                                    (try (have c31b3 : ¬ (t505 = (rdOf false (rd_L5 t497 x10_1) x11_2)) := by simpa using c31))
                                    clear c31
                                    obtain rfl := Option.some.inj H
                                    obtain ⟨Ao32, co32, eo32⟩ := Kd.R_slice HO_9.out
                                    subst eo32
                                    have p503 : 0 ≤ (x10_1 : Int) := of_decide_eq_true (by first | (with_reducible assumption) | assumption)
                                    have q503 : x10_1 < (t500.length : Int) := of_decide_eq_true (by first | (with_reducible assumption) | assumption)
                                    obtain ⟨ad503, e503, hx503_0⟩ := Kd.at_bool (Kd.R_reads' HO_9.out).2.2 x10_1 p503 q503
                                    (try rw [← Nbq22.out] at hx503_0)
                                    (try rw [← Nbq26.out] at hx503_0)
                                    cases e503
                                    replace p503 := eq_true p503
                                    replace q503 := eq_true q503
                                    have p504 : 0 ≤ (x11_2 : Int) := of_decide_eq_true (by first | (with_reducible assumption) | assumption)
                                    have q504 : x11_2 < (t500.length : Int) := of_decide_eq_true (by first | (with_reducible assumption) | assumption)
                                    obtain ⟨ad504, e504, hx504_0⟩ := Kd.at_bool (Kd.R_reads' HO_9.out).2.2 x11_2 p504 q504
                                    (try rw [← Nbq22.out] at hx504_0)
                                    (try rw [← Nbq26.out] at hx504_0)
                                    obtain rfl : ad503 = ad504 := (by injection e504)
                                    replace p504 := eq_true p504
                                    replace q504 := eq_true q504
                                    go_wp2_with (first | (go_at_call 16; (with_reducible refine (graph_Dominates.calls k2 _ _ t490 x10_1 x11_2 t505 _ ?side1 ?side2 A28.out).mono ?_); (case side1 => repeat (first | exact (Kd.R_reads' HO_7.out).2.2 | (with_reducible refine Kd.C_alloc ?_ _) | (with_reducible refine Kd.C_drewN ?_ _) | (with_reducible refine Kd.C_drew ?_))); (case side2 => exact (Kd.R_reads' HO_7.out).2.1); rintro e w' ⟨rfl, ⟨nd, rfl⟩⟩; (try first | exact ⟨rfl, _, World.drewN_drewN _ _ _⟩ | exact ⟨rfl, _, Eq.trans (World.drewN_drewN _ _ _) (congrArg (World.drewN _) (Nat.add_assoc _ _ _))⟩); obtain ⟨Ao33, co33, eo33⟩ := Kd.S_slice HO_8.out; subst eo33; have p506 : 0 ≤ (x10_1 : Int) := of_decide_eq_true (by first | (with_reducible assumption) | assumption); have q506 : x10_1 < (t497.length : Int) := of_decide_eq_true (by first | (with_reducible assumption) | assumption); obtain ⟨ad506, A506_0, c506_0, e506, hx506_0, hl506_0, hi506_0⟩ := at_L5 (Kd.S_reads' HO_8.out).2.2 x10_1 p506 q506; cases e506; obtain ⟨ce506, hce506, hMe506, hcc506⟩ := Kd.S_get HO_8.out [] x10_1 p506 (by first | exact q506 | exact of_decide_eq_true (by first | (with_reducible assumption) | assumption) | (have e_ := (Kd.S_reads' HO_8.out).1; omega)); obtain ⟨ve506_0, rfl, ge506_0⟩ := hMe506; have hv506_0 := hcc506 0 _ rfl; rw [Nat.add_zero, show ((Kd.slice 4 Kd.bool)).sz = 1 from rfl, Nat.mul_one] at hv506_0; replace hv506_0 := Option.some.inj (hv506_0.symm.trans hx506_0); rw [hv506_0] at ge506_0; have HL506_0 := Aside0.mk (show Kd.R Kd.bool 4 _ _ _ _ (rd_L5 t497 x10_1) from ge506_0); clear hv506_0 ge506_0; clear hcc506 hce506; have HR506_0 := Aside0.mk hi506_0; have HC506_0 := Aside0.mk hl506_0; clear hi506_0 hl506_0; replace p506 := eq_true p506; replace q506 := eq_true q506; have p507 : 0 ≤ (x11_2 : Int) := of_decide_eq_true (by first | (with_reducible assumption) | assumption); have q507 : x11_2 < ((rd_L5 t497 x10_1).length : Int) := of_decide_eq_true (by first | (with_reducible assumption) | assumption); obtain ⟨ad507, e507, hx507_0⟩ := Kd.at_bool (by repeat (first | (with_reducible exact HR506_0.out) | (with_reducible refine Kd.C_alloc ?_ _) | (with_reducible refine Kd.C_drewN ?_ _) | (with_reducible refine Kd.C_drew ?_) | exact HR506_0.out)) x11_2 p507 q507; (try rw [← Nbq22.out] at hx507_0); (try rw [← Nbq26.out] at hx507_0); cases e507; replace p507 := eq_true p507; replace q507 := eq_true q507))
                                    repeat (go_quiet (first | (go_at_call 16; (with_reducible refine (graph_Dominates.calls k2 _ _ t490 x10_1 x11_2 t505 _ ?side1 ?side2 A28.out).mono ?_); (case side1 => repeat (first | exact (Kd.R_reads' HO_7.out).2.2 | (with_reducible refine Kd.C_alloc ?_ _) | (with_reducible refine Kd.C_drewN ?_ _) | (with_reducible refine Kd.C_drew ?_))); (case side2 => exact (Kd.R_reads' HO_7.out).2.1); rintro e w' ⟨rfl, ⟨nd, rfl⟩⟩; (try first | exact ⟨rfl, _, World.drewN_drewN _ _ _⟩ | exact ⟨rfl, _, Eq.trans (World.drewN_drewN _ _ _) (congrArg (World.drewN _) (Nat.add_assoc _ _ _))⟩); obtain ⟨Ao33, co33, eo33⟩ := Kd.S_slice HO_8.out; subst eo33; have p506 : 0 ≤ (x10_1 : Int) := of_decide_eq_true (by first | (with_reducible assumption) | assumption); have q506 : x10_1 < (t497.length : Int) := of_decide_eq_true (by first | (with_reducible assumption) | assumption); obtain ⟨ad506, A506_0, c506_0, e506, hx506_0, hl506_0, hi506_0⟩ := at_L5 (Kd.S_reads' HO_8.out).2.2 x10_1 p506 q506; cases e506; obtain ⟨ce506, hce506, hMe506, hcc506⟩ := Kd.S_get HO_8.out [] x10_1 p506 (by first | exact q506 | exact of_decide_eq_true (by first | (with_reducible assumption) | assumption) | (have e_ := (Kd.S_reads' HO_8.out).1; omega)); obtain ⟨ve506_0, rfl, ge506_0⟩ := hMe506; have hv506_0 := hcc506 0 _ rfl; rw [Nat.add_zero, show ((Kd.slice 4 Kd.bool)).sz = 1 from rfl, Nat.mul_one] at hv506_0; replace hv506_0 := Option.some.inj (hv506_0.symm.trans hx506_0); rw [hv506_0] at ge506_0; have HL506_0 := Aside0.mk (show Kd.R Kd.bool 4 _ _ _ _ (rd_L5 t497 x10_1) from ge506_0); clear hv506_0 ge506_0; clear hcc506 hce506; have HR506_0 := Aside0.mk hi506_0; have HC506_0 := Aside0.mk hl506_0; clear hi506_0 hl506_0; replace p506 := eq_true p506; replace q506 := eq_true q506; have p507 : 0 ≤ (x11_2 : Int) := of_decide_eq_true (by first | (with_reducible assumption) | assumption); have q507 : x11_2 < ((rd_L5 t497 x10_1).length : Int) := of_decide_eq_true (by first | (with_reducible assumption) | assumption); obtain ⟨ad507, e507, hx507_0⟩ := Kd.at_bool (by repeat (first | (with_reducible exact HR506_0.out) | (with_reducible refine Kd.C_alloc ?_ _) | (with_reducible refine Kd.C_drewN ?_ _) | (with_reducible refine Kd.C_drew ?_) | exact HR506_0.out)) x11_2 p507 q507; (try rw [← Nbq22.out] at hx507_0); (try rw [← Nbq26.out] at hx507_0); cases e507; replace p507 := eq_true p507; replace q507 := eq_true q507)); try go_wp2_with (first | (go_at_call 16; (with_reducible refine (graph_Dominates.calls k2 _ _ t490 x10_1 x11_2 t505 _ ?side1 ?side2 A28.out).mono ?_); (case side1 => repeat (first | exact (Kd.R_reads' HO_7.out).2.2 | (with_reducible refine Kd.C_alloc ?_ _) | (with_reducible refine Kd.C_drewN ?_ _) | (with_reducible refine Kd.C_drew ?_))); (case side2 => exact (Kd.R_reads' HO_7.out).2.1); rintro e w' ⟨rfl, ⟨nd, rfl⟩⟩; (try first | exact ⟨rfl, _, World.drewN_drewN _ _ _⟩ | exact ⟨rfl, _, Eq.trans (World.drewN_drewN _ _ _) (congrArg (World.drewN _) (Nat.add_assoc _ _ _))⟩); obtain ⟨Ao33, co33, eo33⟩ := Kd.S_slice HO_8.out; subst eo33; have p506 : 0 ≤ (x10_1 : Int) := of_decide_eq_true (by first | (with_reducible assumption) | assumption); have q506 : x10_1 < (t497.length : Int) := of_decide_eq_true (by first | (with_reducible assumption) | assumption); obtain ⟨ad506, A506_0, c506_0, e506, hx506_0, hl506_0, hi506_0⟩ := at_L5 (Kd.S_reads' HO_8.out).2.2 x10_1 p506 q506; cases e506; obtain ⟨ce506, hce506, hMe506, hcc506⟩ := Kd.S_get HO_8.out [] x10_1 p506 (by first | exact q506 | exact of_decide_eq_true (by first | (with_reducible assumption) | assumption) | (have e_ := (Kd.S_reads' HO_8.out).1; omega)); obtain ⟨ve506_0, rfl, ge506_0⟩ := hMe506; have hv506_0 := hcc506 0 _ rfl; rw [Nat.add_zero, show ((Kd.slice 4 Kd.bool)).sz = 1 from rfl, Nat.mul_one] at hv506_0; replace hv506_0 := Option.some.inj (hv506_0.symm.trans hx506_0); rw [hv506_0] at ge506_0; have HL506_0 := Aside0.mk (show Kd.R Kd.bool 4 _ _ _ _ (rd_L5 t497 x10_1) from ge506_0); clear hv506_0 ge506_0; clear hcc506 hce506; have HR506_0 := Aside0.mk hi506_0; have HC506_0 := Aside0.mk hl506_0; clear hi506_0 hl506_0; replace p506 := eq_true p506; replace q506 := eq_true q506; have p507 : 0 ≤ (x11_2 : Int) := of_decide_eq_true (by first | (with_reducible assumption) | assumption); have q507 : x11_2 < ((rd_L5 t497 x10_1).length : Int) := of_decide_eq_true (by first | (with_reducible assumption) | assumption); obtain ⟨ad507, e507, hx507_0⟩ := Kd.at_bool (by repeat (first | (with_reducible exact HR506_0.out) | (with_reducible refine Kd.C_alloc ?_ _) | (with_reducible refine Kd.C_drewN ?_ _) | (with_reducible refine Kd.C_drew ?_) | exact HR506_0.out)) x11_2 p507 q507; (try rw [← Nbq22.out] at hx507_0); (try rw [← Nbq26.out] at hx507_0); cases e507; replace p507 := eq_true p507; replace q507 := eq_true q507)))
                                    go_ret
                                    exact ⟨by first | rfl | (simp [errW_none, errW_some] <;> rfl) | (simp [*, errW_none, errW_some] <;> rfl), by repeat (first | (with_reducible first | exact HB.out | apply below_alloc | apply pw_below_drewN | apply below_drew1) | exact HB.out)⟩
                                  · rw [if_neg c31] at H
                                    have c31b0 : (t505 != (rdOf false (rd_L5 t497 x10_1) x11_2)) = false := by simpa using c31
                                    (try (have c31b1 : decide (t505 = (rdOf false (rd_L5 t497 x10_1) x11_2)) = true := by simpa using c31))
                                    (try (have c31b2 : (t505 == (rdOf false (rd_L5 t497 x10_1) x11_2)) = true := by simpa using c31))
                                    clear c31
                                    have H' := Aside0.mk H
                                    clear H
                                    obtain ⟨Ao34, co34, eo34⟩ := Kd.R_slice HO_9.out
                                    subst eo34
                                    have p503 : 0 ≤ (x10_1 : Int) := of_decide_eq_true (by first | (with_reducible assumption) | assumption)
                                    have q503 : x10_1 < (t500.length : Int) := of_decide_eq_true (by first | (with_reducible assumption) | assumption)
                                    obtain ⟨ad503, e503, hx503_0⟩ := Kd.at_bool (Kd.R_reads' HO_9.out).2.2 x10_1 p503 q503
                                    (try rw [← Nbq22.out] at hx503_0)
                                    (try rw [← Nbq26.out] at hx503_0)
                                    cases e503
                                    replace p503 := eq_true p503
                                    replace q503 := eq_true q503
                                    have p504 : 0 ≤ (x11_2 : Int) := of_decide_eq_true (by first | (with_reducible assumption) | assumption)
                                    have q504 : x11_2 < (t500.length : Int) := of_decide_eq_true (by first | (with_reducible assumption) | assumption)
                                    obtain ⟨ad504, e504, hx504_0⟩ := Kd.at_bool (Kd.R_reads' HO_9.out).2.2 x11_2 p504 q504
                                    (try rw [← Nbq22.out] at hx504_0)
                                    (try rw [← Nbq26.out] at hx504_0)
                                    obtain rfl : ad503 = ad504 := (by injection e504)
                                    replace p504 := eq_true p504
                                    replace q504 := eq_true q504
                                    go_wp2_with (first | (go_at_call 16; (with_reducible refine (graph_Dominates.calls k2 _ _ t490 x10_1 x11_2 t505 _ ?side1 ?side2 A28.out).mono ?_); (case side1 => repeat (first | exact (Kd.R_reads' HO_7.out).2.2 | (with_reducible refine Kd.C_alloc ?_ _) | (with_reducible refine Kd.C_drewN ?_ _) | (with_reducible refine Kd.C_drew ?_))); (case side2 => exact (Kd.R_reads' HO_7.out).2.1); rintro e w' ⟨rfl, ⟨nd, rfl⟩⟩; (try first | exact ⟨rfl, _, World.drewN_drewN _ _ _⟩ | exact ⟨rfl, _, Eq.trans (World.drewN_drewN _ _ _) (congrArg (World.drewN _) (Nat.add_assoc _ _ _))⟩); obtain ⟨Ao35, co35, eo35⟩ := Kd.S_slice HO_8.out; subst eo35; have p506 : 0 ≤ (x10_1 : Int) := of_decide_eq_true (by first | (with_reducible assumption) | assumption); have q506 : x10_1 < (t497.length : Int) := of_decide_eq_true (by first | (with_reducible assumption) | assumption); obtain ⟨ad506, A506_0, c506_0, e506, hx506_0, hl506_0, hi506_0⟩ := at_L5 (Kd.S_reads' HO_8.out).2.2 x10_1 p506 q506; cases e506; obtain ⟨ce506, hce506, hMe506, hcc506⟩ := Kd.S_get HO_8.out [] x10_1 p506 (by first | exact q506 | exact of_decide_eq_true (by first | (with_reducible assumption) | assumption) | (have e_ := (Kd.S_reads' HO_8.out).1; omega)); obtain ⟨ve506_0, rfl, ge506_0⟩ := hMe506; have hv506_0 := hcc506 0 _ rfl; rw [Nat.add_zero, show ((Kd.slice 4 Kd.bool)).sz = 1 from rfl, Nat.mul_one] at hv506_0; replace hv506_0 := Option.some.inj (hv506_0.symm.trans hx506_0); rw [hv506_0] at ge506_0; have HL506_0 := Aside0.mk (show Kd.R Kd.bool 4 _ _ _ _ (rd_L5 t497 x10_1) from ge506_0); clear hv506_0 ge506_0; clear hcc506 hce506; have HR506_0 := Aside0.mk hi506_0; have HC506_0 := Aside0.mk hl506_0; clear hi506_0 hl506_0; replace p506 := eq_true p506; replace q506 := eq_true q506; have p507 : 0 ≤ (x11_2 : Int) := of_decide_eq_true (by first | (with_reducible assumption) | assumption); have q507 : x11_2 < ((rd_L5 t497 x10_1).length : Int) := of_decide_eq_true (by first | (with_reducible assumption) | assumption); obtain ⟨ad507, e507, hx507_0⟩ := Kd.at_bool (by repeat (first | (with_reducible exact HR506_0.out) | (with_reducible refine Kd.C_alloc ?_ _) | (with_reducible refine Kd.C_drewN ?_ _) | (with_reducible refine Kd.C_drew ?_) | exact HR506_0.out)) x11_2 p507 q507; (try rw [← Nbq22.out] at hx507_0); (try rw [← Nbq26.out] at hx507_0); cases e507; replace p507 := eq_true p507; replace q507 := eq_true q507))
                                    repeat (go_quiet (first | (go_at_call 16; (with_reducible refine (graph_Dominates.calls k2 _ _ t490 x10_1 x11_2 t505 _ ?side1 ?side2 A28.out).mono ?_); (case side1 => repeat (first | exact (Kd.R_reads' HO_7.out).2.2 | (with_reducible refine Kd.C_alloc ?_ _) | (with_reducible refine Kd.C_drewN ?_ _) | (with_reducible refine Kd.C_drew ?_))); (case side2 => exact (Kd.R_reads' HO_7.out).2.1); rintro e w' ⟨rfl, ⟨nd, rfl⟩⟩; (try first | exact ⟨rfl, _, World.drewN_drewN _ _ _⟩ | exact ⟨rfl, _, Eq.trans (World.drewN_drewN _ _ _) (congrArg (World.drewN _) (Nat.add_assoc _ _ _))⟩); obtain ⟨Ao35, co35, eo35⟩ := Kd.S_slice HO_8.out; subst eo35; have p506 : 0 ≤ (x10_1 : Int) := of_decide_eq_true (by first | (with_reducible assumption) | assumption); have q506 : x10_1 < (t497.length : Int) := of_decide_eq_true (by first | (with_reducible assumption) | assumption); obtain ⟨ad506, A506_0, c506_0, e506, hx506_0, hl506_0, hi506_0⟩ := at_L5 (Kd.S_reads' HO_8.out).2.2 x10_1 p506 q506; cases e506; obtain ⟨ce506, hce506, hMe506, hcc506⟩ := Kd.S_get HO_8.out [] x10_1 p506 (by first | exact q506 | exact of_decide_eq_true (by first | (with_reducible assumption) | assumption) | (have e_ := (Kd.S_reads' HO_8.out).1; omega)); obtain ⟨ve506_0, rfl, ge506_0⟩ := hMe506; have hv506_0 := hcc506 0 _ rfl; rw [Nat.add_zero, show ((Kd.slice 4 Kd.bool)).sz = 1 from rfl, Nat.mul_one] at hv506_0; replace hv506_0 := Option.some.inj (hv506_0.symm.trans hx506_0); rw [hv506_0] at ge506_0; have HL506_0 := Aside0.mk (show Kd.R Kd.bool 4 _ _ _ _ (rd_L5 t497 x10_1) from ge506_0); clear hv506_0 ge506_0; clear hcc506 hce506; have HR506_0 := Aside0.mk hi506_0; have HC506_0 := Aside0.mk hl506_0; clear hi506_0 hl506_0; replace p506 := eq_true p506; replace q506 := eq_true q506; have p507 : 0 ≤ (x11_2 : Int) := of_decide_eq_true (by first | (with_reducible assumption) | assumption); have q507 : x11_2 < ((rd_L5 t497 x10_1).length : Int) := of_decide_eq_true (by first | (with_reducible assumption) | assumption); obtain ⟨ad507, e507, hx507_0⟩ := Kd.at_bool (by repeat (first | (with_reducible exact HR506_0.out) | (with_reducible refine Kd.C_alloc ?_ _) | (with_reducible refine Kd.C_drewN ?_ _) | (with_reducible refine Kd.C_drew ?_) | exact HR506_0.out)) x11_2 p507 q507; (try rw [← Nbq22.out] at hx507_0); (try rw [← Nbq26.out] at hx507_0); cases e507; replace p507 := eq_true p507; replace q507 := eq_true q507)); try go_wp2_with (first | (go_at_call 16; (with_reducible refine (graph_Dominates.calls k2 _ _ t490 x10_1 x11_2 t505 _ ?side1 ?side2 A28.out).mono ?_); (case side1 => repeat (first | exact (Kd.R_reads' HO_7.out).2.2 | (with_reducible refine Kd.C_alloc ?_ _) | (with_reducible refine Kd.C_drewN ?_ _) | (with_reducible refine Kd.C_drew ?_))); (case side2 => exact (Kd.R_reads' HO_7.out).2.1); rintro e w' ⟨rfl, ⟨nd, rfl⟩⟩; (try first | exact ⟨rfl, _, World.drewN_drewN _ _ _⟩ | exact ⟨rfl, _, Eq.trans (World.drewN_drewN _ _ _) (congrArg (World.drewN _) (Nat.add_assoc _ _ _))⟩); obtain ⟨Ao35, co35, eo35⟩ := Kd.S_slice HO_8.out; subst eo35; have p506 : 0 ≤ (x10_1 : Int) := of_decide_eq_true (by first | (with_reducible assumption) | assumption); have q506 : x10_1 < (t497.length : Int) := of_decide_eq_true (by first | (with_reducible assumption) | assumption); obtain ⟨ad506, A506_0, c506_0, e506, hx506_0, hl506_0, hi506_0⟩ := at_L5 (Kd.S_reads' HO_8.out).2.2 x10_1 p506 q506; cases e506; obtain ⟨ce506, hce506, hMe506, hcc506⟩ := Kd.S_get HO_8.out [] x10_1 p506 (by first | exact q506 | exact of_decide_eq_true (by first | (with_reducible assumption) | assumption) | (have e_ := (Kd.S_reads' HO_8.out).1; omega)); obtain ⟨ve506_0, rfl, ge506_0⟩ := hMe506; have hv506_0 := hcc506 0 _ rfl; rw [Nat.add_zero, show ((Kd.slice 4 Kd.bool)).sz = 1 from rfl, Nat.mul_one] at hv506_0; replace hv506_0 := Option.some.inj (hv506_0.symm.trans hx506_0); rw [hv506_0] at ge506_0; have HL506_0 := Aside0.mk (show Kd.R Kd.bool 4 _ _ _ _ (rd_L5 t497 x10_1) from ge506_0); clear hv506_0 ge506_0; clear hcc506 hce506; have HR506_0 := Aside0.mk hi506_0; have HC506_0 := Aside0.mk hl506_0; clear hi506_0 hl506_0; replace p506 := eq_true p506; replace q506 := eq_true q506; have p507 : 0 ≤ (x11_2 : Int) := of_decide_eq_true (by first | (with_reducible assumption) | assumption); have q507 : x11_2 < ((rd_L5 t497 x10_1).length : Int) := of_decide_eq_true (by first | (with_reducible assumption) | assumption); obtain ⟨ad507, e507, hx507_0⟩ := Kd.at_bool (by repeat (first | (with_reducible exact HR506_0.out) | (with_reducible refine Kd.C_alloc ?_ _) | (with_reducible refine Kd.C_drewN ?_ _) | (with_reducible refine Kd.C_drew ?_) | exact HR506_0.out)) x11_2 p507 q507; (try rw [← Nbq22.out] at hx507_0); (try rw [← Nbq26.out] at hx507_0); cases e507; replace p507 := eq_true p507; replace q507 := eq_true q507)))
                                    go_roundg k2
                                    case measure => have := HK1.out; have := HK2.out; omega
                                    case rel => exact ⟨(wrap64 (x11_2 + 1)), (by first | rfl | (simp; done) | (simp [*]; done)), H', ⟨by have := HK1.out; have := HK2.out; omega⟩, ⟨by (with_reducible repeat (first | apply Kd.R_alloc | apply Kd.R_drewN | apply Kd.R_drew)); exact HO_7.out⟩, ⟨by (with_reducible repeat (first | apply Kd.S_alloc | apply Kd.S_drewN | apply Kd.S_drew)); exact HO_8.out⟩, ⟨by (with_reducible repeat (first | apply Kd.R_alloc | apply Kd.R_drewN | apply Kd.R_drew)); exact HO_9.out⟩, ⟨by repeat (first | (with_reducible first | exact HB.out | apply below_alloc | apply pw_below_drewN | apply below_drew1) | exact HB.out)⟩⟩
                                · rw [if_neg c30] at H
                                  exact absurd H (by simp)
                              · rw [if_neg c29] at H
                                exact absurd H (by simp)
                            · replace c27 := Bool.eq_false_iff.mpr c27
                              subst c27
                              have H1 : (ratlinelaw10_GraphDoms.l1 k2 l0 a1 a2 t490 t497 t500 x10_1 (wrap64 (x11_2 + 1))) = some r := by rw [if_neg (show ¬ (false = true) by decide)] at H; exact H
                              clear H
                              have H := H1
                              clear H1
                              have H' := Aside0.mk H
                              clear H
                              obtain ⟨Ao36, co36, eo36⟩ := Kd.R_slice HO_9.out
                              subst eo36
                              have p503 : 0 ≤ (x10_1 : Int) := of_decide_eq_true (by first | (with_reducible assumption) | assumption)
                              have q503 : x10_1 < (t500.length : Int) := of_decide_eq_true (by first | (with_reducible assumption) | assumption)
                              obtain ⟨ad503, e503, hx503_0⟩ := Kd.at_bool (Kd.R_reads' HO_9.out).2.2 x10_1 p503 q503
                              (try rw [← Nbq22.out] at hx503_0)
                              (try rw [← Nbq26.out] at hx503_0)
                              cases e503
                              replace p503 := eq_true p503
                              replace q503 := eq_true q503
                              have p504 : 0 ≤ (x11_2 : Int) := of_decide_eq_true (by first | (with_reducible assumption) | assumption)
                              have q504 : x11_2 < (t500.length : Int) := of_decide_eq_true (by first | (with_reducible assumption) | assumption)
                              obtain ⟨ad504, e504, hx504_0⟩ := Kd.at_bool (Kd.R_reads' HO_9.out).2.2 x11_2 p504 q504
                              (try rw [← Nbq22.out] at hx504_0)
                              (try rw [← Nbq26.out] at hx504_0)
                              obtain rfl : ad503 = ad504 := (by injection e504)
                              replace p504 := eq_true p504
                              replace q504 := eq_true q504
                              go_wp2
                              repeat (go_quiet (fail); try go_wp2)
                              go_roundg k2
                              case measure => have := HK1.out; have := HK2.out; omega
                              case rel => exact ⟨(wrap64 (x11_2 + 1)), (by first | rfl | (simp; done) | (simp [*]; done)), H', ⟨by have := HK1.out; have := HK2.out; omega⟩, ⟨by (with_reducible repeat (first | apply Kd.R_alloc | apply Kd.R_drewN | apply Kd.R_drew)); exact HO_7.out⟩, ⟨by (with_reducible repeat (first | apply Kd.S_alloc | apply Kd.S_drewN | apply Kd.S_drew)); exact HO_8.out⟩, ⟨by (with_reducible repeat (first | apply Kd.R_alloc | apply Kd.R_drewN | apply Kd.R_drew)); exact HO_9.out⟩, ⟨by repeat (first | (with_reducible first | exact HB.out | apply below_alloc | apply pw_below_drewN | apply below_drew1) | exact HB.out)⟩⟩
                          · rw [if_neg c25] at H
                            exact absurd H (by simp)
                        · rw [if_neg c24] at H
                          exact absurd H (by simp)
                      · replace c23 := Bool.eq_false_iff.mpr c23
                        subst c23
                        have H1 : (ratlinelaw10_GraphDoms.l1 k2 l0 a1 a2 t490 t497 t500 x10_1 (wrap64 (x11_2 + 1))) = some r := by rw [if_neg (show ¬ (false = true) by decide)] at H; exact H
                        clear H
                        have H := H1
                        clear H1
                        have H' := Aside0.mk H
                        clear H
                        obtain ⟨Ao37, co37, eo37⟩ := Kd.R_slice HO_9.out
                        subst eo37
                        have p503 : 0 ≤ (x10_1 : Int) := of_decide_eq_true (by first | (with_reducible assumption) | assumption)
                        have q503 : x10_1 < (t500.length : Int) := of_decide_eq_true (by first | (with_reducible assumption) | assumption)
                        obtain ⟨ad503, e503, hx503_0⟩ := Kd.at_bool (Kd.R_reads' HO_9.out).2.2 x10_1 p503 q503
                        (try rw [← Nbq22.out] at hx503_0)
                        cases e503
                        replace p503 := eq_true p503
                        replace q503 := eq_true q503
                        go_wp2
                        repeat (go_quiet (fail); try go_wp2)
                        go_roundg k2
                        case measure => have := HK1.out; have := HK2.out; omega
                        case rel => exact ⟨(wrap64 (x11_2 + 1)), (by first | rfl | (simp; done) | (simp [*]; done)), H', ⟨by have := HK1.out; have := HK2.out; omega⟩, ⟨by (with_reducible repeat (first | apply Kd.R_alloc | apply Kd.R_drewN | apply Kd.R_drew)); exact HO_7.out⟩, ⟨by (with_reducible repeat (first | apply Kd.S_alloc | apply Kd.S_drewN | apply Kd.S_drew)); exact HO_8.out⟩, ⟨by (with_reducible repeat (first | apply Kd.R_alloc | apply Kd.R_drewN | apply Kd.R_drew)); exact HO_9.out⟩, ⟨by repeat (first | (with_reducible first | exact HB.out | apply below_alloc | apply pw_below_drewN | apply below_drew1) | exact HB.out)⟩⟩
                    · rw [if_neg c21] at H
                      exact absurd H (by simp)
                  · rw [if_neg c20] at H
                    exact absurd H (by simp)
                · rw [if_neg c19] at H
                  have c19b0 : decide (x11_2 < (l0.length : Int)) = false := decide_eq_false c19
                  clear c19
                  have H' := Aside0.mk H
                  clear H
                  go_wp2
                  repeat (go_quiet (fail); try go_wp2)
                  go_roundg k2
                  case measure => have := HK1.out; have := HK2.out; omega
                  case rel => exact ⟨(wrap64 (x10_1 + 1)), (by first | rfl | (simp; done) | (simp [*]; done)), H', ⟨by have := HK1.out; have := HK2.out; omega⟩, ⟨by (with_reducible repeat (first | apply Kd.R_alloc | apply Kd.R_drewN | apply Kd.R_drew)); exact HO_7.out⟩, ⟨by (with_reducible repeat (first | apply Kd.S_alloc | apply Kd.S_drewN | apply Kd.S_drew)); exact HO_8.out⟩, ⟨by (with_reducible repeat (first | apply Kd.R_alloc | apply Kd.R_drewN | apply Kd.R_drew)); exact HO_9.out⟩, ⟨by repeat (first | (with_reducible first | exact HB.out | apply below_alloc | apply pw_below_drewN | apply below_drew1) | exact HB.out)⟩⟩
          · rw [if_neg c18] at H
            have c18b0 : decide (x10_1 < (l0.length : Int)) = false := decide_eq_false c18
            clear c18
            have HC38 := Aside0.mk H
            clear H
            go_upto_region 16 with (fail)
            repeat (go_quiet (fail); go_upto_region 16 with (fail))
            go_cut [80] (fun v80 wc => ∃ (kq : Nat) (x80_37 : Bool), v80 = .bool x80_37 ∧ Aside0 (ratlinelaw10_GraphDoms.j2 kq a1 a2 t490 x80_37 = some r) ∧ Aside0 (kq ≤ k1) ∧ Aside0 (Kd.R (Kd.int .i64) 3 wc w.heap.size (fun _ => True) (.slice Ao14 t490.length co14) t490) ∧ Aside0 (Below w.heap.size w wc))
            case first =>
              have H := HC38.out
              clear HC38
              by_cases c39 : a1 < 0
              · rw [if_pos c39] at H
                have c39b0 : decide (a1 < 0) = true := decide_eq_true c39
                clear c39
                (first | rw [c39b0] | (simp only [i64_w, i32_w]; rw [c39b0]) | skip)
                have H' := Aside0.mk H
                clear H
                go_wp2
                repeat (go_quiet (fail); try go_wp2)
                go_meet
                case rel => exact ⟨_, (true), (by first | rfl | (simp; done) | (simp [*]; done)), H', ⟨by have := HK1.out; first | omega | exact Nat.le_refl _⟩, ⟨by (with_reducible repeat (first | apply Kd.R_alloc | apply Kd.R_drewN | apply Kd.R_drew)); exact HO_7.out⟩, ⟨by repeat (first | (with_reducible first | exact HB.out | apply below_alloc | apply pw_below_drewN | apply below_drew1) | exact HB.out)⟩⟩
              · rw [if_neg c39] at H
                have c39b0 : decide (a1 < 0) = false := decide_eq_false c39
                clear c39
                (first | rw [c39b0] | (simp only [i64_w, i32_w]; rw [c39b0]) | skip)
                by_cases c40 : a1 ≥ (l0.length : Int)
                · rw [if_pos c40] at H
                  have c40b0 : decide ((l0.length : Int) ≤ a1) = true := decide_eq_true c40
                  clear c40
                  have H' := Aside0.mk H
                  clear H
                  go_wp2
                  repeat (go_quiet (fail); try go_wp2)
                  go_meet
                  case rel => exact ⟨_, (true), (by first | rfl | (simp; done) | (simp [*]; done)), H', ⟨by have := HK1.out; first | omega | exact Nat.le_refl _⟩, ⟨by (with_reducible repeat (first | apply Kd.R_alloc | apply Kd.R_drewN | apply Kd.R_drew)); exact HO_7.out⟩, ⟨by repeat (first | (with_reducible first | exact HB.out | apply below_alloc | apply pw_below_drewN | apply below_drew1) | exact HB.out)⟩⟩
                · rw [if_neg c40] at H
                  have c40b0 : decide ((l0.length : Int) ≤ a1) = false := decide_eq_false c40
                  clear c40
                  by_cases c41 : a2 < 0
                  · rw [if_pos c41] at H
                    have c41b0 : decide (a2 < 0) = true := decide_eq_true c41
                    clear c41
                    have H' := Aside0.mk H
                    clear H
                    go_wp2
                    repeat (go_quiet (fail); try go_wp2)
                    go_meet
                    case rel => exact ⟨_, (true), (by first | rfl | (simp; done) | (simp [*]; done)), H', ⟨by have := HK1.out; first | omega | exact Nat.le_refl _⟩, ⟨by (with_reducible repeat (first | apply Kd.R_alloc | apply Kd.R_drewN | apply Kd.R_drew)); exact HO_7.out⟩, ⟨by repeat (first | (with_reducible first | exact HB.out | apply below_alloc | apply pw_below_drewN | apply below_drew1) | exact HB.out)⟩⟩
                  · rw [if_neg c41] at H
                    have c41b0 : decide (a2 < 0) = false := decide_eq_false c41
                    clear c41
                    have H' := Aside0.mk H
                    clear H
                    go_wp2
                    repeat (go_quiet (fail); try go_wp2)
                    go_meet
                    case rel => exact ⟨_, (decide (a2 ≥ (l0.length : Int))), (by first | rfl | (simp; done) | (simp [*]; done)), H', ⟨by have := HK1.out; first | omega | exact Nat.le_refl _⟩, ⟨by (with_reducible repeat (first | apply Kd.R_alloc | apply Kd.R_drewN | apply Kd.R_drew)); exact HO_7.out⟩, ⟨by repeat (first | (with_reducible first | exact HB.out | apply below_alloc | apply pw_below_drewN | apply below_drew1) | exact HB.out)⟩⟩
            case rest =>
              clear HC38
              try clear c1
              try clear c2
              try clear p2
              try clear q2
              try clear c3
              try clear c4
              try clear c5
              try clear p5
              try clear q5
              try clear hx5
              try clear p6
              try clear c9
              try clear c18
              try clear c18b0
              try clear c19
              try clear c19b0
              try clear c20
              try clear c20b0
              try clear c21
              try clear c21b0
              try clear q22
              try clear c23
              try clear c24
              try clear c24b0
              try clear c25
              try clear c25b0
              try clear q26
              try clear c27
              try clear c29
              try clear c29b0
              try clear c30
              try clear c30b0
              try clear c31
              try clear c31b0
              try clear c31b1
              try clear c31b2
              try clear c39
              try clear c39b0
              try clear c40
              try clear c40b0
              try clear c41
              try clear c41b0
              try clear hx503_0
              try clear hx504_0
              try clear hx506_0
              try clear hx507_0
              try clear p2
              try clear p503
              try clear p504
              try clear p506
              try clear p507
              try clear q503
              try clear q504
              try clear q506
              try clear q507
              obtain ⟨kq, x80_37, rfl, HA, HJ37, HO_7, HB⟩ := hcut
              cases kq with
              | zero => exact absurd HA.out (by simp [ratlinelaw10_GraphDoms.j2])
              | succ kj37 =>
                have H := HA.out
                clear HA
                simp only [ratlinelaw10_GraphDoms.j2] at H
                by_cases c42 : x80_37 = true
                · subst c42
                  have H1 : ((graph_Dominates.f kj37 t490 a1 a2).bind fun t508 => (if t508 = true then (some false) else ((ratlinelaw10_awake.f kj37).bind fun t509 => (some t509)))) = some r := by rw [if_pos rfl] at H; exact H
                  clear H
                  have H := H1
                  clear H1
                  replace H := Option.bind_eq_some_iff.mp H
                  obtain ⟨t508, A430, H⟩ := H
                  replace H : (if t508 = true then (some false) else ((ratlinelaw10_awake.f kj37).bind fun t509 => (some t509))) = some r := H
                  have A43 := Aside0.mk A430
                  clear A430
                  by_cases c44 : t508 = true
                  · subst c44
                    have H1 : (some false) = some r := by rw [if_pos rfl] at H; exact H
                    clear H
                    have H := H1
                    clear H1
                    obtain rfl := Option.some.inj H
                    go_wp2_with (first | (go_at_call 16; (with_reducible refine (graph_Dominates.calls kj37 _ _ t490 a1 a2 true _ ?side1 ?side2 A43.out).mono ?_); (case side1 => repeat (first | exact (Kd.R_reads' HO_7.out).2.2 | (with_reducible refine Kd.C_alloc ?_ _) | (with_reducible refine Kd.C_drewN ?_ _) | (with_reducible refine Kd.C_drew ?_))); (case side2 => exact (Kd.R_reads' HO_7.out).2.1); rintro e w' ⟨rfl, ⟨nd, rfl⟩⟩; (try first | exact ⟨rfl, _, World.drewN_drewN _ _ _⟩ | exact ⟨rfl, _, Eq.trans (World.drewN_drewN _ _ _) (congrArg (World.drewN _) (Nat.add_assoc _ _ _))⟩)))
                    repeat (go_quiet (first | (go_at_call 16; (with_reducible refine (graph_Dominates.calls kj37 _ _ t490 a1 a2 true _ ?side1 ?side2 A43.out).mono ?_); (case side1 => repeat (first | exact (Kd.R_reads' HO_7.out).2.2 | (with_reducible refine Kd.C_alloc ?_ _) | (with_reducible refine Kd.C_drewN ?_ _) | (with_reducible refine Kd.C_drew ?_))); (case side2 => exact (Kd.R_reads' HO_7.out).2.1); rintro e w' ⟨rfl, ⟨nd, rfl⟩⟩; (try first | exact ⟨rfl, _, World.drewN_drewN _ _ _⟩ | exact ⟨rfl, _, Eq.trans (World.drewN_drewN _ _ _) (congrArg (World.drewN _) (Nat.add_assoc _ _ _))⟩))); try go_wp2_with (first | (go_at_call 16; (with_reducible refine (graph_Dominates.calls kj37 _ _ t490 a1 a2 true _ ?side1 ?side2 A43.out).mono ?_); (case side1 => repeat (first | exact (Kd.R_reads' HO_7.out).2.2 | (with_reducible refine Kd.C_alloc ?_ _) | (with_reducible refine Kd.C_drewN ?_ _) | (with_reducible refine Kd.C_drew ?_))); (case side2 => exact (Kd.R_reads' HO_7.out).2.1); rintro e w' ⟨rfl, ⟨nd, rfl⟩⟩; (try first | exact ⟨rfl, _, World.drewN_drewN _ _ _⟩ | exact ⟨rfl, _, Eq.trans (World.drewN_drewN _ _ _) (congrArg (World.drewN _) (Nat.add_assoc _ _ _))⟩))))
                    go_ret
                    exact ⟨by first | rfl | (simp [errW_none, errW_some] <;> rfl) | (simp [*, errW_none, errW_some] <;> rfl), by repeat (first | (with_reducible first | exact HB.out | apply below_alloc | apply pw_below_drewN | apply below_drew1) | exact HB.out)⟩
                  · replace c44 := Bool.eq_false_iff.mpr c44
                    subst c44
                    have H1 : ((ratlinelaw10_awake.f kj37).bind fun t509 => (some t509)) = some r := by rw [if_neg (show ¬ (false = true) by decide)] at H; exact H
                    clear H
                    have H := H1
                    clear H1
                    replace H := Option.bind_eq_some_iff.mp H
                    obtain ⟨t509, A450, H⟩ := H
                    replace H : (some t509) = some r := H
                    have A45 := Aside0.mk A450
                    clear A450
                    obtain rfl := Option.some.inj H
                    go_wp2_with (first | (go_at_call 16; (with_reducible refine (graph_Dominates.calls kj37 _ _ t490 a1 a2 false _ ?side1 ?side2 A43.out).mono ?_); (case side1 => repeat (first | exact (Kd.R_reads' HO_7.out).2.2 | (with_reducible refine Kd.C_alloc ?_ _) | (with_reducible refine Kd.C_drewN ?_ _) | (with_reducible refine Kd.C_drew ?_))); (case side2 => exact (Kd.R_reads' HO_7.out).2.1); rintro e w' ⟨rfl, ⟨nd, rfl⟩⟩; (try first | exact ⟨rfl, _, World.drewN_drewN _ _ _⟩ | exact ⟨rfl, _, Eq.trans (World.drewN_drewN _ _ _) (congrArg (World.drewN _) (Nat.add_assoc _ _ _))⟩)) | (go_at_call 10; (with_reducible refine (ratlinelaw10_awake.calls kj37  t509 _ A45.out).mono ?_); rintro e w46 ⟨rfl, hb⟩; have n0_ := Aside0.mk (Kd.R_below (by (with_reducible repeat (first | apply Kd.R_alloc | apply Kd.R_drewN | apply Kd.R_drew)); exact HO_7.out) hb); have n1_ := Aside0.mk (below_step (by repeat (first | (with_reducible first | exact HB.out | apply below_alloc | apply pw_below_drewN | apply below_drew1) | exact HB.out)) hb); clear HO_7; clear HB; have HO_7 := n0_; have HB := n1_; clear n0_ n1_; (try clear hb); (try clear hb2); (try clear hk); (try clear hi)))
                    repeat (go_quiet (first | (go_at_call 16; (with_reducible refine (graph_Dominates.calls kj37 _ _ t490 a1 a2 false _ ?side1 ?side2 A43.out).mono ?_); (case side1 => repeat (first | exact (Kd.R_reads' HO_7.out).2.2 | (with_reducible refine Kd.C_alloc ?_ _) | (with_reducible refine Kd.C_drewN ?_ _) | (with_reducible refine Kd.C_drew ?_))); (case side2 => exact (Kd.R_reads' HO_7.out).2.1); rintro e w' ⟨rfl, ⟨nd, rfl⟩⟩; (try first | exact ⟨rfl, _, World.drewN_drewN _ _ _⟩ | exact ⟨rfl, _, Eq.trans (World.drewN_drewN _ _ _) (congrArg (World.drewN _) (Nat.add_assoc _ _ _))⟩)) | (go_at_call 10; (with_reducible refine (ratlinelaw10_awake.calls kj37  t509 _ A45.out).mono ?_); rintro e w46 ⟨rfl, hb⟩; have n0_ := Aside0.mk (Kd.R_below (by (with_reducible repeat (first | apply Kd.R_alloc | apply Kd.R_drewN | apply Kd.R_drew)); exact HO_7.out) hb); have n1_ := Aside0.mk (below_step (by repeat (first | (with_reducible first | exact HB.out | apply below_alloc | apply pw_below_drewN | apply below_drew1) | exact HB.out)) hb); clear HO_7; clear HB; have HO_7 := n0_; have HB := n1_; clear n0_ n1_; (try clear hb); (try clear hb2); (try clear hk); (try clear hi))); try go_wp2_with (first | (go_at_call 16; (with_reducible refine (graph_Dominates.calls kj37 _ _ t490 a1 a2 false _ ?side1 ?side2 A43.out).mono ?_); (case side1 => repeat (first | exact (Kd.R_reads' HO_7.out).2.2 | (with_reducible refine Kd.C_alloc ?_ _) | (with_reducible refine Kd.C_drewN ?_ _) | (with_reducible refine Kd.C_drew ?_))); (case side2 => exact (Kd.R_reads' HO_7.out).2.1); rintro e w' ⟨rfl, ⟨nd, rfl⟩⟩; (try first | exact ⟨rfl, _, World.drewN_drewN _ _ _⟩ | exact ⟨rfl, _, Eq.trans (World.drewN_drewN _ _ _) (congrArg (World.drewN _) (Nat.add_assoc _ _ _))⟩)) | (go_at_call 10; (with_reducible refine (ratlinelaw10_awake.calls kj37  t509 _ A45.out).mono ?_); rintro e w46 ⟨rfl, hb⟩; have n0_ := Aside0.mk (Kd.R_below (by (with_reducible repeat (first | apply Kd.R_alloc | apply Kd.R_drewN | apply Kd.R_drew)); exact HO_7.out) hb); have n1_ := Aside0.mk (below_step (by repeat (first | (with_reducible first | exact HB.out | apply below_alloc | apply pw_below_drewN | apply below_drew1) | exact HB.out)) hb); clear HO_7; clear HB; have HO_7 := n0_; have HB := n1_; clear n0_ n1_; (try clear hb); (try clear hb2); (try clear hk); (try clear hi))))
                    go_ret
                    exact ⟨by first | rfl | (simp [errW_none, errW_some] <;> rfl) | (simp [*, errW_none, errW_some] <;> rfl), by repeat (first | (with_reducible first | exact HB.out | apply below_alloc | apply pw_below_drewN | apply below_drew1) | exact HB.out)⟩
                · replace c42 := Bool.eq_false_iff.mpr c42
                  subst c42
                  have H1 : ((ratlinelaw10_awake.f kj37).bind fun t510 => (some t510)) = some r := by rw [if_neg (show ¬ (false = true) by decide)] at H; exact H
                  clear H
                  have H := H1
                  clear H1
                  replace H := Option.bind_eq_some_iff.mp H
                  obtain ⟨t510, A470, H⟩ := H
                  replace H : (some t510) = some r := H
                  have A47 := Aside0.mk A470
                  clear A470
                  obtain rfl := Option.some.inj H
                  go_wp2_with (first | (go_at_call 10; (with_reducible refine (ratlinelaw10_awake.calls kj37  t510 _ A47.out).mono ?_); rintro e w48 ⟨rfl, hb⟩; have n0_ := Aside0.mk (Kd.R_below (by (with_reducible repeat (first | apply Kd.R_alloc | apply Kd.R_drewN | apply Kd.R_drew)); exact HO_7.out) hb); have n1_ := Aside0.mk (below_step (by repeat (first | (with_reducible first | exact HB.out | apply below_alloc | apply pw_below_drewN | apply below_drew1) | exact HB.out)) hb); clear HO_7; clear HB; have HO_7 := n0_; have HB := n1_; clear n0_ n1_; (try clear hb); (try clear hb2); (try clear hk); (try clear hi)))
                  repeat (go_quiet (first | (go_at_call 10; (with_reducible refine (ratlinelaw10_awake.calls kj37  t510 _ A47.out).mono ?_); rintro e w48 ⟨rfl, hb⟩; have n0_ := Aside0.mk (Kd.R_below (by (with_reducible repeat (first | apply Kd.R_alloc | apply Kd.R_drewN | apply Kd.R_drew)); exact HO_7.out) hb); have n1_ := Aside0.mk (below_step (by repeat (first | (with_reducible first | exact HB.out | apply below_alloc | apply pw_below_drewN | apply below_drew1) | exact HB.out)) hb); clear HO_7; clear HB; have HO_7 := n0_; have HB := n1_; clear n0_ n1_; (try clear hb); (try clear hb2); (try clear hk); (try clear hi))); try go_wp2_with (first | (go_at_call 10; (with_reducible refine (ratlinelaw10_awake.calls kj37  t510 _ A47.out).mono ?_); rintro e w48 ⟨rfl, hb⟩; have n0_ := Aside0.mk (Kd.R_below (by (with_reducible repeat (first | apply Kd.R_alloc | apply Kd.R_drewN | apply Kd.R_drew)); exact HO_7.out) hb); have n1_ := Aside0.mk (below_step (by repeat (first | (with_reducible first | exact HB.out | apply below_alloc | apply pw_below_drewN | apply below_drew1) | exact HB.out)) hb); clear HO_7; clear HB; have HO_7 := n0_; have HB := n1_; clear n0_ n1_; (try clear hb); (try clear hb2); (try clear hk); (try clear hi))))
                  go_ret
                  exact ⟨by first | rfl | (simp [errW_none, errW_some] <;> rfl) | (simp [*, errW_none, errW_some] <;> rfl), by repeat (first | (with_reducible first | exact HB.out | apply below_alloc | apply pw_below_drewN | apply below_drew1) | exact HB.out)⟩
    · replace c9 := Bool.eq_false_iff.mpr c9
      subst c9
      have H1 : (some false) = some r := by rw [if_neg (show ¬ (false = true) by decide)] at H; exact H
      clear H
      have H := H1
      clear H1
      obtain rfl := Option.some.inj H
      go_enter Try.func3, Try.ntmps3
      go_wp2_with (first | (go_at_call 9; (with_reducible refine (ratlinelaw10_few.calls k _ _ l0 true _ ?side1 ?side2 A4.out).mono ?_); (case side1 => repeat (first | exact HR0.out | (with_reducible refine Kd.C_alloc ?_ _) | (with_reducible refine Kd.C_drewN ?_ _) | (with_reducible refine Kd.C_drew ?_))); (case side2 => exact HC0.out); rintro e w' ⟨rfl, ⟨nd, rfl⟩⟩; (try first | exact ⟨rfl, _, World.drewN_drewN _ _ _⟩ | exact ⟨rfl, _, Eq.trans (World.drewN_drewN _ _ _) (congrArg (World.drewN _) (Nat.add_assoc _ _ _))⟩)) | (go_at_call 11; (with_reducible refine (graph_Doms.calls k _ _ l0 t490 _ ?side1 ?side2 A6.out).mono ?_); (case side1 => repeat (first | exact HR0.out | (with_reducible refine Kd.C_alloc ?_ _) | (with_reducible refine Kd.C_drewN ?_ _) | (with_reducible refine Kd.C_drew ?_))); (case side2 => exact HC0.out); rintro e w49 ⟨v491, rfl, ho0, hb⟩; have n0_ := Aside0.mk (Kd.R_lower ho0 (below_size (by repeat (first | (with_reducible first | exact HB.out | apply below_alloc | apply pw_below_drewN | apply below_drew1) | exact HB.out)))); have n1_ := Aside0.mk (below_step (by repeat (first | (with_reducible first | exact HB.out | apply below_alloc | apply pw_below_drewN | apply below_drew1) | exact HB.out)) hb); clear HB; have HO492 := n0_; have HB := n1_; clear n0_ n1_; (try clear hb); (try clear hb2); (try clear hk); (try clear hi); (try clear ho0)) | (go_at_call 13; (with_reducible refine (ratlineref10_Doms.calls k _ _ l0 t493 _ ?side1 ?side2 A7.out).mono ?_); (case side1 => repeat (first | exact (Kd.C_below HR0.out HB.out) | (with_reducible refine Kd.C_alloc ?_ _) | (with_reducible refine Kd.C_drewN ?_ _) | (with_reducible refine Kd.C_drew ?_))); (case side2 => exact HC0.out); rintro e w50 ⟨v494, rfl, ho0, hb⟩; have n0_ := Aside0.mk (Kd.R_elder' (by (with_reducible repeat (first | apply Kd.R_alloc | apply Kd.R_drewN | apply Kd.R_drew)); exact HO492.out) (Kd.R_base ho0) hb); have n1_ := Aside0.mk (Kd.R_lower (Kd.R_new' ho0 (Kd.R_lt (by (with_reducible repeat (first | apply Kd.R_alloc | apply Kd.R_drewN | apply Kd.R_drew)); exact HO492.out))) (below_size (by repeat (first | (with_reducible first | exact HB.out | apply below_alloc | apply pw_below_drewN | apply below_drew1) | exact HB.out)))); have n2_ := Aside0.mk (below_step (by repeat (first | (with_reducible first | exact HB.out | apply below_alloc | apply pw_below_drewN | apply below_drew1) | exact HB.out)) hb); clear HO492; clear HB; have HO492 := n0_; have HO495 := n1_; have HB := n2_; clear n0_ n1_ n2_; (try clear hb); (try clear hb2); (try clear hk); (try clear hi); (try clear ho0); obtain ⟨Ao51, co51, eo51⟩ := Kd.R_slice HO492.out; subst eo51; obtain ⟨Ao52, co52, eo52⟩ := Kd.R_slice HO495.out; subst eo52) | (go_at_call 12; (with_reducible refine (ratlineref11_SameInts.calls k _ _ t490 _ _ t493 false _ ?side1 ?side2 ?side3 ?side4 A8.out).mono ?_); (case side1 => repeat (first | exact (Kd.R_reads' HO492.out).2.2 | (with_reducible refine Kd.C_alloc ?_ _) | (with_reducible refine Kd.C_drewN ?_ _) | (with_reducible refine Kd.C_drew ?_))); (case side2 => exact (Kd.R_reads' HO492.out).2.1); (case side3 => repeat (first | exact (Kd.R_reads' HO495.out).2.2 | (with_reducible refine Kd.C_alloc ?_ _) | (with_reducible refine Kd.C_drewN ?_ _) | (with_reducible refine Kd.C_drew ?_))); (case side4 => exact (Kd.R_reads' HO495.out).2.1); rintro e w' ⟨rfl, ⟨nd, rfl⟩⟩; (try first | exact ⟨rfl, _, World.drewN_drewN _ _ _⟩ | exact ⟨rfl, _, Eq.trans (World.drewN_drewN _ _ _) (congrArg (World.drewN _) (Nat.add_assoc _ _ _))⟩)))
      repeat (go_quiet (first | (go_at_call 9; (with_reducible refine (ratlinelaw10_few.calls k _ _ l0 true _ ?side1 ?side2 A4.out).mono ?_); (case side1 => repeat (first | exact HR0.out | (with_reducible refine Kd.C_alloc ?_ _) | (with_reducible refine Kd.C_drewN ?_ _) | (with_reducible refine Kd.C_drew ?_))); (case side2 => exact HC0.out); rintro e w' ⟨rfl, ⟨nd, rfl⟩⟩; (try first | exact ⟨rfl, _, World.drewN_drewN _ _ _⟩ | exact ⟨rfl, _, Eq.trans (World.drewN_drewN _ _ _) (congrArg (World.drewN _) (Nat.add_assoc _ _ _))⟩)) | (go_at_call 11; (with_reducible refine (graph_Doms.calls k _ _ l0 t490 _ ?side1 ?side2 A6.out).mono ?_); (case side1 => repeat (first | exact HR0.out | (with_reducible refine Kd.C_alloc ?_ _) | (with_reducible refine Kd.C_drewN ?_ _) | (with_reducible refine Kd.C_drew ?_))); (case side2 => exact HC0.out); rintro e w49 ⟨v491, rfl, ho0, hb⟩; have n0_ := Aside0.mk (Kd.R_lower ho0 (below_size (by repeat (first | (with_reducible first | exact HB.out | apply below_alloc | apply pw_below_drewN | apply below_drew1) | exact HB.out)))); have n1_ := Aside0.mk (below_step (by repeat (first | (with_reducible first | exact HB.out | apply below_alloc | apply pw_below_drewN | apply below_drew1) | exact HB.out)) hb); clear HB; have HO492 := n0_; have HB := n1_; clear n0_ n1_; (try clear hb); (try clear hb2); (try clear hk); (try clear hi); (try clear ho0)) | (go_at_call 13; (with_reducible refine (ratlineref10_Doms.calls k _ _ l0 t493 _ ?side1 ?side2 A7.out).mono ?_); (case side1 => repeat (first | exact (Kd.C_below HR0.out HB.out) | (with_reducible refine Kd.C_alloc ?_ _) | (with_reducible refine Kd.C_drewN ?_ _) | (with_reducible refine Kd.C_drew ?_))); (case side2 => exact HC0.out); rintro e w50 ⟨v494, rfl, ho0, hb⟩; have n0_ := Aside0.mk (Kd.R_elder' (by (with_reducible repeat (first | apply Kd.R_alloc | apply Kd.R_drewN | apply Kd.R_drew)); exact HO492.out) (Kd.R_base ho0) hb); have n1_ := Aside0.mk (Kd.R_lower (Kd.R_new' ho0 (Kd.R_lt (by (with_reducible repeat (first | apply Kd.R_alloc | apply Kd.R_drewN | apply Kd.R_drew)); exact HO492.out))) (below_size (by repeat (first | (with_reducible first | exact HB.out | apply below_alloc | apply pw_below_drewN | apply below_drew1) | exact HB.out)))); have n2_ := Aside0.mk (below_step (by repeat (first | (with_reducible first | exact HB.out | apply below_alloc | apply pw_below_drewN | apply below_drew1) | exact HB.out)) hb); clear HO492; clear HB; have HO492 := n0_; have HO495 := n1_; have HB := n2_; clear n0_ n1_ n2_; (try clear hb); (try clear hb2); (try clear hk); (try clear hi); (try clear ho0); obtain ⟨Ao51, co51, eo51⟩ := Kd.R_slice HO492.out; subst eo51; obtain ⟨Ao52, co52, eo52⟩ := Kd.R_slice HO495.out; subst eo52) | (go_at_call 12; (with_reducible refine (ratlineref11_SameInts.calls k _ _ t490 _ _ t493 false _ ?side1 ?side2 ?side3 ?side4 A8.out).mono ?_); (case side1 => repeat (first | exact (Kd.R_reads' HO492.out).2.2 | (with_reducible refine Kd.C_alloc ?_ _) | (with_reducible refine Kd.C_drewN ?_ _) | (with_reducible refine Kd.C_drew ?_))); (case side2 => exact (Kd.R_reads' HO492.out).2.1); (case side3 => repeat (first | exact (Kd.R_reads' HO495.out).2.2 | (with_reducible refine Kd.C_alloc ?_ _) | (with_reducible refine Kd.C_drewN ?_ _) | (with_reducible refine Kd.C_drew ?_))); (case side4 => exact (Kd.R_reads' HO495.out).2.1); rintro e w' ⟨rfl, ⟨nd, rfl⟩⟩; (try first | exact ⟨rfl, _, World.drewN_drewN _ _ _⟩ | exact ⟨rfl, _, Eq.trans (World.drewN_drewN _ _ _) (congrArg (World.drewN _) (Nat.add_assoc _ _ _))⟩))); try go_wp2_with (first | (go_at_call 9; (with_reducible refine (ratlinelaw10_few.calls k _ _ l0 true _ ?side1 ?side2 A4.out).mono ?_); (case side1 => repeat (first | exact HR0.out | (with_reducible refine Kd.C_alloc ?_ _) | (with_reducible refine Kd.C_drewN ?_ _) | (with_reducible refine Kd.C_drew ?_))); (case side2 => exact HC0.out); rintro e w' ⟨rfl, ⟨nd, rfl⟩⟩; (try first | exact ⟨rfl, _, World.drewN_drewN _ _ _⟩ | exact ⟨rfl, _, Eq.trans (World.drewN_drewN _ _ _) (congrArg (World.drewN _) (Nat.add_assoc _ _ _))⟩)) | (go_at_call 11; (with_reducible refine (graph_Doms.calls k _ _ l0 t490 _ ?side1 ?side2 A6.out).mono ?_); (case side1 => repeat (first | exact HR0.out | (with_reducible refine Kd.C_alloc ?_ _) | (with_reducible refine Kd.C_drewN ?_ _) | (with_reducible refine Kd.C_drew ?_))); (case side2 => exact HC0.out); rintro e w49 ⟨v491, rfl, ho0, hb⟩; have n0_ := Aside0.mk (Kd.R_lower ho0 (below_size (by repeat (first | (with_reducible first | exact HB.out | apply below_alloc | apply pw_below_drewN | apply below_drew1) | exact HB.out)))); have n1_ := Aside0.mk (below_step (by repeat (first | (with_reducible first | exact HB.out | apply below_alloc | apply pw_below_drewN | apply below_drew1) | exact HB.out)) hb); clear HB; have HO492 := n0_; have HB := n1_; clear n0_ n1_; (try clear hb); (try clear hb2); (try clear hk); (try clear hi); (try clear ho0)) | (go_at_call 13; (with_reducible refine (ratlineref10_Doms.calls k _ _ l0 t493 _ ?side1 ?side2 A7.out).mono ?_); (case side1 => repeat (first | exact (Kd.C_below HR0.out HB.out) | (with_reducible refine Kd.C_alloc ?_ _) | (with_reducible refine Kd.C_drewN ?_ _) | (with_reducible refine Kd.C_drew ?_))); (case side2 => exact HC0.out); rintro e w50 ⟨v494, rfl, ho0, hb⟩; have n0_ := Aside0.mk (Kd.R_elder' (by (with_reducible repeat (first | apply Kd.R_alloc | apply Kd.R_drewN | apply Kd.R_drew)); exact HO492.out) (Kd.R_base ho0) hb); have n1_ := Aside0.mk (Kd.R_lower (Kd.R_new' ho0 (Kd.R_lt (by (with_reducible repeat (first | apply Kd.R_alloc | apply Kd.R_drewN | apply Kd.R_drew)); exact HO492.out))) (below_size (by repeat (first | (with_reducible first | exact HB.out | apply below_alloc | apply pw_below_drewN | apply below_drew1) | exact HB.out)))); have n2_ := Aside0.mk (below_step (by repeat (first | (with_reducible first | exact HB.out | apply below_alloc | apply pw_below_drewN | apply below_drew1) | exact HB.out)) hb); clear HO492; clear HB; have HO492 := n0_; have HO495 := n1_; have HB := n2_; clear n0_ n1_ n2_; (try clear hb); (try clear hb2); (try clear hk); (try clear hi); (try clear ho0); obtain ⟨Ao51, co51, eo51⟩ := Kd.R_slice HO492.out; subst eo51; obtain ⟨Ao52, co52, eo52⟩ := Kd.R_slice HO495.out; subst eo52) | (go_at_call 12; (with_reducible refine (ratlineref11_SameInts.calls k _ _ t490 _ _ t493 false _ ?side1 ?side2 ?side3 ?side4 A8.out).mono ?_); (case side1 => repeat (first | exact (Kd.R_reads' HO492.out).2.2 | (with_reducible refine Kd.C_alloc ?_ _) | (with_reducible refine Kd.C_drewN ?_ _) | (with_reducible refine Kd.C_drew ?_))); (case side2 => exact (Kd.R_reads' HO492.out).2.1); (case side3 => repeat (first | exact (Kd.R_reads' HO495.out).2.2 | (with_reducible refine Kd.C_alloc ?_ _) | (with_reducible refine Kd.C_drewN ?_ _) | (with_reducible refine Kd.C_drew ?_))); (case side4 => exact (Kd.R_reads' HO495.out).2.1); rintro e w' ⟨rfl, ⟨nd, rfl⟩⟩; (try first | exact ⟨rfl, _, World.drewN_drewN _ _ _⟩ | exact ⟨rfl, _, Eq.trans (World.drewN_drewN _ _ _) (congrArg (World.drewN _) (Nat.add_assoc _ _ _))⟩))))
      go_ret
      exact ⟨by first | rfl | (simp [errW_none, errW_some] <;> rfl) | (simp [*, errW_none, errW_some] <;> rfl), by repeat (first | (with_reducible first | exact HB.out | apply below_alloc | apply pw_below_drewN | apply below_drew1) | exact HB.out)⟩
  · replace c5 := Bool.eq_false_iff.mpr c5
    subst c5
    have H1 : ((ratlinelaw10_awake.f k).bind fun t489 => (some t489)) = some r := by rw [if_neg (show ¬ (false = true) by decide)] at H; exact H
    clear H
    have H := H1
    clear H1
    replace H := Option.bind_eq_some_iff.mp H
    obtain ⟨t489, A530, H⟩ := H
    replace H : (some t489) = some r := H
    have A53 := Aside0.mk A530
    clear A530
    obtain rfl := Option.some.inj H
    go_enter Try.func3, Try.ntmps3
    go_wp2_with (first | (go_at_call 9; (with_reducible refine (ratlinelaw10_few.calls k _ _ l0 false _ ?side1 ?side2 A4.out).mono ?_); (case side1 => repeat (first | exact HR0.out | (with_reducible refine Kd.C_alloc ?_ _) | (with_reducible refine Kd.C_drewN ?_ _) | (with_reducible refine Kd.C_drew ?_))); (case side2 => exact HC0.out); rintro e w' ⟨rfl, ⟨nd, rfl⟩⟩; (try first | exact ⟨rfl, _, World.drewN_drewN _ _ _⟩ | exact ⟨rfl, _, Eq.trans (World.drewN_drewN _ _ _) (congrArg (World.drewN _) (Nat.add_assoc _ _ _))⟩)) | (go_at_call 10; (with_reducible refine (ratlinelaw10_awake.calls k  t489 _ A53.out).mono ?_); rintro e w54 ⟨rfl, hb⟩; have n0_ := Aside0.mk (below_step (by repeat (first | (with_reducible first | exact HB.out | apply below_alloc | apply pw_below_drewN | apply below_drew1) | exact HB.out)) hb); clear HB; have HB := n0_; clear n0_; (try clear hb); (try clear hb2); (try clear hk); (try clear hi)))
    repeat (go_quiet (first | (go_at_call 9; (with_reducible refine (ratlinelaw10_few.calls k _ _ l0 false _ ?side1 ?side2 A4.out).mono ?_); (case side1 => repeat (first | exact HR0.out | (with_reducible refine Kd.C_alloc ?_ _) | (with_reducible refine Kd.C_drewN ?_ _) | (with_reducible refine Kd.C_drew ?_))); (case side2 => exact HC0.out); rintro e w' ⟨rfl, ⟨nd, rfl⟩⟩; (try first | exact ⟨rfl, _, World.drewN_drewN _ _ _⟩ | exact ⟨rfl, _, Eq.trans (World.drewN_drewN _ _ _) (congrArg (World.drewN _) (Nat.add_assoc _ _ _))⟩)) | (go_at_call 10; (with_reducible refine (ratlinelaw10_awake.calls k  t489 _ A53.out).mono ?_); rintro e w54 ⟨rfl, hb⟩; have n0_ := Aside0.mk (below_step (by repeat (first | (with_reducible first | exact HB.out | apply below_alloc | apply pw_below_drewN | apply below_drew1) | exact HB.out)) hb); clear HB; have HB := n0_; clear n0_; (try clear hb); (try clear hb2); (try clear hk); (try clear hi))); try go_wp2_with (first | (go_at_call 9; (with_reducible refine (ratlinelaw10_few.calls k _ _ l0 false _ ?side1 ?side2 A4.out).mono ?_); (case side1 => repeat (first | exact HR0.out | (with_reducible refine Kd.C_alloc ?_ _) | (with_reducible refine Kd.C_drewN ?_ _) | (with_reducible refine Kd.C_drew ?_))); (case side2 => exact HC0.out); rintro e w' ⟨rfl, ⟨nd, rfl⟩⟩; (try first | exact ⟨rfl, _, World.drewN_drewN _ _ _⟩ | exact ⟨rfl, _, Eq.trans (World.drewN_drewN _ _ _) (congrArg (World.drewN _) (Nat.add_assoc _ _ _))⟩)) | (go_at_call 10; (with_reducible refine (ratlinelaw10_awake.calls k  t489 _ A53.out).mono ?_); rintro e w54 ⟨rfl, hb⟩; have n0_ := Aside0.mk (below_step (by repeat (first | (with_reducible first | exact HB.out | apply below_alloc | apply pw_below_drewN | apply below_drew1) | exact HB.out)) hb); clear HB; have HB := n0_; clear n0_; (try clear hb); (try clear hb2); (try clear hk); (try clear hi))))
    go_ret
    exact ⟨by first | rfl | (simp [errW_none, errW_some] <;> rfl) | (simp [*, errW_none, errW_some] <;> rfl), by repeat (first | (with_reducible first | exact HB.out | apply below_alloc | apply pw_below_drewN | apply below_drew1) | exact HB.out)⟩

end Go.Proofs.Ytjflddnmkajleaa.PG
