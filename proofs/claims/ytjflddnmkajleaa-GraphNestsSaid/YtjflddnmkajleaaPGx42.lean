-- By the session's own program out of the kit's print, with texts of the session's own for the functions that the print does not take.
import Derived.Test.YtjflddnmkajleaaPGx0
import Derived.Test.YtjflddnmkajleaaPGx20
import Derived.Test.YtjflddnmkajleaaPGx21
namespace Go.Proofs.Ytjflddnmkajleaa.PG
open Go.RowKit Go.Proofs.YtjflddnmkajleaaW.PrintWords Go.Proofs.YtjflddnmkajleaaW.PrintLast Go.Proofs.YtjflddnmkajleaaW.PrintMore
attribute [local go_sem] max2_int min2_int max_two min_two max_three min_three max_four min_four   -- for this text's walks alone
set_option linter.unusedVariables false
set_option linter.unusedSimpArgs false

/-! ### ratlinelaw10_GraphNests: function 4 -/
mutual
def ratlinelaw10_GraphNests.l0 : Nat → Int → List (List Int) → Int → Option (Bool)
  | 0, _, _, _ => none
  | k + 1, x0, x3, x4 => if x4 < x0 then (if x3.length < 5864062014805 then (ratlinelaw10_GraphNests.l0 k x0 (x3 ++ [(([wrap64 (x4 + 1)] : List Int))]) (wrap64 (x4 + 1))) else (none)) else (ratlinelaw10_GraphNests.l1 k x0 x3 (wrap64 (x0 - 1)))
def ratlinelaw10_GraphNests.l1 : Nat → Int → List (List Int) → Int → Option (Bool)
  | 0, _, _, _ => none
  | k + 1, x0, x3, x5 => if x5 ≥ 0 then (if x3.length < 5864062014805 then (ratlinelaw10_GraphNests.l1 k x0 (x3 ++ [(([x5, wrap64 ((x3.length : Int) + 1)] : List Int))]) (wrap64 (x5 - 1))) else (none)) else (if x3.length < 5864062014805 then ((graph_Loops.f k (x3 ++ [[]])).bind fun t607 => (if (t607.length : Int) = x0 then (ratlinelaw10_GraphNests.l2 k x0 t607 0) else (some false))) else (none))
def ratlinelaw10_GraphNests.l2 : Nat → Int → List (S37) → Int → Option (Bool)
  | 0, _, _, _ => none
  | k + 1, x0, x7, x8 => if x8 < x0 then (if 0 ≤ x8 then (if x8 < (x7.length : Int) then (if ((rd_T37 x7 x8).f0) = x8 then (if ((rd_T37 x7 x8).f2) = (wrap64 (x8 - 1)) then (if (((rd_T37 x7 x8).f1).length : Int) = (wrap64 (2 * (wrap64 (x0 - x8)))) then (ratlinelaw10_GraphNests.l2 k x0 x7 (wrap64 (x8 + 1))) else (some false)) else (some false)) else (some false)) else (none)) else (none)) else ((ratlinelaw10_awake.f k).bind fun t613 => (some t613))
end
def ratlinelaw10_GraphNests.f (k : Nat) (a0 : Int) : Option (Bool) := ratlinelaw10_GraphNests.l0 k (wrap64 ((Int.tmod (Go.bits .and .i64 a0 65535) 12) + 1)) ([] : List (List Int)) 0
theorem ratlinelaw10_GraphNests.mono_l : ∀ k, (∀ y0 y1 y2, LeO (ratlinelaw10_GraphNests.l0 k y0 y1 y2) (ratlinelaw10_GraphNests.l0 (k + 1) y0 y1 y2)) ∧ (∀ y0 y1 y2, LeO (ratlinelaw10_GraphNests.l1 k y0 y1 y2) (ratlinelaw10_GraphNests.l1 (k + 1) y0 y1 y2)) ∧ (∀ y0 y1 y2, LeO (ratlinelaw10_GraphNests.l2 k y0 y1 y2) (ratlinelaw10_GraphNests.l2 (k + 1) y0 y1 y2))
  | 0 => ⟨fun _ _ _ r h => by simp [ratlinelaw10_GraphNests.l0] at h, fun _ _ _ r h => by simp [ratlinelaw10_GraphNests.l1] at h, fun _ _ _ r h => by simp [ratlinelaw10_GraphNests.l2] at h⟩
  | k + 1 => by
    obtain ⟨ih0, ih1, ih2⟩ := ratlinelaw10_GraphNests.mono_l k
    refine ⟨?_, ?_, ?_⟩
    · intro y0 y1 y2
      unfold ratlinelaw10_GraphNests.l0
      repeat' first
      | (with_reducible exact ih0 _ _ _)
      | (with_reducible exact ih1 _ _ _)
      | (with_reducible exact ih2 _ _ _)
      | (with_reducible exact graph_Loops.mono _ _)
      | (with_reducible exact ratlinelaw10_awake.mono _)
      | (with_reducible exact LeO.refl _)
      | (with_reducible exact LeO.none _)
      | (with_reducible refine LeO.ite ?_ ?_)
      | (with_reducible refine LeO.bind ?_ (fun _ => ?_))
      | exact ih0 _ _ _
      | exact ih1 _ _ _
      | exact ih2 _ _ _
      | exact graph_Loops.mono _ _
      | exact ratlinelaw10_awake.mono _
      | exact LeO.none _
      | refine LeO.ite ?_ ?_
      | refine LeO.bind ?_ (fun _ => ?_)
    · intro y0 y1 y2
      unfold ratlinelaw10_GraphNests.l1
      repeat' first
      | (with_reducible exact ih0 _ _ _)
      | (with_reducible exact ih1 _ _ _)
      | (with_reducible exact ih2 _ _ _)
      | (with_reducible exact graph_Loops.mono _ _)
      | (with_reducible exact ratlinelaw10_awake.mono _)
      | (with_reducible exact LeO.refl _)
      | (with_reducible exact LeO.none _)
      | (with_reducible refine LeO.ite ?_ ?_)
      | (with_reducible refine LeO.bind ?_ (fun _ => ?_))
      | exact ih0 _ _ _
      | exact ih1 _ _ _
      | exact ih2 _ _ _
      | exact graph_Loops.mono _ _
      | exact ratlinelaw10_awake.mono _
      | exact LeO.none _
      | refine LeO.ite ?_ ?_
      | refine LeO.bind ?_ (fun _ => ?_)
    · intro y0 y1 y2
      unfold ratlinelaw10_GraphNests.l2
      repeat' first
      | (with_reducible exact ih0 _ _ _)
      | (with_reducible exact ih1 _ _ _)
      | (with_reducible exact ih2 _ _ _)
      | (with_reducible exact graph_Loops.mono _ _)
      | (with_reducible exact ratlinelaw10_awake.mono _)
      | (with_reducible exact LeO.refl _)
      | (with_reducible exact LeO.none _)
      | (with_reducible refine LeO.ite ?_ ?_)
      | (with_reducible refine LeO.bind ?_ (fun _ => ?_))
      | exact ih0 _ _ _
      | exact ih1 _ _ _
      | exact ih2 _ _ _
      | exact graph_Loops.mono _ _
      | exact ratlinelaw10_awake.mono _
      | exact LeO.none _
      | refine LeO.ite ?_ ?_
      | refine LeO.bind ?_ (fun _ => ?_)
theorem ratlinelaw10_GraphNests.mono : ∀ a0 k, LeO (ratlinelaw10_GraphNests.f k a0) (ratlinelaw10_GraphNests.f (k + 1) a0) := by
  intro a0 k
  obtain ⟨ih0, ih1, ih2⟩ := ratlinelaw10_GraphNests.mono_l k
  unfold ratlinelaw10_GraphNests.f
  repeat' first
      | (with_reducible exact ih0 _ _ _)
      | (with_reducible exact ih1 _ _ _)
      | (with_reducible exact ih2 _ _ _)
      | (with_reducible exact graph_Loops.mono _ _)
      | (with_reducible exact ratlinelaw10_awake.mono _)
      | (with_reducible exact LeO.refl _)
      | (with_reducible exact LeO.none _)
      | (with_reducible refine LeO.ite ?_ ?_)
      | (with_reducible refine LeO.bind ?_ (fun _ => ?_))
      | exact ih0 _ _ _
      | exact ih1 _ _ _
      | exact ih2 _ _ _
      | exact graph_Loops.mono _ _
      | exact ratlinelaw10_awake.mono _
      | exact LeO.none _
      | refine LeO.ite ?_ ?_
      | refine LeO.bind ?_ (fun _ => ?_)
set_option maxHeartbeats 8000000 in
set_option maxRecDepth 100000 in
theorem ratlinelaw10_GraphNests.calls (k : Nat) (a0 : Int) (r : Bool) (w : World) (h : ratlinelaw10_GraphNests.f k a0 = some r) :
    Calls Try.prog 4 #[.int .i64 a0] w fun e w' => e = .returned (.bool r) ∧ Below w.heap.size w w' := by
  have HB := Aside0.mk (Below.refl w.heap.size w)
  have H : (ratlinelaw10_GraphNests.l0 k (wrap64 ((Int.tmod (Go.bits .and .i64 a0 65535) 12) + 1)) ([] : List (List Int)) 0) = some r := h
  clear h
  have H' := Aside0.mk H
  clear H
  go_enter Try.func4, Try.ntmps4
  go_wp2
  go_loopg [3, 4] k (fun kq v3 v4 w' => ∃ (x3_1 : List (List Int)) (x4_1 : Int), v4 = .int .i64 x4_1 ∧ Aside0 (ratlinelaw10_GraphNests.l0 kq (wrap64 ((Int.tmod (Go.bits .and .i64 a0 65535) 12) + 1)) x3_1 x4_1 = some r) ∧ Aside0 (kq ≤ k) ∧ Aside0 (Kd.S (Kd.slice 3 (Kd.int .i64)) 25 w' w.heap.size (fun _ => True) v3 x3_1) ∧ Aside0 (Below w.heap.size w w'))
  case atStart => exact ⟨(([] : List (List Int))), (0), (by first | rfl | (simp; done) | (simp [*]; done)), H', ⟨Nat.le_refl _⟩, ⟨by first | exact Kd.S_nil _ _ _ _ _ | exact Kd.N_nil _ _ _ _ _ | exact Kd.V_nil _ _ _ _ _ | exact Kd.Q_nil _ _ _ _ _ | exact Kd.R_nil _ _ _ _ _⟩, ⟨by repeat (first | (with_reducible first | exact HB.out | apply below_alloc | apply pw_below_drewN | apply below_drew1) | exact HB.out)⟩⟩
  case round =>
    clear H'
    obtain ⟨x3_1, x4_1, rfl, HA, HK1, HO_3, HB⟩ := hrel
    cases gk with
    | zero => exact absurd HA.out (by simp [ratlinelaw10_GraphNests.l0])
    | succ k1 =>
      have H := HA.out
      clear HA
      simp only [ratlinelaw10_GraphNests.l0] at H
      by_cases c2 : x4_1 < (wrap64 ((Int.tmod (Go.bits .and .i64 a0 65535) 12) + 1))
      · rw [if_pos c2] at H
        have c2b0 : decide (x4_1 < (wrap64 ((Int.tmod (Go.bits .and .i64 a0 65535) 12) + 1))) = true := decide_eq_true c2
        clear c2
        obtain ⟨y592, hy592⟩ : ∃ y_ : List Int, y_ = (([wrap64 (x4_1 + 1)] : List Int)) := ⟨_, rfl⟩
        replace H : (if x3_1.length < 5864062014805 then (ratlinelaw10_GraphNests.l0 k1 (wrap64 ((Int.tmod (Go.bits .and .i64 a0 65535) 12) + 1)) (x3_1 ++ [y592]) (wrap64 (x4_1 + 1))) else (none)) = some r := by first | (rw [hy592]; with_reducible exact H) | (have H2_ := (Option.bind_some _ _).symm.trans H; rw [hy592]; with_reducible exact H2_) | (have H2_ := (Option.bind_some _ _).symm.trans H; with_reducible exact H2_) | with_reducible exact H | (rw [hy592]; exact H) | exact H
        have Ny592 := Aside0.mk hy592
        clear hy592
        by_cases c3 : x3_1.length < 5864062014805
        · rw [if_pos c3] at H
          have LMc3 := Aside0.mk c3
          clear c3
          obtain ⟨y595, hy595⟩ : ∃ y_ : List (List Int), y_ = (x3_1 ++ [y592]) := ⟨_, rfl⟩
          replace H : (ratlinelaw10_GraphNests.l0 k1 (wrap64 ((Int.tmod (Go.bits .and .i64 a0 65535) 12) + 1)) y595 (wrap64 (x4_1 + 1))) = some r := by first | (rw [hy595]; with_reducible exact H) | (have H2_ := (Option.bind_some _ _).symm.trans H; rw [hy595]; with_reducible exact H2_) | (have H2_ := (Option.bind_some _ _).symm.trans H; with_reducible exact H2_) | with_reducible exact H | (rw [hy595]; exact H) | exact H
          have Ny595 := Aside0.mk hy595
          clear hy595
          have H' := Aside0.mk H
          clear H
          go_wp2_with (first | ((with_reducible refine gate_dst (N := 21) rfl ?_); (try (refine gate_guard (by rfl) ?_; dsimp only)); refine Kd.R_lit (Kd.int .i64) _ 3 ?hg (N := 21) ?hd (xs := ([wrap64 (x4_1 + 1)] : List Int)) (inner := [.int .i64 (wrap64 (x4_1 + 1))]) (ok := fun _ => True) (okp := fun _ => True) ?hr ?hp (fun _ hk => hk) trivial (Below.refl _ _) (Nat.le_refl _) (by simp) ?_; (case hd => rfl); (case hg => rfl); (case hr => first | (go_simp; done) | (go_simp; rfl)); (case hp => exact (Reps.one (show Kd.M (Kd.int .i64) _ _ _ (wrap64 (x4_1 + 1)) [.int .i64 (wrap64 (x4_1 + 1))] from rfl) (Reps.none _ _))); intro v593 w4 ho5 hb hg_ hnew_; clear hg_ hnew_; (first | rw [← Ny592.out] at ho5 | (simp only [Int.reduceToNat] at ho5; rw [← Ny592.out] at ho5)); have n0_ := Aside0.mk (Kd.S_elder' (by (with_reducible repeat (first | apply Kd.S_alloc | apply Kd.S_drewN | apply Kd.S_drew)); exact HO_3.out) (Kd.R_base ho5) hb); have n1_ := Aside0.mk (Kd.R_lower ho5 (below_size (by repeat (first | (with_reducible first | exact HB.out | apply below_alloc | apply pw_below_drewN | apply below_drew1) | exact HB.out)))); have n2_ := Aside0.mk (below_step (by repeat (first | (with_reducible first | exact HB.out | apply below_alloc | apply pw_below_drewN | apply below_drew1) | exact HB.out)) hb); clear HO_3; clear HB; have HO_3 := n0_; have HO594 := n1_; have HB := n2_; clear n0_ n1_ n2_; clear hb ho5; obtain ⟨Ao7, co7, eo7⟩ := Kd.R_slice HO594.out; subst eo7) | ((with_reducible refine gate_builtin (b := .append) (xs := #[.tmp 18, .tmp 22]) rfl ?_); (try (refine gate_guard (by rfl) ?_; dsimp only)); at_builtin; refine Kd.S_append (Kd.slice 3 (Kd.int .i64)) (w0 := w) w.heap.size rfl (.tmp 18) (.tmp 22) 22 25 (.slice none 0 0) 24 rfl Try.underlying22 info25 rfl (by decide) (by omega) u3 x3_1 y592 [.slice Ao7 y592.length co7] (fun _ => True) (fun k_ => some k_ = (.slice Ao7 y592.length co7 : Value).ownBlock) rfl rfl ?aP (fun k_ hk_ => ((Kd.R_mono (ok' := fun k_ => ((fun _ => True)) k_ ∧ some k_ ≠ (u3 : Value).ownBlock) (Kd.R_apart' (HO594.out) (Kd.S_typed HO_3.out) (by decide)) (fun k_ hk => ⟨trivial, hk.2⟩))).1 k_ hk_.symm) ?aF ?aO ?aB ?aS ?aL ?_; (case aP => exact Kd.M_row (Kd.R_mono (Kd.R_tight rfl (Kd.R_mono (ok' := fun k_ => ((fun _ => True)) k_ ∧ some k_ ≠ (u3 : Value).ownBlock) (Kd.R_apart' (HO594.out) (Kd.S_typed HO_3.out) (by decide)) (fun k_ hk => ⟨trivial, hk.2⟩))) (fun _ h_ => h_))); (case aB => exact (by repeat (first | (with_reducible first | exact HB.out | apply below_alloc | apply pw_below_drewN | apply below_drew1) | exact HB.out))); (case aF => exact (fun _ _ => trivial)); (case aO => exact (by (with_reducible repeat (first | apply Kd.S_alloc | apply Kd.S_drewN | apply Kd.S_drew)); exact Kd.S_mono HO_3.out (fun k_ hk => ⟨trivial, fun e_ => hk.2 e_⟩))); (case aS => exact (below_size (by repeat (first | (with_reducible first | exact HB.out | apply below_alloc | apply pw_below_drewN | apply below_drew1) | exact HB.out)))); (case aL => have := LMc3.out; omega); intro v596 w6 ho hb hg hat; rw [← Ny595.out] at ho; have n0_ := Aside0.mk (hb); have n1_ := Aside0.mk (ho); clear HB; clear HO_3; clear HO594; have HB := n0_; have HO597 := n1_; clear n0_ n1_; clear ho hb hg hat))
          go_roundg k1
          case measure => have := HK1.out; omega
          case rel => exact ⟨(y595), (wrap64 (x4_1 + 1)), (by first | rfl | (simp; done) | (simp [*]; done)), H', ⟨by have := HK1.out; omega⟩, ⟨by (with_reducible repeat (first | apply Kd.S_alloc | apply Kd.S_drewN | apply Kd.S_drew)); exact HO597.out⟩, ⟨by repeat (first | (with_reducible first | exact HB.out | apply below_alloc | apply pw_below_drewN | apply below_drew1) | exact HB.out)⟩⟩
        · rw [if_neg c3] at H
          exact absurd H (by simp)
      · rw [if_neg c2] at H
        have c2b0 : decide (x4_1 < (wrap64 ((Int.tmod (Go.bits .and .i64 a0 65535) 12) + 1))) = false := decide_eq_false c2
        clear c2
        have H' := Aside0.mk H
        clear H
        go_wp2
        go_loopg [3, 5] k1 (fun kq v3 v5 w' => ∃ (x3_2 : List (List Int)) (x5_2 : Int), v5 = .int .i64 x5_2 ∧ Aside0 (ratlinelaw10_GraphNests.l1 kq (wrap64 ((Int.tmod (Go.bits .and .i64 a0 65535) 12) + 1)) x3_2 x5_2 = some r) ∧ Aside0 (kq ≤ k1) ∧ Aside0 (Kd.S (Kd.slice 3 (Kd.int .i64)) 25 w' w.heap.size (fun _ => True) v3 x3_2) ∧ Aside0 (Below w.heap.size w w'))
        case atStart => exact ⟨(x3_1), (wrap64 ((wrap64 ((Int.tmod (Go.bits .and .i64 a0 65535) 12) + 1)) - 1)), (by first | rfl | (simp; done) | (simp [*]; done)), H', ⟨Nat.le_refl _⟩, ⟨by (with_reducible repeat (first | apply Kd.S_alloc | apply Kd.S_drewN | apply Kd.S_drew)); exact HO_3.out⟩, ⟨by repeat (first | (with_reducible first | exact HB.out | apply below_alloc | apply pw_below_drewN | apply below_drew1) | exact HB.out)⟩⟩
        case round =>
          clear H'
          try clear c2
          try clear c2b0
          try clear p2
          try clear c3
          try clear c4
          try clear p6
          obtain ⟨x3_2, x5_2, rfl, HA, HK2, HO_3, HB⟩ := hrel
          cases gk with
          | zero => exact absurd HA.out (by simp [ratlinelaw10_GraphNests.l1])
          | succ k2 =>
            have H := HA.out
            clear HA
            simp only [ratlinelaw10_GraphNests.l1] at H
            by_cases c8 : x5_2 ≥ 0
            · rw [if_pos c8] at H
              have c8b0 : decide (0 ≤ x5_2) = true := decide_eq_true c8
              clear c8
              obtain ⟨y598, hy598⟩ : ∃ y_ : List Int, y_ = (([x5_2, wrap64 ((x3_2.length : Int) + 1)] : List Int)) := ⟨_, rfl⟩
              replace H : (if x3_2.length < 5864062014805 then (ratlinelaw10_GraphNests.l1 k2 (wrap64 ((Int.tmod (Go.bits .and .i64 a0 65535) 12) + 1)) (x3_2 ++ [y598]) (wrap64 (x5_2 - 1))) else (none)) = some r := by first | (rw [hy598]; with_reducible exact H) | (have H2_ := (Option.bind_some _ _).symm.trans H; rw [hy598]; with_reducible exact H2_) | (have H2_ := (Option.bind_some _ _).symm.trans H; with_reducible exact H2_) | with_reducible exact H | (rw [hy598]; exact H) | exact H
              have Ny598 := Aside0.mk hy598
              clear hy598
              by_cases c9 : x3_2.length < 5864062014805
              · rw [if_pos c9] at H
                have LMc9 := Aside0.mk c9
                clear c9
                obtain ⟨y601, hy601⟩ : ∃ y_ : List (List Int), y_ = (x3_2 ++ [y598]) := ⟨_, rfl⟩
                replace H : (ratlinelaw10_GraphNests.l1 k2 (wrap64 ((Int.tmod (Go.bits .and .i64 a0 65535) 12) + 1)) y601 (wrap64 (x5_2 - 1))) = some r := by first | (rw [hy601]; with_reducible exact H) | (have H2_ := (Option.bind_some _ _).symm.trans H; rw [hy601]; with_reducible exact H2_) | (have H2_ := (Option.bind_some _ _).symm.trans H; with_reducible exact H2_) | with_reducible exact H | (rw [hy601]; exact H) | exact H
                have Ny601 := Aside0.mk hy601
                clear hy601
                have H' := Aside0.mk H
                clear H
                obtain ⟨Ao10, co10, eo10⟩ := Kd.S_slice HO_3.out
                subst eo10
                go_wp2_with (first | ((with_reducible refine gate_dst (N := 36) rfl ?_); (try (refine gate_guard (by rfl) ?_; dsimp only)); refine Kd.R_lit (Kd.int .i64) _ 3 ?hg (N := 36) ?hd (xs := ([x5_2, wrap64 ((x3_2.length : Int) + 1)] : List Int)) (inner := [.int .i64 x5_2, .int .i64 (wrap64 ((x3_2.length : Int) + 1))]) (ok := fun _ => True) (okp := fun _ => True) ?hr ?hp (fun _ hk => hk) trivial (Below.refl _ _) (Nat.le_refl _) (by simp) ?_; (case hd => rfl); (case hg => rfl); (case hr => first | (go_simp; done) | (go_simp; rfl)); (case hp => exact (Reps.one (show Kd.M (Kd.int .i64) _ _ _ x5_2 [.int .i64 x5_2] from rfl) (Reps.one (show Kd.M (Kd.int .i64) _ _ _ (wrap64 ((x3_2.length : Int) + 1)) [.int .i64 (wrap64 ((x3_2.length : Int) + 1))] from rfl) (Reps.none _ _)))); intro v599 w11 ho12 hb hg_ hnew_; clear hg_ hnew_; (first | rw [← Ny598.out] at ho12 | (simp only [Int.reduceToNat] at ho12; rw [← Ny598.out] at ho12)); have n0_ := Aside0.mk (Kd.S_elder' (by (with_reducible repeat (first | apply Kd.S_alloc | apply Kd.S_drewN | apply Kd.S_drew)); exact HO_3.out) (Kd.R_base ho12) hb); have n1_ := Aside0.mk (Kd.R_lower ho12 (below_size (by repeat (first | (with_reducible first | exact HB.out | apply below_alloc | apply pw_below_drewN | apply below_drew1) | exact HB.out)))); have n2_ := Aside0.mk (below_step (by repeat (first | (with_reducible first | exact HB.out | apply below_alloc | apply pw_below_drewN | apply below_drew1) | exact HB.out)) hb); clear HO_3; clear HB; have HO_3 := n0_; have HO600 := n1_; have HB := n2_; clear n0_ n1_ n2_; clear hb ho12; obtain ⟨Ao14, co14, eo14⟩ := Kd.R_slice HO600.out; subst eo14) | ((with_reducible refine gate_builtin (b := .append) (xs := #[.tmp 32, .tmp 37]) rfl ?_); (try (refine gate_guard (by rfl) ?_; dsimp only)); at_builtin; refine Kd.S_append (Kd.slice 3 (Kd.int .i64)) (w0 := w) w.heap.size rfl (.tmp 32) (.tmp 37) 22 25 (.slice none 0 0) 24 rfl Try.underlying22 info25 rfl (by decide) (by omega) (.slice Ao10 x3_2.length co10) x3_2 y598 [.slice Ao14 y598.length co14] (fun _ => True) (fun k_ => some k_ = (.slice Ao14 y598.length co14 : Value).ownBlock) rfl rfl ?aP (fun k_ hk_ => ((Kd.R_mono (ok' := fun k_ => ((fun _ => True)) k_ ∧ some k_ ≠ (.slice Ao10 x3_2.length co10 : Value).ownBlock) (Kd.R_apart' (HO600.out) (Kd.S_typed HO_3.out) (by decide)) (fun k_ hk => ⟨trivial, hk.2⟩))).1 k_ hk_.symm) ?aF ?aO ?aB ?aS ?aL ?_; (case aP => exact Kd.M_row (Kd.R_mono (Kd.R_tight rfl (Kd.R_mono (ok' := fun k_ => ((fun _ => True)) k_ ∧ some k_ ≠ (.slice Ao10 x3_2.length co10 : Value).ownBlock) (Kd.R_apart' (HO600.out) (Kd.S_typed HO_3.out) (by decide)) (fun k_ hk => ⟨trivial, hk.2⟩))) (fun _ h_ => h_))); (case aB => exact (by repeat (first | (with_reducible first | exact HB.out | apply below_alloc | apply pw_below_drewN | apply below_drew1) | exact HB.out))); (case aF => exact (fun _ _ => trivial)); (case aO => exact (by (with_reducible repeat (first | apply Kd.S_alloc | apply Kd.S_drewN | apply Kd.S_drew)); exact Kd.S_mono HO_3.out (fun k_ hk => ⟨trivial, fun e_ => hk.2 e_⟩))); (case aS => exact (below_size (by repeat (first | (with_reducible first | exact HB.out | apply below_alloc | apply pw_below_drewN | apply below_drew1) | exact HB.out)))); (case aL => have := LMc9.out; omega); intro v602 w13 ho hb hg hat; rw [← Ny601.out] at ho; have n0_ := Aside0.mk (hb); have n1_ := Aside0.mk (ho); clear HB; clear HO_3; clear HO600; have HB := n0_; have HO603 := n1_; clear n0_ n1_; clear ho hb hg hat))
                go_roundg k2
                case measure => have := HK1.out; have := HK2.out; omega
                case rel => exact ⟨(y601), (wrap64 (x5_2 - 1)), (by first | rfl | (simp; done) | (simp [*]; done)), H', ⟨by have := HK1.out; have := HK2.out; omega⟩, ⟨by (with_reducible repeat (first | apply Kd.S_alloc | apply Kd.S_drewN | apply Kd.S_drew)); exact HO603.out⟩, ⟨by repeat (first | (with_reducible first | exact HB.out | apply below_alloc | apply pw_below_drewN | apply below_drew1) | exact HB.out)⟩⟩
              · rw [if_neg c9] at H
                exact absurd H (by simp)
            · rw [if_neg c8] at H
              have c8b0 : decide (0 ≤ x5_2) = false := decide_eq_false c8
              clear c8
              by_cases c15 : x3_2.length < 5864062014805
              · rw [if_pos c15] at H
                have LMc15 := Aside0.mk c15
                clear c15
                obtain ⟨y604, hy604⟩ : ∃ y_ : List (List Int), y_ = (x3_2 ++ [[]]) := ⟨_, rfl⟩
                replace H : ((graph_Loops.f k2 y604).bind fun t607 => (if (t607.length : Int) = (wrap64 ((Int.tmod (Go.bits .and .i64 a0 65535) 12) + 1)) then (ratlinelaw10_GraphNests.l2 k2 (wrap64 ((Int.tmod (Go.bits .and .i64 a0 65535) 12) + 1)) t607 0) else (some false))) = some r := by first | (rw [hy604]; with_reducible exact H) | (have H2_ := (Option.bind_some _ _).symm.trans H; rw [hy604]; with_reducible exact H2_) | (have H2_ := (Option.bind_some _ _).symm.trans H; with_reducible exact H2_) | with_reducible exact H | (rw [hy604]; exact H) | exact H
                have Ny604 := Aside0.mk hy604
                clear hy604
                replace H := Option.bind_eq_some_iff.mp H
                obtain ⟨t607, A160, H⟩ := H
                replace H : (if (t607.length : Int) = (wrap64 ((Int.tmod (Go.bits .and .i64 a0 65535) 12) + 1)) then (ratlinelaw10_GraphNests.l2 k2 (wrap64 ((Int.tmod (Go.bits .and .i64 a0 65535) 12) + 1)) t607 0) else (some false)) = some r := H
                have A16 := Aside0.mk A160
                clear A160
                by_cases c17 : (t607.length : Int) = (wrap64 ((Int.tmod (Go.bits .and .i64 a0 65535) 12) + 1))
                · rw [if_pos c17] at H
                  have c17b0 : ((t607.length : Int) == (wrap64 ((Int.tmod (Go.bits .and .i64 a0 65535) 12) + 1))) = true := beq_iff_eq.mpr c17
                  have c17b1 : ((t607.length : Int) != (wrap64 ((Int.tmod (Go.bits .and .i64 a0 65535) 12) + 1))) = false := bne_eq_false_iff_eq.mpr c17
                  clear c17
                  have H' := Aside0.mk H
                  clear H
                  go_wp2_with (first | ((with_reducible refine gate_builtin (b := .append) (xs := #[.tmp 39, .tmp 40]) rfl ?_); (try (refine gate_guard (by rfl) ?_; dsimp only)); at_builtin; refine Kd.S_append (Kd.slice 3 (Kd.int .i64)) (w0 := w) w.heap.size rfl (.tmp 39) (.tmp 40) 22 25 (.slice none 0 0) 24 rfl Try.underlying22 info25 rfl (by decide) (by omega) u3 x3_2 [] [.slice none 0 0] (fun _ => True) (fun _ => False) rfl rfl ?aP (fun _ hk => hk.elim) ?aF ?aO ?aB ?aS ?aL ?_; (case aP => exact Kd.M_row (Kd.R_nil _ _ _ _ _)); (case aB => exact (by repeat (first | (with_reducible first | exact HB.out | apply below_alloc | apply pw_below_drewN | apply below_drew1) | exact HB.out))); (case aF => exact (fun _ _ => trivial)); (case aO => exact (by (with_reducible repeat (first | apply Kd.S_alloc | apply Kd.S_drewN | apply Kd.S_drew)); exact Kd.S_mono HO_3.out (fun k_ hk => ⟨trivial, fun e_ => e_⟩))); (case aS => exact (below_size (by repeat (first | (with_reducible first | exact HB.out | apply below_alloc | apply pw_below_drewN | apply below_drew1) | exact HB.out)))); (case aL => have := LMc15.out; omega); intro v605 w18 ho hb hg hat; rw [← Ny604.out] at ho; have n0_ := Aside0.mk (hb); have n1_ := Aside0.mk (ho); clear HB; clear HO_3; have HB := n0_; have HO606 := n1_; clear n0_ n1_; clear ho hb hg hat; obtain ⟨Ao19, co19, eo19⟩ := Kd.S_slice HO606.out; subst eo19) | ((with_reducible refine gate_callee (f := 17) rfl ?_); refine goesL_ (some 43) rfl rfl Try.func17 (by kernel_rfl) rfl #[.slice Ao19 y604.length co19] rfl (by (try simp only [List.map_toArray, List.map_cons, List.map_nil]); first | done | rfl | (simp only [List.length_drop, List.length_take]; rfl)) ?_; (with_reducible refine (graph_Loops.calls k2 _ _ y604 t607 _ ?side1 ?side2 A16.out).mono ?_); (case side1 => repeat (first | exact (Kd.S_reads' HO606.out).2.2 | (with_reducible refine Kd.C_alloc ?_ _) | (with_reducible refine Kd.C_drewN ?_ _) | (with_reducible refine Kd.C_drew ?_))); (case side2 => exact (Kd.S_reads' HO606.out).2.1); rintro e w20 ⟨v608, rfl, ho0, hb⟩; refine ⟨_, rfl, ?_⟩; have n0_ := Aside0.mk (Kd.S_below (by (with_reducible repeat (first | apply Kd.S_alloc | apply Kd.S_drewN | apply Kd.S_drew)); exact HO606.out) hb); have n1_ := Aside0.mk (Kd.V_lower (Kd.V_mono (ok' := fun k_ => some k_ ≠ (.slice Ao19 y604.length co19 : Value).ownBlock) ho0 (fun k_ hk_ => (Kd.fresh' (Kd.S_lt (by (with_reducible repeat (first | apply Kd.S_alloc | apply Kd.S_drewN | apply Kd.S_drew)); exact HO606.out)) k_ hk_))) (below_size (by repeat (first | (with_reducible first | exact HB.out | apply below_alloc | apply pw_below_drewN | apply below_drew1) | exact HB.out)))); have n2_ := Aside0.mk (below_step (by repeat (first | (with_reducible first | exact HB.out | apply below_alloc | apply pw_below_drewN | apply below_drew1) | exact HB.out)) hb); clear HO606; clear HB; have HO606 := n0_; have HO609 := n1_; have HB := n2_; clear n0_ n1_ n2_; (try clear hb); (try clear hb2); (try clear hk); (try clear hi); (try clear ho0); obtain ⟨Ao21, co21, eo21⟩ := Kd.V_slice HO609.out; subst eo21))
                  go_loopg [8] k2 (fun kq v8 w' => ∃ (x8_3 : Int), v8 = .int .i64 x8_3 ∧ Aside0 (ratlinelaw10_GraphNests.l2 kq (wrap64 ((Int.tmod (Go.bits .and .i64 a0 65535) 12) + 1)) t607 x8_3 = some r) ∧ Aside0 (kq ≤ k2) ∧ Aside0 (Kd.V k37 37 w' w.heap.size (fun _ => True) (.slice Ao21 t607.length co21) t607) ∧ Aside0 (Below w.heap.size w w'))
                  case atStart => exact ⟨(0), (by first | rfl | (simp; done) | (simp [*]; done)), H', ⟨Nat.le_refl _⟩, ⟨by (with_reducible repeat (first | apply Kd.V_alloc | apply Kd.V_drewN | apply Kd.V_drew)); exact Kd.V_mono HO609.out (fun _ hk => trivial)⟩, ⟨by repeat (first | (with_reducible first | exact HB.out | apply below_alloc | apply pw_below_drewN | apply below_drew1) | exact HB.out)⟩⟩
                  case round =>
                    clear H'
                    try clear c1
                    try clear c2
                    try clear c2b0
                    try clear p2
                    try clear c3
                    try clear c4
                    try clear p6
                    try clear c8
                    try clear c8b0
                    try clear c9
                    try clear c15
                    try clear c17
                    try clear c17b0
                    try clear c17b1
                    try clear p2
                    try clear p6
                    obtain ⟨x8_3, rfl, HA, HK3, HO_7, HB⟩ := hrel
                    cases gk with
                    | zero => exact absurd HA.out (by simp [ratlinelaw10_GraphNests.l2])
                    | succ k3 =>
                      have H := HA.out
                      clear HA
                      simp only [ratlinelaw10_GraphNests.l2] at H
                      by_cases c22 : x8_3 < (wrap64 ((Int.tmod (Go.bits .and .i64 a0 65535) 12) + 1))
                      · rw [if_pos c22] at H
                        have c22b0 : decide (x8_3 < (wrap64 ((Int.tmod (Go.bits .and .i64 a0 65535) 12) + 1))) = true := decide_eq_true c22
                        clear c22
                        by_cases c23 : 0 ≤ x8_3
                        · rw [if_pos c23] at H
                          have c23b0 : decide (0 ≤ x8_3) = true := decide_eq_true c23
                          clear c23
                          by_cases c24 : x8_3 < (t607.length : Int)
                          · rw [if_pos c24] at H
                            have c24b0 : decide (x8_3 < (t607.length : Int)) = true := decide_eq_true c24
                            clear c24
                            by_cases c25 : ((rd_T37 t607 x8_3).f0) = x8_3
                            · rw [if_pos c25] at H
                              have c25b0 : (((rd_T37 t607 x8_3).f0) == x8_3) = true := beq_iff_eq.mpr c25
                              have c25b1 : (((rd_T37 t607 x8_3).f0) != x8_3) = false := bne_eq_false_iff_eq.mpr c25
                              clear c25
                              by_cases c26 : ((rd_T37 t607 x8_3).f2) = (wrap64 (x8_3 - 1))
                              · rw [if_pos c26] at H
                                have c26b0 : (((rd_T37 t607 x8_3).f2) == (wrap64 (x8_3 - 1))) = true := beq_iff_eq.mpr c26
                                have c26b1 : (((rd_T37 t607 x8_3).f2) != (wrap64 (x8_3 - 1))) = false := bne_eq_false_iff_eq.mpr c26
                                clear c26
                                by_cases c27 : (((rd_T37 t607 x8_3).f1).length : Int) = (wrap64 (2 * (wrap64 ((wrap64 ((Int.tmod (Go.bits .and .i64 a0 65535) 12) + 1)) - x8_3))))
                                · rw [if_pos c27] at H
                                  have c27b0 : ((((rd_T37 t607 x8_3).f1).length : Int) == (wrap64 (2 * (wrap64 ((wrap64 ((Int.tmod (Go.bits .and .i64 a0 65535) 12) + 1)) - x8_3))))) = true := beq_iff_eq.mpr c27
                                  have c27b1 : ((((rd_T37 t607 x8_3).f1).length : Int) != (wrap64 (2 * (wrap64 ((wrap64 ((Int.tmod (Go.bits .and .i64 a0 65535) 12) + 1)) - x8_3))))) = false := bne_eq_false_iff_eq.mpr c27
                                  clear c27
                                  have H' := Aside0.mk H
                                  clear H
                                  have p610 : 0 ≤ (x8_3 : Int) := of_decide_eq_true (by first | (with_reducible assumption) | assumption)
                                  have q610 : x8_3 < (t607.length : Int) := of_decide_eq_true (by first | (with_reducible assumption) | assumption)
                                  obtain ⟨ad610, A610_1, c610_1, e610, hx610_0, hx610_1, hx610_2, hl610_1, hi610_1⟩ := at_T37 (Kd.V_reads' HO_7.out).2.2 x8_3 p610 q610
                                  cases e610
                                  obtain ⟨ce610, hce610, hMe610, hcc610⟩ := Kd.V_get HO_7.out z37 x8_3 p610 (by first | exact q610 | exact of_decide_eq_true (by first | (with_reducible assumption) | assumption) | (have e_ := (Kd.V_reads' HO_7.out).1; omega))
                                  obtain ⟨ua610_1, uc610_1, rfl, ul610_1, ge610_1⟩ := k37_openF hMe610
                                  have hv610_1 := hcc610 1 _ rfl
                                  rw [add_field _ _ 1 (by omega)] at hv610_1
                                  replace hv610_1 := Option.some.inj (hv610_1.symm.trans hx610_1)
                                  injection hv610_1 with hva_ hvn_ hvc_
                                  rw [hva_] at ge610_1
                                  rw [hvc_] at ul610_1
                                  have HL610_1 := Aside0.mk (show Kd.V (Kd.int .i64) 3 _ w.heap.size _ _ ((rd_T37 t607 x8_3).f1) from Kd.V_mk ul610_1 ge610_1)
                                  clear hva_ hvn_ hvc_ ge610_1 ul610_1
                                  clear hcc610 hce610
                                  have HR610_1 := Aside0.mk hi610_1
                                  have HC610_1 := Aside0.mk hl610_1
                                  clear hi610_1 hl610_1
                                  replace p610 := eq_true p610
                                  replace q610 := eq_true q610
                                  have p611 : 0 ≤ (x8_3 : Int) := of_decide_eq_true (by first | (with_reducible assumption) | assumption)
                                  have q611 : x8_3 < (t607.length : Int) := of_decide_eq_true (by first | (with_reducible assumption) | assumption)
                                  obtain ⟨ad611, A611_1, c611_1, e611, hx611_0, hx611_1, hx611_2, hl611_1, hi611_1⟩ := at_T37 (Kd.V_reads' HO_7.out).2.2 x8_3 p611 q611
                                  obtain rfl : ad610 = ad611 := (by injection e611)
                                  obtain ⟨ce611, hce611, hMe611, hcc611⟩ := Kd.V_get HO_7.out z37 x8_3 p611 (by first | exact q611 | exact of_decide_eq_true (by first | (with_reducible assumption) | assumption) | (have e_ := (Kd.V_reads' HO_7.out).1; omega))
                                  obtain ⟨ua611_1, uc611_1, rfl, ul611_1, ge611_1⟩ := k37_openF hMe611
                                  have hv611_1 := hcc611 1 _ rfl
                                  rw [add_field _ _ 1 (by omega)] at hv611_1
                                  replace hv611_1 := Option.some.inj (hv611_1.symm.trans hx611_1)
                                  injection hv611_1 with hva_ hvn_ hvc_
                                  rw [hva_] at ge611_1
                                  rw [hvc_] at ul611_1
                                  have HL611_1 := Aside0.mk (show Kd.V (Kd.int .i64) 3 _ w.heap.size _ _ ((rd_T37 t607 x8_3).f1) from Kd.V_mk ul611_1 ge611_1)
                                  clear hva_ hvn_ hvc_ ge611_1 ul611_1
                                  clear hcc611 hce611
                                  have HR611_1 := Aside0.mk hi611_1
                                  have HC611_1 := Aside0.mk hl611_1
                                  clear hi611_1 hl611_1
                                  replace p611 := eq_true p611
                                  replace q611 := eq_true q611
                                  have ea_ := Option.some.inj (hx610_1.symm.trans hx611_1)
                                  injection ea_ with ea_ en_ ec_
                                  subst ea_
                                  subst ec_
                                  clear en_
                                  have p612 : 0 ≤ (x8_3 : Int) := of_decide_eq_true (by first | (with_reducible assumption) | assumption)
                                  have q612 : x8_3 < (t607.length : Int) := of_decide_eq_true (by first | (with_reducible assumption) | assumption)
                                  obtain ⟨ad612, A612_1, c612_1, e612, hx612_0, hx612_1, hx612_2, hl612_1, hi612_1⟩ := at_T37 (Kd.V_reads' HO_7.out).2.2 x8_3 p612 q612
                                  obtain rfl : ad610 = ad612 := (by injection e612)
                                  obtain ⟨ce612, hce612, hMe612, hcc612⟩ := Kd.V_get HO_7.out z37 x8_3 p612 (by first | exact q612 | exact of_decide_eq_true (by first | (with_reducible assumption) | assumption) | (have e_ := (Kd.V_reads' HO_7.out).1; omega))
                                  obtain ⟨ua612_1, uc612_1, rfl, ul612_1, ge612_1⟩ := k37_openF hMe612
                                  have hv612_1 := hcc612 1 _ rfl
                                  rw [add_field _ _ 1 (by omega)] at hv612_1
                                  replace hv612_1 := Option.some.inj (hv612_1.symm.trans hx612_1)
                                  injection hv612_1 with hva_ hvn_ hvc_
                                  rw [hva_] at ge612_1
                                  rw [hvc_] at ul612_1
                                  have HL612_1 := Aside0.mk (show Kd.V (Kd.int .i64) 3 _ w.heap.size _ _ ((rd_T37 t607 x8_3).f1) from Kd.V_mk ul612_1 ge612_1)
                                  clear hva_ hvn_ hvc_ ge612_1 ul612_1
                                  clear hcc612 hce612
                                  have HR612_1 := Aside0.mk hi612_1
                                  have HC612_1 := Aside0.mk hl612_1
                                  clear hi612_1 hl612_1
                                  replace p612 := eq_true p612
                                  replace q612 := eq_true q612
                                  have ea_ := Option.some.inj (hx610_1.symm.trans hx612_1)
                                  injection ea_ with ea_ en_ ec_
                                  subst ea_
                                  subst ec_
                                  clear en_
                                  go_wp2
                                  go_roundg k3
                                  case measure => have := HK1.out; have := HK2.out; have := HK3.out; omega
                                  case rel => exact ⟨(wrap64 (x8_3 + 1)), (by first | rfl | (simp; done) | (simp [*]; done)), H', ⟨by have := HK1.out; have := HK2.out; have := HK3.out; omega⟩, ⟨by (with_reducible repeat (first | apply Kd.V_alloc | apply Kd.V_drewN | apply Kd.V_drew)); exact HO_7.out⟩, ⟨by repeat (first | (with_reducible first | exact HB.out | apply below_alloc | apply pw_below_drewN | apply below_drew1) | exact HB.out)⟩⟩
                                · rw [if_neg c27] at H
                                  have c27b0 : ((((rd_T37 t607 x8_3).f1).length : Int) == (wrap64 (2 * (wrap64 ((wrap64 ((Int.tmod (Go.bits .and .i64 a0 65535) 12) + 1)) - x8_3))))) = false := beq_eq_false_iff_ne.mpr c27
                                  have c27b1 : ((((rd_T37 t607 x8_3).f1).length : Int) != (wrap64 (2 * (wrap64 ((wrap64 ((Int.tmod (Go.bits .and .i64 a0 65535) 12) + 1)) - x8_3))))) = true := bne_iff_ne.mpr c27
                                  obtain rfl := Option.some.inj H
                                  have p610 : 0 ≤ (x8_3 : Int) := of_decide_eq_true (by first | (with_reducible assumption) | assumption)
                                  have q610 : x8_3 < (t607.length : Int) := of_decide_eq_true (by first | (with_reducible assumption) | assumption)
                                  obtain ⟨ad610, A610_1, c610_1, e610, hx610_0, hx610_1, hx610_2, hl610_1, hi610_1⟩ := at_T37 (Kd.V_reads' HO_7.out).2.2 x8_3 p610 q610
                                  cases e610
                                  obtain ⟨ce610, hce610, hMe610, hcc610⟩ := Kd.V_get HO_7.out z37 x8_3 p610 (by first | exact q610 | exact of_decide_eq_true (by first | (with_reducible assumption) | assumption) | (have e_ := (Kd.V_reads' HO_7.out).1; omega))
                                  obtain ⟨ua610_1, uc610_1, rfl, ul610_1, ge610_1⟩ := k37_openF hMe610
                                  have hv610_1 := hcc610 1 _ rfl
                                  rw [add_field _ _ 1 (by omega)] at hv610_1
                                  replace hv610_1 := Option.some.inj (hv610_1.symm.trans hx610_1)
                                  injection hv610_1 with hva_ hvn_ hvc_
                                  rw [hva_] at ge610_1
                                  rw [hvc_] at ul610_1
                                  have HL610_1 := Aside0.mk (show Kd.V (Kd.int .i64) 3 _ w.heap.size _ _ ((rd_T37 t607 x8_3).f1) from Kd.V_mk ul610_1 ge610_1)
                                  clear hva_ hvn_ hvc_ ge610_1 ul610_1
                                  clear hcc610 hce610
                                  have HR610_1 := Aside0.mk hi610_1
                                  have HC610_1 := Aside0.mk hl610_1
                                  clear hi610_1 hl610_1
                                  replace p610 := eq_true p610
                                  replace q610 := eq_true q610
                                  have p611 : 0 ≤ (x8_3 : Int) := of_decide_eq_true (by first | (with_reducible assumption) | assumption)
                                  have q611 : x8_3 < (t607.length : Int) := of_decide_eq_true (by first | (with_reducible assumption) | assumption)
                                  obtain ⟨ad611, A611_1, c611_1, e611, hx611_0, hx611_1, hx611_2, hl611_1, hi611_1⟩ := at_T37 (Kd.V_reads' HO_7.out).2.2 x8_3 p611 q611
                                  obtain rfl : ad610 = ad611 := (by injection e611)
                                  obtain ⟨ce611, hce611, hMe611, hcc611⟩ := Kd.V_get HO_7.out z37 x8_3 p611 (by first | exact q611 | exact of_decide_eq_true (by first | (with_reducible assumption) | assumption) | (have e_ := (Kd.V_reads' HO_7.out).1; omega))
                                  obtain ⟨ua611_1, uc611_1, rfl, ul611_1, ge611_1⟩ := k37_openF hMe611
                                  have hv611_1 := hcc611 1 _ rfl
                                  rw [add_field _ _ 1 (by omega)] at hv611_1
                                  replace hv611_1 := Option.some.inj (hv611_1.symm.trans hx611_1)
                                  injection hv611_1 with hva_ hvn_ hvc_
                                  rw [hva_] at ge611_1
                                  rw [hvc_] at ul611_1
                                  have HL611_1 := Aside0.mk (show Kd.V (Kd.int .i64) 3 _ w.heap.size _ _ ((rd_T37 t607 x8_3).f1) from Kd.V_mk ul611_1 ge611_1)
                                  clear hva_ hvn_ hvc_ ge611_1 ul611_1
                                  clear hcc611 hce611
                                  have HR611_1 := Aside0.mk hi611_1
                                  have HC611_1 := Aside0.mk hl611_1
                                  clear hi611_1 hl611_1
                                  replace p611 := eq_true p611
                                  replace q611 := eq_true q611
                                  have ea_ := Option.some.inj (hx610_1.symm.trans hx611_1)
                                  injection ea_ with ea_ en_ ec_
                                  subst ea_
                                  subst ec_
                                  clear en_
                                  have p612 : 0 ≤ (x8_3 : Int) := of_decide_eq_true (by first | (with_reducible assumption) | assumption)
                                  have q612 : x8_3 < (t607.length : Int) := of_decide_eq_true (by first | (with_reducible assumption) | assumption)
                                  obtain ⟨ad612, A612_1, c612_1, e612, hx612_0, hx612_1, hx612_2, hl612_1, hi612_1⟩ := at_T37 (Kd.V_reads' HO_7.out).2.2 x8_3 p612 q612
                                  obtain rfl : ad610 = ad612 := (by injection e612)
                                  obtain ⟨ce612, hce612, hMe612, hcc612⟩ := Kd.V_get HO_7.out z37 x8_3 p612 (by first | exact q612 | exact of_decide_eq_true (by first | (with_reducible assumption) | assumption) | (have e_ := (Kd.V_reads' HO_7.out).1; omega))
                                  obtain ⟨ua612_1, uc612_1, rfl, ul612_1, ge612_1⟩ := k37_openF hMe612
                                  have hv612_1 := hcc612 1 _ rfl
                                  rw [add_field _ _ 1 (by omega)] at hv612_1
                                  replace hv612_1 := Option.some.inj (hv612_1.symm.trans hx612_1)
                                  injection hv612_1 with hva_ hvn_ hvc_
                                  rw [hva_] at ge612_1
                                  rw [hvc_] at ul612_1
                                  have HL612_1 := Aside0.mk (show Kd.V (Kd.int .i64) 3 _ w.heap.size _ _ ((rd_T37 t607 x8_3).f1) from Kd.V_mk ul612_1 ge612_1)
                                  clear hva_ hvn_ hvc_ ge612_1 ul612_1
                                  clear hcc612 hce612
                                  have HR612_1 := Aside0.mk hi612_1
                                  have HC612_1 := Aside0.mk hl612_1
                                  clear hi612_1 hl612_1
                                  replace p612 := eq_true p612
                                  replace q612 := eq_true q612
                                  have ea_ := Option.some.inj (hx610_1.symm.trans hx612_1)
                                  injection ea_ with ea_ en_ ec_
                                  subst ea_
                                  subst ec_
                                  clear en_
                                  go_wp2
                                  go_ret
                                  exact ⟨by first | rfl | (simp [errW_none, errW_some] <;> rfl) | (simp [*, errW_none, errW_some] <;> rfl), by repeat (first | (with_reducible first | exact HB.out | apply below_alloc | apply pw_below_drewN | apply below_drew1) | exact HB.out)⟩
                              · rw [if_neg c26] at H
                                have c26b0 : (((rd_T37 t607 x8_3).f2) == (wrap64 (x8_3 - 1))) = false := beq_eq_false_iff_ne.mpr c26
                                have c26b1 : (((rd_T37 t607 x8_3).f2) != (wrap64 (x8_3 - 1))) = true := bne_iff_ne.mpr c26
                                obtain rfl := Option.some.inj H
                                have p610 : 0 ≤ (x8_3 : Int) := of_decide_eq_true (by first | (with_reducible assumption) | assumption)
                                have q610 : x8_3 < (t607.length : Int) := of_decide_eq_true (by first | (with_reducible assumption) | assumption)
                                obtain ⟨ad610, A610_1, c610_1, e610, hx610_0, hx610_1, hx610_2, hl610_1, hi610_1⟩ := at_T37 (Kd.V_reads' HO_7.out).2.2 x8_3 p610 q610
                                cases e610
                                obtain ⟨ce610, hce610, hMe610, hcc610⟩ := Kd.V_get HO_7.out z37 x8_3 p610 (by first | exact q610 | exact of_decide_eq_true (by first | (with_reducible assumption) | assumption) | (have e_ := (Kd.V_reads' HO_7.out).1; omega))
                                obtain ⟨ua610_1, uc610_1, rfl, ul610_1, ge610_1⟩ := k37_openF hMe610
                                have hv610_1 := hcc610 1 _ rfl
                                rw [add_field _ _ 1 (by omega)] at hv610_1
                                replace hv610_1 := Option.some.inj (hv610_1.symm.trans hx610_1)
                                injection hv610_1 with hva_ hvn_ hvc_
                                rw [hva_] at ge610_1
                                rw [hvc_] at ul610_1
                                have HL610_1 := Aside0.mk (show Kd.V (Kd.int .i64) 3 _ w.heap.size _ _ ((rd_T37 t607 x8_3).f1) from Kd.V_mk ul610_1 ge610_1)
                                clear hva_ hvn_ hvc_ ge610_1 ul610_1
                                clear hcc610 hce610
                                have HR610_1 := Aside0.mk hi610_1
                                have HC610_1 := Aside0.mk hl610_1
                                clear hi610_1 hl610_1
                                replace p610 := eq_true p610
                                replace q610 := eq_true q610
                                have p611 : 0 ≤ (x8_3 : Int) := of_decide_eq_true (by first | (with_reducible assumption) | assumption)
                                have q611 : x8_3 < (t607.length : Int) := of_decide_eq_true (by first | (with_reducible assumption) | assumption)
                                obtain ⟨ad611, A611_1, c611_1, e611, hx611_0, hx611_1, hx611_2, hl611_1, hi611_1⟩ := at_T37 (Kd.V_reads' HO_7.out).2.2 x8_3 p611 q611
                                obtain rfl : ad610 = ad611 := (by injection e611)
                                obtain ⟨ce611, hce611, hMe611, hcc611⟩ := Kd.V_get HO_7.out z37 x8_3 p611 (by first | exact q611 | exact of_decide_eq_true (by first | (with_reducible assumption) | assumption) | (have e_ := (Kd.V_reads' HO_7.out).1; omega))
                                obtain ⟨ua611_1, uc611_1, rfl, ul611_1, ge611_1⟩ := k37_openF hMe611
                                have hv611_1 := hcc611 1 _ rfl
                                rw [add_field _ _ 1 (by omega)] at hv611_1
                                replace hv611_1 := Option.some.inj (hv611_1.symm.trans hx611_1)
                                injection hv611_1 with hva_ hvn_ hvc_
                                rw [hva_] at ge611_1
                                rw [hvc_] at ul611_1
                                have HL611_1 := Aside0.mk (show Kd.V (Kd.int .i64) 3 _ w.heap.size _ _ ((rd_T37 t607 x8_3).f1) from Kd.V_mk ul611_1 ge611_1)
                                clear hva_ hvn_ hvc_ ge611_1 ul611_1
                                clear hcc611 hce611
                                have HR611_1 := Aside0.mk hi611_1
                                have HC611_1 := Aside0.mk hl611_1
                                clear hi611_1 hl611_1
                                replace p611 := eq_true p611
                                replace q611 := eq_true q611
                                have ea_ := Option.some.inj (hx610_1.symm.trans hx611_1)
                                injection ea_ with ea_ en_ ec_
                                subst ea_
                                subst ec_
                                clear en_
                                go_wp2
                                go_ret
                                exact ⟨by first | rfl | (simp [errW_none, errW_some] <;> rfl) | (simp [*, errW_none, errW_some] <;> rfl), by repeat (first | (with_reducible first | exact HB.out | apply below_alloc | apply pw_below_drewN | apply below_drew1) | exact HB.out)⟩
                            · rw [if_neg c25] at H
                              have c25b0 : (((rd_T37 t607 x8_3).f0) == x8_3) = false := beq_eq_false_iff_ne.mpr c25
                              have c25b1 : (((rd_T37 t607 x8_3).f0) != x8_3) = true := bne_iff_ne.mpr c25
                              obtain rfl := Option.some.inj H
                              have p610 : 0 ≤ (x8_3 : Int) := of_decide_eq_true (by first | (with_reducible assumption) | assumption)
                              have q610 : x8_3 < (t607.length : Int) := of_decide_eq_true (by first | (with_reducible assumption) | assumption)
                              obtain ⟨ad610, A610_1, c610_1, e610, hx610_0, hx610_1, hx610_2, hl610_1, hi610_1⟩ := at_T37 (Kd.V_reads' HO_7.out).2.2 x8_3 p610 q610
                              cases e610
                              obtain ⟨ce610, hce610, hMe610, hcc610⟩ := Kd.V_get HO_7.out z37 x8_3 p610 (by first | exact q610 | exact of_decide_eq_true (by first | (with_reducible assumption) | assumption) | (have e_ := (Kd.V_reads' HO_7.out).1; omega))
                              obtain ⟨ua610_1, uc610_1, rfl, ul610_1, ge610_1⟩ := k37_openF hMe610
                              have hv610_1 := hcc610 1 _ rfl
                              rw [add_field _ _ 1 (by omega)] at hv610_1
                              replace hv610_1 := Option.some.inj (hv610_1.symm.trans hx610_1)
                              injection hv610_1 with hva_ hvn_ hvc_
                              rw [hva_] at ge610_1
                              rw [hvc_] at ul610_1
                              have HL610_1 := Aside0.mk (show Kd.V (Kd.int .i64) 3 _ w.heap.size _ _ ((rd_T37 t607 x8_3).f1) from Kd.V_mk ul610_1 ge610_1)
                              clear hva_ hvn_ hvc_ ge610_1 ul610_1
                              clear hcc610 hce610
                              have HR610_1 := Aside0.mk hi610_1
                              have HC610_1 := Aside0.mk hl610_1
                              clear hi610_1 hl610_1
                              replace p610 := eq_true p610
                              replace q610 := eq_true q610
                              go_wp2
                              go_ret
                              exact ⟨by first | rfl | (simp [errW_none, errW_some] <;> rfl) | (simp [*, errW_none, errW_some] <;> rfl), by repeat (first | (with_reducible first | exact HB.out | apply below_alloc | apply pw_below_drewN | apply below_drew1) | exact HB.out)⟩
                          · rw [if_neg c24] at H
                            exact absurd H (by simp)
                        · rw [if_neg c23] at H
                          exact absurd H (by simp)
                      · rw [if_neg c22] at H
                        have c22b0 : decide (x8_3 < (wrap64 ((Int.tmod (Go.bits .and .i64 a0 65535) 12) + 1))) = false := decide_eq_false c22
                        clear c22
                        replace H := Option.bind_eq_some_iff.mp H
                        obtain ⟨t613, A280, H⟩ := H
                        replace H : (some t613) = some r := H
                        have A28 := Aside0.mk A280
                        clear A280
                        obtain rfl := Option.some.inj H
                        go_wp2_with (first | ((with_reducible refine gate_callee (f := 10) rfl ?_); refine goesL_ (some 83) rfl rfl Try.func10 (by kernel_rfl) rfl #[] rfl (by (try simp only [List.map_toArray, List.map_cons, List.map_nil]); first | done | rfl | (simp only [List.length_drop, List.length_take]; rfl)) ?_; (with_reducible refine (ratlinelaw10_awake.calls k3  t613 _ A28.out).mono ?_); rintro e w29 ⟨rfl, hb⟩; refine ⟨_, rfl, ?_⟩; have n0_ := Aside0.mk (Kd.V_below (by (with_reducible repeat (first | apply Kd.V_alloc | apply Kd.V_drewN | apply Kd.V_drew)); exact HO_7.out) hb); have n1_ := Aside0.mk (below_step (by repeat (first | (with_reducible first | exact HB.out | apply below_alloc | apply pw_below_drewN | apply below_drew1) | exact HB.out)) hb); clear HO_7; clear HB; have HO_7 := n0_; have HB := n1_; clear n0_ n1_; (try clear hb); (try clear hb2); (try clear hk); (try clear hi)))
                        go_ret
                        exact ⟨by first | rfl | (simp [errW_none, errW_some] <;> rfl) | (simp [*, errW_none, errW_some] <;> rfl), by repeat (first | (with_reducible first | exact HB.out | apply below_alloc | apply pw_below_drewN | apply below_drew1) | exact HB.out)⟩
                · rw [if_neg c17] at H
                  have c17b0 : ((t607.length : Int) == (wrap64 ((Int.tmod (Go.bits .and .i64 a0 65535) 12) + 1))) = false := beq_eq_false_iff_ne.mpr c17
                  have c17b1 : ((t607.length : Int) != (wrap64 ((Int.tmod (Go.bits .and .i64 a0 65535) 12) + 1))) = true := bne_iff_ne.mpr c17
                  obtain rfl := Option.some.inj H
                  go_wp2_with (first | ((with_reducible refine gate_builtin (b := .append) (xs := #[.tmp 39, .tmp 40]) rfl ?_); (try (refine gate_guard (by rfl) ?_; dsimp only)); at_builtin; refine Kd.S_append (Kd.slice 3 (Kd.int .i64)) (w0 := w) w.heap.size rfl (.tmp 39) (.tmp 40) 22 25 (.slice none 0 0) 24 rfl Try.underlying22 info25 rfl (by decide) (by omega) u3 x3_2 [] [.slice none 0 0] (fun _ => True) (fun _ => False) rfl rfl ?aP (fun _ hk => hk.elim) ?aF ?aO ?aB ?aS ?aL ?_; (case aP => exact Kd.M_row (Kd.R_nil _ _ _ _ _)); (case aB => exact (by repeat (first | (with_reducible first | exact HB.out | apply below_alloc | apply pw_below_drewN | apply below_drew1) | exact HB.out))); (case aF => exact (fun _ _ => trivial)); (case aO => exact (by (with_reducible repeat (first | apply Kd.S_alloc | apply Kd.S_drewN | apply Kd.S_drew)); exact Kd.S_mono HO_3.out (fun k_ hk => ⟨trivial, fun e_ => e_⟩))); (case aS => exact (below_size (by repeat (first | (with_reducible first | exact HB.out | apply below_alloc | apply pw_below_drewN | apply below_drew1) | exact HB.out)))); (case aL => have := LMc15.out; omega); intro v605 w30 ho hb hg hat; rw [← Ny604.out] at ho; have n0_ := Aside0.mk (hb); have n1_ := Aside0.mk (ho); clear HB; clear HO_3; have HB := n0_; have HO606 := n1_; clear n0_ n1_; clear ho hb hg hat; obtain ⟨Ao31, co31, eo31⟩ := Kd.S_slice HO606.out; subst eo31) | ((with_reducible refine gate_callee (f := 17) rfl ?_); refine goesL_ (some 43) rfl rfl Try.func17 (by kernel_rfl) rfl #[.slice Ao31 y604.length co31] rfl (by (try simp only [List.map_toArray, List.map_cons, List.map_nil]); first | done | rfl | (simp only [List.length_drop, List.length_take]; rfl)) ?_; (with_reducible refine (graph_Loops.calls k2 _ _ y604 t607 _ ?side1 ?side2 A16.out).mono ?_); (case side1 => repeat (first | exact (Kd.S_reads' HO606.out).2.2 | (with_reducible refine Kd.C_alloc ?_ _) | (with_reducible refine Kd.C_drewN ?_ _) | (with_reducible refine Kd.C_drew ?_))); (case side2 => exact (Kd.S_reads' HO606.out).2.1); rintro e w32 ⟨v608, rfl, ho0, hb⟩; refine ⟨_, rfl, ?_⟩; have n0_ := Aside0.mk (Kd.S_below (by (with_reducible repeat (first | apply Kd.S_alloc | apply Kd.S_drewN | apply Kd.S_drew)); exact HO606.out) hb); have n1_ := Aside0.mk (Kd.V_lower (Kd.V_mono (ok' := fun k_ => some k_ ≠ (.slice Ao31 y604.length co31 : Value).ownBlock) ho0 (fun k_ hk_ => (Kd.fresh' (Kd.S_lt (by (with_reducible repeat (first | apply Kd.S_alloc | apply Kd.S_drewN | apply Kd.S_drew)); exact HO606.out)) k_ hk_))) (below_size (by repeat (first | (with_reducible first | exact HB.out | apply below_alloc | apply pw_below_drewN | apply below_drew1) | exact HB.out)))); have n2_ := Aside0.mk (below_step (by repeat (first | (with_reducible first | exact HB.out | apply below_alloc | apply pw_below_drewN | apply below_drew1) | exact HB.out)) hb); clear HO606; clear HB; have HO606 := n0_; have HO609 := n1_; have HB := n2_; clear n0_ n1_ n2_; (try clear hb); (try clear hb2); (try clear hk); (try clear hi); (try clear ho0); obtain ⟨Ao33, co33, eo33⟩ := Kd.V_slice HO609.out; subst eo33))
                  go_ret
                  exact ⟨by first | rfl | (simp [errW_none, errW_some] <;> rfl) | (simp [*, errW_none, errW_some] <;> rfl), by repeat (first | (with_reducible first | exact HB.out | apply below_alloc | apply pw_below_drewN | apply below_drew1) | exact HB.out)⟩
              · rw [if_neg c15] at H
                exact absurd H (by simp)

/-- THE ONE PURE STATEMENT of ratlinelaw10_GraphNests: yours. -/
def ratlinelaw10_GraphNests.Pure : Prop := ∀ (a0 : Int), (Lit.int .i64 a0).wf = true → ∃ k, ratlinelaw10_GraphNests.f k a0 = some true
theorem ratlinelaw10_GraphNests.walk (P : ratlinelaw10_GraphNests.Pure) (a0 : Int) (w : World) (w0 : (Lit.int .i64 a0).wf = true) :
    Calls Try.prog 4 #[.int .i64 a0] w fun e w' => e = .returned (.bool true) ∧ Below w.heap.size w w' := by
  obtain ⟨k, h⟩ := P a0 w0
  refine (ratlinelaw10_GraphNests.calls k a0 true w h).mono ?_
  rintro e w' ⟨rfl, hd⟩
  exact ⟨rfl, hd⟩

end Go.Proofs.Ytjflddnmkajleaa.PG
