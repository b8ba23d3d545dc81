-- By the session's own program out of the kit's print, with texts of the session's own for the functions that the print does not take.
import Derived.Test.YtjflddnmkajleaaPGx0
import Derived.Test.YtjflddnmkajleaaPGx24
import Derived.Test.YtjflddnmkajleaaPGx25
namespace Go.Proofs.Ytjflddnmkajleaa.PG
open Go.RowKit Go.Proofs.YtjflddnmkajleaaW.PrintWords Go.Proofs.YtjflddnmkajleaaW.PrintLast Go.Proofs.YtjflddnmkajleaaW.PrintMore
attribute [local go_sem] max2_int min2_int max_two min_two max_three min_three max_four min_four   -- for this text's walks alone
set_option linter.unusedVariables false
set_option linter.unusedSimpArgs false

/-! ### ratlineref10_Over: function 14 -/
mutual
def ratlineref10_Over.l0 : Nat → List (List Int) → List Bool → List (List Bool) → Int → Option ((List (List Bool)))
  | 0, _, _, _, _ => none
  | k + 1, x3, x4, x5, x6 => if x6 < (x3.length : Int) then ((ratlineref10_from.f k x3 0 x6).bind fun t458 => (if 0 ≤ (x3.length : Int) then (if ((x3.length : Int) : Int).toNat ≤ 281474976710656 then (ratlineref10_Over.l1 k x3 x4 x5 x6 t458 (List.replicate ((x3.length : Int) : Int).toNat false) 0) else (none)) else (none))) else (some x5)
def ratlineref10_Over.l1 : Nat → List (List Int) → List Bool → List (List Bool) → Int → List Bool → List Bool → Int → Option ((List (List Bool)))
  | 0, _, _, _, _, _, _, _ => none
  | k + 1, x3, x4, x5, x6, x7, x8, x9 => if x9 < (x3.length : Int) then (if 0 ≤ x6 then (if x6 < (x4.length : Int) then (if rdOf false x4 x6 = true then (if 0 ≤ x9 then (if x9 < (x4.length : Int) then (if rdOf false x4 x9 = true then (if x6 = x9 then (if x9 < (x8.length : Int) then (ratlineref10_Over.l1 k x3 x4 x5 x6 x7 (x8.set (x9 : Int).toNat true) (wrap64 (x9 + 1))) else (none)) else (if x9 < (x7.length : Int) then (if x9 < (x8.length : Int) then (ratlineref10_Over.l1 k x3 x4 x5 x6 x7 (x8.set (x9 : Int).toNat (!(rdOf false x7 x9))) (wrap64 (x9 + 1))) else (none)) else (none))) else (if x9 < (x8.length : Int) then (ratlineref10_Over.l1 k x3 x4 x5 x6 x7 (x8.set (x9 : Int).toNat false) (wrap64 (x9 + 1))) else (none))) else (none)) else (none)) else (if 0 ≤ x9 then (if x9 < (x8.length : Int) then (ratlineref10_Over.l1 k x3 x4 x5 x6 x7 (x8.set (x9 : Int).toNat false) (wrap64 (x9 + 1))) else (none)) else (none))) else (none)) else (none)) else (if x5.length < 5864062014805 then (ratlineref10_Over.l0 k x3 x4 (x5 ++ [x8]) (wrap64 (x6 + 1))) else (none))
end
def ratlineref10_Over.f (k : Nat) (l0 : List (List Int)) : Option ((List (List Bool))) := (ratlineref10_Norm.f k l0).bind fun t452 => ((ratlineref10_from.f k t452 0 (-1)).bind fun t455 => (ratlineref10_Over.l0 k t452 t455 ([] : List (List Bool)) 0))
theorem ratlineref10_Over.mono_l : ∀ k, (∀ y0 y1 y2 y3, LeO (ratlineref10_Over.l0 k y0 y1 y2 y3) (ratlineref10_Over.l0 (k + 1) y0 y1 y2 y3)) ∧ (∀ y0 y1 y2 y3 y4 y5 y6, LeO (ratlineref10_Over.l1 k y0 y1 y2 y3 y4 y5 y6) (ratlineref10_Over.l1 (k + 1) y0 y1 y2 y3 y4 y5 y6))
  | 0 => ⟨fun _ _ _ _ r h => by simp [ratlineref10_Over.l0] at h, fun _ _ _ _ _ _ _ r h => by simp [ratlineref10_Over.l1] at h⟩
  | k + 1 => by
    obtain ⟨ih0, ih1⟩ := ratlineref10_Over.mono_l k
    refine ⟨?_, ?_⟩
    · intro y0 y1 y2 y3
      unfold ratlineref10_Over.l0
      repeat' first
      | (with_reducible exact ih0 _ _ _ _)
      | (with_reducible exact ih1 _ _ _ _ _ _ _)
      | (with_reducible exact ratlineref10_Norm.mono _ _)
      | (with_reducible exact ratlineref10_from.mono _ _ _ _)
      | (with_reducible exact LeO.refl _)
      | (with_reducible exact LeO.none _)
      | (with_reducible refine LeO.ite ?_ ?_)
      | (with_reducible refine LeO.bind ?_ (fun _ => ?_))
      | exact ih0 _ _ _ _
      | exact ih1 _ _ _ _ _ _ _
      | exact ratlineref10_Norm.mono _ _
      | exact ratlineref10_from.mono _ _ _ _
      | exact LeO.none _
      | refine LeO.ite ?_ ?_
      | refine LeO.bind ?_ (fun _ => ?_)
    · intro y0 y1 y2 y3 y4 y5 y6
      unfold ratlineref10_Over.l1
      repeat' first
      | (with_reducible exact ih0 _ _ _ _)
      | (with_reducible exact ih1 _ _ _ _ _ _ _)
      | (with_reducible exact ratlineref10_Norm.mono _ _)
      | (with_reducible exact ratlineref10_from.mono _ _ _ _)
      | (with_reducible exact LeO.refl _)
      | (with_reducible exact LeO.none _)
      | (with_reducible refine LeO.ite ?_ ?_)
      | (with_reducible refine LeO.bind ?_ (fun _ => ?_))
      | exact ih0 _ _ _ _
      | exact ih1 _ _ _ _ _ _ _
      | exact ratlineref10_Norm.mono _ _
      | exact ratlineref10_from.mono _ _ _ _
      | exact LeO.none _
      | refine LeO.ite ?_ ?_
      | refine LeO.bind ?_ (fun _ => ?_)
theorem ratlineref10_Over.mono : ∀ a0 k, LeO (ratlineref10_Over.f k a0) (ratlineref10_Over.f (k + 1) a0) := by
  intro a0 k
  obtain ⟨ih0, ih1⟩ := ratlineref10_Over.mono_l k
  unfold ratlineref10_Over.f
  repeat' first
      | (with_reducible exact ih0 _ _ _ _)
      | (with_reducible exact ih1 _ _ _ _ _ _ _)
      | (with_reducible exact ratlineref10_Norm.mono _ _)
      | (with_reducible exact ratlineref10_from.mono _ _ _ _)
      | (with_reducible exact LeO.refl _)
      | (with_reducible exact LeO.none _)
      | (with_reducible refine LeO.ite ?_ ?_)
      | (with_reducible refine LeO.bind ?_ (fun _ => ?_))
      | exact ih0 _ _ _ _
      | exact ih1 _ _ _ _ _ _ _
      | exact ratlineref10_Norm.mono _ _
      | exact ratlineref10_from.mono _ _ _ _
      | exact LeO.none _
      | refine LeO.ite ?_ ?_
      | refine LeO.bind ?_ (fun _ => ?_)
set_option maxHeartbeats 8000000 in
set_option maxRecDepth 100000 in
theorem ratlineref10_Over.calls (k : Nat) (A0 : Option Addr) (c0 : Nat) (l0 : List (List Int)) (r : List (List Bool)) (w : World) (hr0 : Kd.C (Kd.slice 3 (Kd.int .i64)) w A0 l0.length l0) (hc0 : l0.length ≤ c0) (h : ratlineref10_Over.f k l0 = some r) :
    Calls Try.prog 14 #[.slice A0 l0.length c0] w fun e w' => ∃ v0_ : Value, e = .returned (v0_) ∧ Kd.S (Kd.slice 4 Kd.bool) 30 w' w.heap.size (fun _ => True) v0_ r ∧ Below w.heap.size w w' := by
  have HR0 := Aside0.mk hr0
  have HC0 := Aside0.mk hc0
  clear hr0 hc0
  have HB := Aside0.mk (Below.refl w.heap.size w)
  have H : ((ratlineref10_Norm.f k l0).bind fun t452 => ((ratlineref10_from.f k t452 0 (-1)).bind fun t455 => (ratlineref10_Over.l0 k t452 t455 ([] : List (List Bool)) 0))) = some r := h
  clear h
  replace H := Option.bind_eq_some_iff.mp H
  obtain ⟨t452, A20, H⟩ := H
  replace H : ((ratlineref10_from.f k t452 0 (-1)).bind fun t455 => (ratlineref10_Over.l0 k t452 t455 ([] : List (List Bool)) 0)) = some r := H
  have A2 := Aside0.mk A20
  clear A20
  replace H := Option.bind_eq_some_iff.mp H
  obtain ⟨t455, A30, H⟩ := H
  replace H : (ratlineref10_Over.l0 k t452 t455 ([] : List (List Bool)) 0) = some r := H
  have A3 := Aside0.mk A30
  clear A30
  have H' := Aside0.mk H
  clear H
  go_enter Try.func14, Try.ntmps14
  go_wp2_with (first | ((with_reducible refine gate_callee (f := 28) rfl ?_); refine goesL_ (some 11) rfl rfl Try.func28 (by kernel_rfl) rfl #[.slice A0 l0.length c0] rfl (by (try simp only [List.map_toArray, List.map_cons, List.map_nil]); first | done | rfl | (simp only [List.length_drop, List.length_take]; rfl)) ?_; (with_reducible refine (ratlineref10_Norm.calls k _ _ l0 t452 _ ?side1 ?side2 A2.out).mono ?_); (case side1 => repeat (first | exact HR0.out | (with_reducible refine Kd.C_alloc ?_ _) | (with_reducible refine Kd.C_drewN ?_ _) | (with_reducible refine Kd.C_drew ?_))); (case side2 => exact HC0.out); rintro e w4 ⟨v453, rfl, ho0, hb⟩; refine ⟨_, rfl, ?_⟩; have n0_ := Aside0.mk (Kd.S_lower ho0 (below_size (by repeat (first | (with_reducible first | exact HB.out | apply below_alloc | apply pw_below_drewN | apply below_drew1) | exact HB.out)))); have n1_ := Aside0.mk (below_step (by repeat (first | (with_reducible first | exact HB.out | apply below_alloc | apply pw_below_drewN | apply below_drew1) | exact HB.out)) hb); clear HB; have HO454 := n0_; have HB := n1_; clear n0_ n1_; (try clear hb); (try clear hb2); (try clear hk); (try clear hi); (try clear ho0); obtain ⟨Ao5, co5, eo5⟩ := Kd.S_slice HO454.out; subst eo5) | ((with_reducible refine gate_callee (f := 29) rfl ?_); refine goesL_ (some 13) rfl rfl Try.func29 (by kernel_rfl) rfl #[.slice Ao5 t452.length co5, .int .i64 0, .int .i64 (-1)] rfl (by (try simp only [List.map_toArray, List.map_cons, List.map_nil]); first | done | rfl | (simp only [List.length_drop, List.length_take]; rfl)) ?_; (with_reducible refine (ratlineref10_from.calls k _ _ t452 0 (-1) t455 _ ?side1 ?side2 A3.out).mono ?_); (case side1 => repeat (first | exact (Kd.S_reads' HO454.out).2.2 | (with_reducible refine Kd.C_alloc ?_ _) | (with_reducible refine Kd.C_drewN ?_ _) | (with_reducible refine Kd.C_drew ?_))); (case side2 => exact (Kd.S_reads' HO454.out).2.1); rintro e w6 ⟨v456, rfl, ho0, hb⟩; refine ⟨_, rfl, ?_⟩; have n0_ := Aside0.mk (Kd.S_below (by (with_reducible repeat (first | apply Kd.S_alloc | apply Kd.S_drewN | apply Kd.S_drew)); exact HO454.out) hb); have n1_ := Aside0.mk (Kd.R_lower ho0 (below_size (by repeat (first | (with_reducible first | exact HB.out | apply below_alloc | apply pw_below_drewN | apply below_drew1) | exact HB.out)))); have n2_ := Aside0.mk (below_step (by repeat (first | (with_reducible first | exact HB.out | apply below_alloc | apply pw_below_drewN | apply below_drew1) | exact HB.out)) hb); clear HO454; clear HB; have HO454 := n0_; have HO457 := n1_; have HB := n2_; clear n0_ n1_ n2_; (try clear hb); (try clear hb2); (try clear hk); (try clear hi); (try clear ho0)))
  go_loopg [5, 6] k (fun kq v5 v6 w' => ∃ (x4_1 : List Bool) (x5_1 : List (List Bool)) (x6_1 : Int), v6 = .int .i64 x6_1 ∧ Aside0 (ratlineref10_Over.l0 kq t452 x4_1 x5_1 x6_1 = some r) ∧ Aside0 (kq ≤ k) ∧ Aside0 (Kd.S (Kd.slice 3 (Kd.int .i64)) 25 w' w.heap.size (fun _ => True) (.slice Ao5 t452.length co5) t452) ∧ Aside0 (Kd.R Kd.bool 4 w' w.heap.size (fun _ => True) v456 x4_1) ∧ Aside0 (Kd.S (Kd.slice 4 Kd.bool) 30 w' w.heap.size (fun k_ => some k_ ≠ (v456 : Value).ownBlock) v5 x5_1) ∧ Aside0 (Below w.heap.size w w'))
  case atStart => exact ⟨(t455), (([] : List (List Bool))), (0), (by first | rfl | (simp; done) | (simp [*]; done)), H', ⟨Nat.le_refl _⟩, ⟨by (with_reducible repeat (first | apply Kd.S_alloc | apply Kd.S_drewN | apply Kd.S_drew)); exact HO454.out⟩, ⟨by (with_reducible repeat (first | apply Kd.R_alloc | apply Kd.R_drewN | apply Kd.R_drew)); exact HO457.out⟩, ⟨by first | exact Kd.S_nil _ _ _ _ _ | exact Kd.N_nil _ _ _ _ _ | exact Kd.V_nil _ _ _ _ _ | exact Kd.Q_nil _ _ _ _ _ | exact Kd.R_nil _ _ _ _ _⟩, ⟨by repeat (first | (with_reducible first | exact HB.out | apply below_alloc | apply pw_below_drewN | apply below_drew1) | exact HB.out)⟩⟩
  case round =>
    clear H'
    try clear c1
    try clear c2
    try clear p2
    obtain ⟨x4_1, x5_1, x6_1, rfl, HA, HK1, HO_3, HO_4, HO_5, HB⟩ := hrel
    cases gk with
    | zero => exact absurd HA.out (by simp [ratlineref10_Over.l0])
    | succ k1 =>
      have H := HA.out
      clear HA
      simp only [ratlineref10_Over.l0] at H
      by_cases c7 : x6_1 < (t452.length : Int)
      · rw [if_pos c7] at H
        have c7b0 : decide (x6_1 < (t452.length : Int)) = true := decide_eq_true c7
        clear c7
        replace H := Option.bind_eq_some_iff.mp H
        obtain ⟨t458, A80, H⟩ := H
        replace H : (if 0 ≤ (t452.length : Int) then (if ((t452.length : Int) : Int).toNat ≤ 281474976710656 then (ratlineref10_Over.l1 k1 t452 x4_1 x5_1 x6_1 t458 (List.replicate ((t452.length : Int) : Int).toNat false) 0) else (none)) else (none)) = some r := H
        have A8 := Aside0.mk A80
        clear A80
        by_cases c9 : 0 ≤ (t452.length : Int)
        · rw [if_pos c9] at H
          have c9b0 := eq_true c9
          have c9b1 : decide (0 ≤ (t452.length : Int)) = true := decide_eq_true c9
          clear c9
          by_cases c10 : ((t452.length : Int) : Int).toNat ≤ 281474976710656
          · rw [if_pos c10] at H
            have c10b0 := eq_true c10
            have c10b1 : decide (((t452.length : Int) : Int).toNat ≤ 281474976710656) = true := decide_eq_true c10
            clear c10
            obtain ⟨y461, hy461⟩ : ∃ y_ : List Bool, y_ = (List.replicate ((t452.length : Int) : Int).toNat false) := ⟨_, rfl⟩
            replace H : (ratlineref10_Over.l1 k1 t452 x4_1 x5_1 x6_1 t458 y461 0) = some r := by first | (rw [hy461]; with_reducible exact H) | (have H2_ := (Option.bind_some _ _).symm.trans H; rw [hy461]; with_reducible exact H2_) | (have H2_ := (Option.bind_some _ _).symm.trans H; with_reducible exact H2_) | with_reducible exact H | (rw [hy461]; exact H) | exact H
            have Ny461 := Aside0.mk hy461
            clear hy461
            have H' := Aside0.mk H
            clear H
            go_wp2_with (first | ((with_reducible refine gate_callee (f := 29) rfl ?_); refine goesL_ (some 22) rfl rfl Try.func29 (by kernel_rfl) rfl #[.slice Ao5 t452.length co5, .int .i64 0, .int .i64 x6_1] rfl (by (try simp only [List.map_toArray, List.map_cons, List.map_nil]); first | done | rfl | (simp only [List.length_drop, List.length_take]; rfl)) ?_; (with_reducible refine (ratlineref10_from.calls k1 _ _ t452 0 x6_1 t458 _ ?side1 ?side2 A8.out).mono ?_); (case side1 => repeat (first | exact (Kd.S_reads' HO_3.out).2.2 | (with_reducible refine Kd.C_alloc ?_ _) | (with_reducible refine Kd.C_drewN ?_ _) | (with_reducible refine Kd.C_drew ?_))); (case side2 => exact (Kd.S_reads' HO_3.out).2.1); rintro e w11 ⟨v459, rfl, ho0, hb⟩; refine ⟨_, rfl, ?_⟩; have n0_ := Aside0.mk (Kd.S_below (by (with_reducible repeat (first | apply Kd.S_alloc | apply Kd.S_drewN | apply Kd.S_drew)); exact HO_3.out) hb); have n1_ := Aside0.mk (Kd.R_elder' (by (with_reducible repeat (first | apply Kd.R_alloc | apply Kd.R_drewN | apply Kd.R_drew)); exact HO_4.out) (Kd.R_base ho0) hb); have n2_ := Aside0.mk (Kd.S_elder' (by (with_reducible repeat (first | apply Kd.S_alloc | apply Kd.S_drewN | apply Kd.S_drew)); exact HO_5.out) (Kd.R_base ho0) hb); have n3_ := Aside0.mk (Kd.R_lower (Kd.R_new' ho0 (Kd.R_lt (by (with_reducible repeat (first | apply Kd.R_alloc | apply Kd.R_drewN | apply Kd.R_drew)); exact HO_4.out))) (below_size (by repeat (first | (with_reducible first | exact HB.out | apply below_alloc | apply pw_below_drewN | apply below_drew1) | exact HB.out)))); have n4_ := Aside0.mk (below_step (by repeat (first | (with_reducible first | exact HB.out | apply below_alloc | apply pw_below_drewN | apply below_drew1) | exact HB.out)) hb); clear HO_3; clear HO_4; clear HO_5; clear HB; have HO_3 := n0_; have HO_4 := n1_; have HO_5 := n2_; have HO460 := n3_; have HB := n4_; clear n0_ n1_ n2_ n3_ n4_; (try clear hb); (try clear hb2); (try clear hk); (try clear hi); (try clear ho0)) | ((with_reducible refine gate_dst (N := 25) rfl ?_); refine Kd.R_make Kd.bool _ 4 rfl (N := 25) rfl 30 _ _ rfl (t452.length : Int) rfl rfl Try.underlying30 (.bool false) 1 info4 rfl (by decide) (by omega) false (ok := fun _ => True) (okp := fun _ => True) rfl (fun _ hk => hk) trivial (of_decide_eq_true (by first | (with_reducible assumption) | assumption)) (Nat.le_trans (Nat.mul_le_mul_right _ (of_decide_eq_true (by first | (with_reducible assumption) | assumption) : (t452.length : Int).toNat ≤ 281474976710656)) (by omega)) (Below.refl _ _) (Nat.le_refl _) ?_; intro v462 w12 ho13 hb hg_ hnew_; clear hg_ hnew_; (first | rw [← Ny461.out] at ho13 | (simp only [Int.reduceToNat] at ho13; rw [← Ny461.out] at ho13)); have n0_ := Aside0.mk (Kd.S_below (by (with_reducible repeat (first | apply Kd.S_alloc | apply Kd.S_drewN | apply Kd.S_drew)); exact HO_3.out) hb); have n1_ := Aside0.mk (Kd.R_elder' (by (with_reducible repeat (first | apply Kd.R_alloc | apply Kd.R_drewN | apply Kd.R_drew)); exact HO_4.out) (Kd.R_base ho13) hb); have n2_ := Aside0.mk (Kd.S_elder' (by (with_reducible repeat (first | apply Kd.S_alloc | apply Kd.S_drewN | apply Kd.S_drew)); exact HO_5.out) (Kd.R_base ho13) hb); have n3_ := Aside0.mk (Kd.R_elder' (by (with_reducible repeat (first | apply Kd.R_alloc | apply Kd.R_drewN | apply Kd.R_drew)); exact HO460.out) (Kd.R_base ho13) hb); have n4_ := Aside0.mk (Kd.R_lower (Kd.R_new' (Kd.R_new' ho13 (Kd.R_lt (by (with_reducible repeat (first | apply Kd.R_alloc | apply Kd.R_drewN | apply Kd.R_drew)); exact HO_4.out))) (Kd.R_lt (by (with_reducible repeat (first | apply Kd.R_alloc | apply Kd.R_drewN | apply Kd.R_drew)); exact HO460.out))) (below_size (by repeat (first | (with_reducible first | exact HB.out | apply below_alloc | apply pw_below_drewN | apply below_drew1) | exact HB.out)))); have n5_ := Aside0.mk (below_step (by repeat (first | (with_reducible first | exact HB.out | apply below_alloc | apply pw_below_drewN | apply below_drew1) | exact HB.out)) hb); clear HO_3; clear HO_4; clear HO_5; clear HO460; clear HB; have HO_3 := n0_; have HO_4 := n1_; have HO_5 := n2_; have HO460 := n3_; have HO463 := n4_; have HB := n5_; clear n0_ n1_ n2_ n3_ n4_ n5_; clear hb ho13))
            go_loopg [9] k1 (fun kq v9 w' => ∃ (x8_2 : List Bool) (x9_2 : Int), v9 = .int .i64 x9_2 ∧ Aside0 (ratlineref10_Over.l1 kq t452 x4_1 x5_1 x6_1 t458 x8_2 x9_2 = some r) ∧ Aside0 (kq ≤ k1) ∧ Aside0 (Kd.S (Kd.slice 3 (Kd.int .i64)) 25 w' w.heap.size (fun _ => True) (.slice Ao5 t452.length co5) t452) ∧ Aside0 (Kd.R Kd.bool 4 w' w.heap.size (fun k_ => some k_ ≠ (v459 : Value).ownBlock ∧ some k_ ≠ (v462 : Value).ownBlock) v456 x4_1) ∧ Aside0 (Kd.S (Kd.slice 4 Kd.bool) 30 w' w.heap.size (fun k_ => some k_ ≠ (v456 : Value).ownBlock ∧ some k_ ≠ (v459 : Value).ownBlock ∧ some k_ ≠ (v462 : Value).ownBlock) u5 x5_1) ∧ Aside0 (Kd.R Kd.bool 4 w' w.heap.size (fun k_ => some k_ ≠ (v456 : Value).ownBlock ∧ some k_ ≠ (v462 : Value).ownBlock) v459 t458) ∧ Aside0 (Kd.R Kd.bool 4 w' w.heap.size (fun k_ => some k_ ≠ (v456 : Value).ownBlock ∧ some k_ ≠ (v459 : Value).ownBlock) v462 x8_2) ∧ Aside0 (Below w.heap.size w w'))
            case atStart => exact ⟨(y461), (0), (by first | rfl | (simp; done) | (simp [*]; done)), H', ⟨Nat.le_refl _⟩, ⟨by (with_reducible repeat (first | apply Kd.S_alloc | apply Kd.S_drewN | apply Kd.S_drew)); exact HO_3.out⟩, ⟨by (with_reducible repeat (first | apply Kd.R_alloc | apply Kd.R_drewN | apply Kd.R_drew)); exact Kd.R_mono HO_4.out (fun _ hk => ⟨hk.1.2, hk.2⟩)⟩, ⟨by (with_reducible repeat (first | apply Kd.S_alloc | apply Kd.S_drewN | apply Kd.S_drew)); exact Kd.S_mono HO_5.out (fun _ hk => ⟨hk.1.1, ⟨hk.1.2, hk.2⟩⟩)⟩, ⟨by (with_reducible repeat (first | apply Kd.R_alloc | apply Kd.R_drewN | apply Kd.R_drew)); exact Kd.R_mono HO460.out (fun _ hk => ⟨hk.1.2, hk.2⟩)⟩, ⟨by (with_reducible repeat (first | apply Kd.R_alloc | apply Kd.R_drewN | apply Kd.R_drew)); exact Kd.R_mono HO463.out (fun _ hk => ⟨hk.1.2, hk.2⟩)⟩, ⟨by repeat (first | (with_reducible first | exact HB.out | apply below_alloc | apply pw_below_drewN | apply below_drew1) | exact HB.out)⟩⟩
            case round =>
              clear H'
              try clear c1
              try clear c2
              try clear p2
              try clear c7
              try clear c7b0
              try clear c9
              try clear c9b0
              try clear c9b1
              try clear c10
              try clear c10b0
              try clear c10b1
              try clear p2
              obtain ⟨x8_2, x9_2, rfl, HA, HK2, HO_3, HO_4, HO_5, HO_7, HO_8, HB⟩ := hrel
              cases gk with
              | zero => exact absurd HA.out (by simp [ratlineref10_Over.l1])
              | succ k2 =>
                have H := HA.out
                clear HA
                simp only [ratlineref10_Over.l1] at H
                by_cases c14 : x9_2 < (t452.length : Int)
                · rw [if_pos c14] at H
                  have c14b0 : decide (x9_2 < (t452.length : Int)) = true := decide_eq_true c14
                  clear c14
                  by_cases c15 : 0 ≤ x6_1
                  · rw [if_pos c15] at H
                    have c15b0 : decide (0 ≤ x6_1) = true := decide_eq_true c15
                    clear c15
                    by_cases c16 : x6_1 < (x4_1.length : Int)
                    · rw [if_pos c16] at H
                      have c16b0 : decide (x6_1 < (x4_1.length : Int)) = true := decide_eq_true c16
                      clear c16
                      obtain ⟨bq17, hbq17⟩ : ∃ b_ : Bool, b_ = (rdOf false x4_1 x6_1) := ⟨_, rfl⟩
                      replace H : (if bq17 = true then (if 0 ≤ x9_2 then (if x9_2 < (x4_1.length : Int) then (if rdOf false x4_1 x9_2 = true then (if x6_1 = x9_2 then (if x9_2 < (x8_2.length : Int) then (ratlineref10_Over.l1 k2 t452 x4_1 x5_1 x6_1 t458 (x8_2.set (x9_2 : Int).toNat true) (wrap64 (x9_2 + 1))) else (none)) else (if x9_2 < (t458.length : Int) then (if x9_2 < (x8_2.length : Int) then (ratlineref10_Over.l1 k2 t452 x4_1 x5_1 x6_1 t458 (x8_2.set (x9_2 : Int).toNat (!(rdOf false t458 x9_2))) (wrap64 (x9_2 + 1))) else (none)) else (none))) else (if x9_2 < (x8_2.length : Int) then (ratlineref10_Over.l1 k2 t452 x4_1 x5_1 x6_1 t458 (x8_2.set (x9_2 : Int).toNat false) (wrap64 (x9_2 + 1))) else (none))) else (none)) else (none)) else (if 0 ≤ x9_2 then (if x9_2 < (x8_2.length : Int) then (ratlineref10_Over.l1 k2 t452 x4_1 x5_1 x6_1 t458 (x8_2.set (x9_2 : Int).toNat false) (wrap64 (x9_2 + 1))) else (none)) else (none))) = some r := by rw [← hbq17] at H; exact H
                      have Nbq17 := Aside0.mk hbq17
                      clear hbq17
                      by_cases c18 : bq17 = true
                      · subst c18
                        have H1 : (if 0 ≤ x9_2 then (if x9_2 < (x4_1.length : Int) then (if rdOf false x4_1 x9_2 = true then (if x6_1 = x9_2 then (if x9_2 < (x8_2.length : Int) then (ratlineref10_Over.l1 k2 t452 x4_1 x5_1 x6_1 t458 (x8_2.set (x9_2 : Int).toNat true) (wrap64 (x9_2 + 1))) else (none)) else (if x9_2 < (t458.length : Int) then (if x9_2 < (x8_2.length : Int) then (ratlineref10_Over.l1 k2 t452 x4_1 x5_1 x6_1 t458 (x8_2.set (x9_2 : Int).toNat (!(rdOf false t458 x9_2))) (wrap64 (x9_2 + 1))) else (none)) else (none))) else (if x9_2 < (x8_2.length : Int) then (ratlineref10_Over.l1 k2 t452 x4_1 x5_1 x6_1 t458 (x8_2.set (x9_2 : Int).toNat false) (wrap64 (x9_2 + 1))) else (none))) else (none)) else (none)) = some r := by rw [if_pos rfl] at H; exact H
                        clear H
                        have H := H1
                        clear H1
                        by_cases c19 : 0 ≤ x9_2
                        · rw [if_pos c19] at H
                          have c19b0 : decide (0 ≤ x9_2) = true := decide_eq_true c19
                          clear c19
                          by_cases c20 : x9_2 < (x4_1.length : Int)
                          · rw [if_pos c20] at H
                            have c20b0 : decide (x9_2 < (x4_1.length : Int)) = true := decide_eq_true c20
                            clear c20
                            obtain ⟨bq21, hbq21⟩ : ∃ b_ : Bool, b_ = (rdOf false x4_1 x9_2) := ⟨_, rfl⟩
                            replace H : (if bq21 = true then (if x6_1 = x9_2 then (if x9_2 < (x8_2.length : Int) then (ratlineref10_Over.l1 k2 t452 x4_1 x5_1 x6_1 t458 (x8_2.set (x9_2 : Int).toNat true) (wrap64 (x9_2 + 1))) else (none)) else (if x9_2 < (t458.length : Int) then (if x9_2 < (x8_2.length : Int) then (ratlineref10_Over.l1 k2 t452 x4_1 x5_1 x6_1 t458 (x8_2.set (x9_2 : Int).toNat (!(rdOf false t458 x9_2))) (wrap64 (x9_2 + 1))) else (none)) else (none))) else (if x9_2 < (x8_2.length : Int) then (ratlineref10_Over.l1 k2 t452 x4_1 x5_1 x6_1 t458 (x8_2.set (x9_2 : Int).toNat false) (wrap64 (x9_2 + 1))) else (none))) = some r := by rw [← hbq21] at H; exact H
                            have Nbq21 := Aside0.mk hbq21
                            clear hbq21
                            by_cases c22 : bq21 = true
                            · subst c22
                              have H1 : (if x6_1 = x9_2 then (if x9_2 < (x8_2.length : Int) then (ratlineref10_Over.l1 k2 t452 x4_1 x5_1 x6_1 t458 (x8_2.set (x9_2 : Int).toNat true) (wrap64 (x9_2 + 1))) else (none)) else (if x9_2 < (t458.length : Int) then (if x9_2 < (x8_2.length : Int) then (ratlineref10_Over.l1 k2 t452 x4_1 x5_1 x6_1 t458 (x8_2.set (x9_2 : Int).toNat (!(rdOf false t458 x9_2))) (wrap64 (x9_2 + 1))) else (none)) else (none))) = some r := by rw [if_pos rfl] at H; exact H
                              clear H
                              have H := H1
                              clear H1
                              by_cases c23 : x6_1 = x9_2
                              · rw [if_pos c23] at H
                                have c23b0 : (x6_1 == x9_2) = true := beq_iff_eq.mpr c23
                                have c23b1 : (x6_1 != x9_2) = false := bne_eq_false_iff_eq.mpr c23
                                clear c23
                                by_cases c24 : x9_2 < (x8_2.length : Int)
                                · rw [if_pos c24] at H
                                  have c24b0 : decide (x9_2 < (x8_2.length : Int)) = true := decide_eq_true c24
                                  clear c24
                                  obtain ⟨y466, hy466⟩ : ∃ y_ : List Bool, y_ = (x8_2.set (x9_2 : Int).toNat true) := ⟨_, rfl⟩
                                  replace H : (ratlineref10_Over.l1 k2 t452 x4_1 x5_1 x6_1 t458 y466 (wrap64 (x9_2 + 1))) = some r := by first | (rw [hy466]; with_reducible exact H) | (have H2_ := (Option.bind_some _ _).symm.trans H; rw [hy466]; with_reducible exact H2_) | (have H2_ := (Option.bind_some _ _).symm.trans H; with_reducible exact H2_) | with_reducible exact H | (rw [hy466]; exact H) | exact H
                                  have Ny466 := Aside0.mk hy466
                                  clear hy466
                                  have H' := Aside0.mk H
                                  clear H
                                  obtain ⟨Ao26, co26, eo26⟩ := Kd.R_slice HO_4.out
                                  subst eo26
                                  have p464 : 0 ≤ (x6_1 : Int) := of_decide_eq_true (by first | (with_reducible assumption) | assumption)
                                  have q464 : x6_1 < (x4_1.length : Int) := of_decide_eq_true (by first | (with_reducible assumption) | assumption)
                                  obtain ⟨ad464, e464, hx464_0⟩ := Kd.at_bool (Kd.R_reads' HO_4.out).2.2 x6_1 p464 q464
                                  (try rw [← Nbq17.out] at hx464_0)
                                  (try rw [← Nbq21.out] at hx464_0)
                                  cases e464
                                  replace p464 := eq_true p464
                                  replace q464 := eq_true q464
                                  have p465 : 0 ≤ (x9_2 : Int) := of_decide_eq_true (by first | (with_reducible assumption) | assumption)
                                  have q465 : x9_2 < (x4_1.length : Int) := of_decide_eq_true (by first | (with_reducible assumption) | assumption)
                                  obtain ⟨ad465, e465, hx465_0⟩ := Kd.at_bool (Kd.R_reads' HO_4.out).2.2 x9_2 p465 q465
                                  (try rw [← Nbq17.out] at hx465_0)
                                  (try rw [← Nbq21.out] at hx465_0)
                                  obtain rfl : ad464 = ad465 := (by injection e465)
                                  replace p465 := eq_true p465
                                  replace q465 := eq_true q465
                                  have p25 : 0 ≤ (x9_2 : Int) := of_decide_eq_true (by first | (with_reducible assumption) | assumption)
                                  have q25 : (x9_2 : Int) < ((x8_2.length : Int) : Int) := of_decide_eq_true (by first | (with_reducible assumption) | assumption)
                                  obtain ⟨go25, co25, eo25, gb25, gl25, cl25, HG25⟩ := Kd.R_form HO_8.out (by omega)
                                  (first | cases eo25 | (injection eo25 with ea_ en_ ec_; (first | subst ea_ | (injection ea_ with ea_; subst ea_)); subst ec_; clear en_))
                                  have GB25 := Aside0.mk gb25
                                  have GG25 := Aside0.mk HG25
                                  clear gb25 gl25 HG25
                                  obtain ⟨hx25_0, hf25_0⟩ := Kd.R_celln false HO_8.out (x9_2 : Int) p25 q25
                                  replace p25 := eq_true p25
                                  replace q25 := eq_true q25
                                  have HP27 := Kd.R_putg HO_8.out (x9_2 : Int) true
                                  go_wp2_with (first | ((with_reducible refine gate_store (t := 4) (p := 56) rfl ?_); refine store_event (t := 4) (p := 56) (v := ?vo_w28) (w1 := (wr.setCell ⟨go25, (x9_2 : Int).toNat, none⟩ (.bool true))) ?hg ?ho ?hn ?hr ?_; (case ho => rfl); (case hg => rfl); (case hn => rfl); (case hr => first | (go_simp; done) | (go_simp; rfl)); intro w28 hw; have hg : wr.grownBy w28 (some go25) := (by rw [hw]; exact HP27.2); have hp_ : Kd.R Kd.bool 4 w28 w.heap.size (fun k_ => some k_ ≠ (.slice (some ad464) x4_1.length co26 : Value).ownBlock ∧ some k_ ≠ (v459 : Value).ownBlock) (.slice (some ⟨go25, 0, none⟩) x8_2.length co25) y466 := (by rw [hw, Ny466.out]; exact HP27.1); clear HP27; have n0_ := Aside0.mk (Kd.S_over' (v := (.slice (some ⟨go25, 0, none⟩) x8_2.length co25)) (by (with_reducible repeat (first | apply Kd.S_alloc | apply Kd.S_drewN | apply Kd.S_drew)); exact HO_3.out) (Kd.R_typed HO_8.out) (by decide) hg); have n1_ := Aside0.mk (Kd.R_after (v := (.slice (some ⟨go25, 0, none⟩) x8_2.length co25)) (v1 := (.slice (some ⟨go25, 0, none⟩) x8_2.length co25)) (ok := (fun k_ => some k_ ≠ (v459 : Value).ownBlock)) (by (with_reducible repeat (first | apply Kd.R_alloc | apply Kd.R_drewN | apply Kd.R_drew)); exact HO_4.out) hg (.inl rfl)); have n2_ := Aside0.mk (Kd.S_after (v := (.slice (some ⟨go25, 0, none⟩) x8_2.length co25)) (v1 := (.slice (some ⟨go25, 0, none⟩) x8_2.length co25)) (ok := (fun k_ => some k_ ≠ (.slice (some ad464) x4_1.length co26 : Value).ownBlock ∧ some k_ ≠ (v459 : Value).ownBlock)) (by (with_reducible repeat (first | apply Kd.S_alloc | apply Kd.S_drewN | apply Kd.S_drew)); exact Kd.S_mono HO_5.out (fun _ hk => ⟨⟨hk.1, hk.2.1⟩, hk.2.2⟩)) hg (.inl rfl)); have n3_ := Aside0.mk (Kd.R_after (v := (.slice (some ⟨go25, 0, none⟩) x8_2.length co25)) (v1 := (.slice (some ⟨go25, 0, none⟩) x8_2.length co25)) (ok := (fun k_ => some k_ ≠ (.slice (some ad464) x4_1.length co26 : Value).ownBlock)) (by (with_reducible repeat (first | apply Kd.R_alloc | apply Kd.R_drewN | apply Kd.R_drew)); exact HO_7.out) hg (.inl rfl)); have n4_ := Aside0.mk (hp_); have n5_ := Aside0.mk ((by rw [hw]; exact below_set (HB.out) GB25.out : Below w.heap.size w w28)); clear HO_3; clear HO_4; clear HO_5; clear HO_7; clear HO_8; clear HB; have HO_3 := n0_; have HO_4 := n1_; have HO_5 := n2_; have HO_7 := n3_; have HO_8 := n4_; have HB := n5_; clear n0_ n1_ n2_ n3_ n4_ n5_; clear hg hw hp_))
                                  go_roundg k2
                                  case measure => have := HK1.out; have := HK2.out; omega
                                  case rel => exact ⟨(y466), (wrap64 (x9_2 + 1)), (by first | rfl | (simp; done) | (simp [*]; done)), H', ⟨by have := HK1.out; have := HK2.out; omega⟩, ⟨by (with_reducible repeat (first | apply Kd.S_alloc | apply Kd.S_drewN | apply Kd.S_drew)); exact HO_3.out⟩, ⟨by (with_reducible repeat (first | apply Kd.R_alloc | apply Kd.R_drewN | apply Kd.R_drew)); exact HO_4.out⟩, ⟨by (with_reducible repeat (first | apply Kd.S_alloc | apply Kd.S_drewN | apply Kd.S_drew)); exact Kd.S_mono HO_5.out (fun _ hk => ⟨hk.1.1, ⟨hk.1.2, hk.2⟩⟩)⟩, ⟨by (with_reducible repeat (first | apply Kd.R_alloc | apply Kd.R_drewN | apply Kd.R_drew)); exact HO_7.out⟩, ⟨by (with_reducible repeat (first | apply Kd.R_alloc | apply Kd.R_drewN | apply Kd.R_drew)); exact HO_8.out⟩, ⟨by repeat (first | (with_reducible first | exact HB.out | apply below_alloc | apply pw_below_drewN | apply below_drew1) | exact HB.out)⟩⟩
                                · rw [if_neg c24] at H
                                  exact absurd H (by simp)
                              · rw [if_neg c23] at H
                                have c23b0 : (x6_1 == x9_2) = false := beq_eq_false_iff_ne.mpr c23
                                have c23b1 : (x6_1 != x9_2) = true := bne_iff_ne.mpr c23
                                by_cases c29 : x9_2 < (t458.length : Int)
                                · rw [if_pos c29] at H
                                  have c29b0 : decide (x9_2 < (t458.length : Int)) = true := decide_eq_true c29
                                  clear c29
                                  by_cases c30 : x9_2 < (x8_2.length : Int)
                                  · rw [if_pos c30] at H
                                    have c30b0 : decide (x9_2 < (x8_2.length : Int)) = true := decide_eq_true c30
                                    clear c30
                                    obtain ⟨y468, hy468⟩ : ∃ y_ : List Bool, y_ = (x8_2.set (x9_2 : Int).toNat (!(rdOf false t458 x9_2))) := ⟨_, rfl⟩
                                    replace H : (ratlineref10_Over.l1 k2 t452 x4_1 x5_1 x6_1 t458 y468 (wrap64 (x9_2 + 1))) = some r := by first | (rw [hy468]; with_reducible exact H) | (have H2_ := (Option.bind_some _ _).symm.trans H; rw [hy468]; with_reducible exact H2_) | (have H2_ := (Option.bind_some _ _).symm.trans H; with_reducible exact H2_) | with_reducible exact H | (rw [hy468]; exact H) | exact H
                                    have Ny468 := Aside0.mk hy468
                                    clear hy468
                                    have H' := Aside0.mk H
                                    clear H
                                    obtain ⟨Ao32, co32, eo32⟩ := Kd.R_slice HO_4.out
                                    subst eo32
                                    have p464 : 0 ≤ (x6_1 : Int) := of_decide_eq_true (by first | (with_reducible assumption) | assumption)
                                    have q464 : x6_1 < (x4_1.length : Int) := of_decide_eq_true (by first | (with_reducible assumption) | assumption)
                                    obtain ⟨ad464, e464, hx464_0⟩ := Kd.at_bool (Kd.R_reads' HO_4.out).2.2 x6_1 p464 q464
                                    (try rw [← Nbq17.out] at hx464_0)
                                    (try rw [← Nbq21.out] at hx464_0)
                                    cases e464
                                    replace p464 := eq_true p464
                                    replace q464 := eq_true q464
                                    have p465 : 0 ≤ (x9_2 : Int) := of_decide_eq_true (by first | (with_reducible assumption) | assumption)
                                    have q465 : x9_2 < (x4_1.length : Int) := of_decide_eq_true (by first | (with_reducible assumption) | assumption)
                                    obtain ⟨ad465, e465, hx465_0⟩ := Kd.at_bool (Kd.R_reads' HO_4.out).2.2 x9_2 p465 q465
                                    (try rw [← Nbq17.out] at hx465_0)
                                    (try rw [← Nbq21.out] at hx465_0)
                                    obtain rfl : ad464 = ad465 := (by injection e465)
                                    replace p465 := eq_true p465
                                    replace q465 := eq_true q465
                                    obtain ⟨Ao33, co33, eo33⟩ := Kd.R_slice HO_7.out
                                    subst eo33
                                    have p467 : 0 ≤ (x9_2 : Int) := of_decide_eq_true (by first | (with_reducible assumption) | assumption)
                                    have q467 : x9_2 < (t458.length : Int) := of_decide_eq_true (by first | (with_reducible assumption) | assumption)
                                    obtain ⟨ad467, e467, hx467_0⟩ := Kd.at_bool (Kd.R_reads' HO_7.out).2.2 x9_2 p467 q467
                                    (try rw [← Nbq17.out] at hx467_0)
                                    (try rw [← Nbq21.out] at hx467_0)
                                    cases e467
                                    replace p467 := eq_true p467
                                    replace q467 := eq_true q467
                                    have p31 : 0 ≤ (x9_2 : Int) := of_decide_eq_true (by first | (with_reducible assumption) | assumption)
                                    have q31 : (x9_2 : Int) < ((x8_2.length : Int) : Int) := of_decide_eq_true (by first | (with_reducible assumption) | assumption)
                                    obtain ⟨go31, co31, eo31, gb31, gl31, cl31, HG31⟩ := Kd.R_form HO_8.out (by omega)
                                    (first | cases eo31 | (injection eo31 with ea_ en_ ec_; (first | subst ea_ | (injection ea_ with ea_; subst ea_)); subst ec_; clear en_))
                                    have GB31 := Aside0.mk gb31
                                    have GG31 := Aside0.mk HG31
                                    clear gb31 gl31 HG31
                                    obtain ⟨hx31_0, hf31_0⟩ := Kd.R_celln false HO_8.out (x9_2 : Int) p31 q31
                                    replace p31 := eq_true p31
                                    replace q31 := eq_true q31
                                    have HP34 := Kd.R_putg HO_8.out (x9_2 : Int) (!(rdOf false t458 x9_2))
                                    go_wp2_with (first | ((with_reducible refine gate_store (t := 4) (p := 56) rfl ?_); refine store_event (t := 4) (p := 56) (v := ?vo_w35) (w1 := (wr.setCell ⟨go31, (x9_2 : Int).toNat, none⟩ (.bool (!(rdOf false t458 x9_2))))) ?hg ?ho ?hn ?hr ?_; (case ho => rfl); (case hg => rfl); (case hn => rfl); (case hr => first | (go_simp; done) | (go_simp; rfl)); intro w35 hw; have hg : wr.grownBy w35 (some go31) := (by rw [hw]; exact HP34.2); have hp_ : Kd.R Kd.bool 4 w35 w.heap.size (fun k_ => some k_ ≠ (.slice (some ad464) x4_1.length co32 : Value).ownBlock ∧ some k_ ≠ (.slice (some ad467) t458.length co33 : Value).ownBlock) (.slice (some ⟨go31, 0, none⟩) x8_2.length co31) y468 := (by rw [hw, Ny468.out]; exact HP34.1); clear HP34; have n0_ := Aside0.mk (Kd.S_over' (v := (.slice (some ⟨go31, 0, none⟩) x8_2.length co31)) (by (with_reducible repeat (first | apply Kd.S_alloc | apply Kd.S_drewN | apply Kd.S_drew)); exact HO_3.out) (Kd.R_typed HO_8.out) (by decide) hg); have n1_ := Aside0.mk (Kd.R_after (v := (.slice (some ⟨go31, 0, none⟩) x8_2.length co31)) (v1 := (.slice (some ⟨go31, 0, none⟩) x8_2.length co31)) (ok := (fun k_ => some k_ ≠ (.slice (some ad467) t458.length co33 : Value).ownBlock)) (by (with_reducible repeat (first | apply Kd.R_alloc | apply Kd.R_drewN | apply Kd.R_drew)); exact HO_4.out) hg (.inl rfl)); have n2_ := Aside0.mk (Kd.S_after (v := (.slice (some ⟨go31, 0, none⟩) x8_2.length co31)) (v1 := (.slice (some ⟨go31, 0, none⟩) x8_2.length co31)) (ok := (fun k_ => some k_ ≠ (.slice (some ad464) x4_1.length co32 : Value).ownBlock ∧ some k_ ≠ (.slice (some ad467) t458.length co33 : Value).ownBlock)) (by (with_reducible repeat (first | apply Kd.S_alloc | apply Kd.S_drewN | apply Kd.S_drew)); exact Kd.S_mono HO_5.out (fun _ hk => ⟨⟨hk.1, hk.2.1⟩, hk.2.2⟩)) hg (.inl rfl)); have n3_ := Aside0.mk (Kd.R_after (v := (.slice (some ⟨go31, 0, none⟩) x8_2.length co31)) (v1 := (.slice (some ⟨go31, 0, none⟩) x8_2.length co31)) (ok := (fun k_ => some k_ ≠ (.slice (some ad464) x4_1.length co32 : Value).ownBlock)) (by (with_reducible repeat (first | apply Kd.R_alloc | apply Kd.R_drewN | apply Kd.R_drew)); exact HO_7.out) hg (.inl rfl)); have n4_ := Aside0.mk (hp_); have n5_ := Aside0.mk ((by rw [hw]; exact below_set (HB.out) GB31.out : Below w.heap.size w w35)); clear HO_3; clear HO_4; clear HO_5; clear HO_7; clear HO_8; clear HB; have HO_3 := n0_; have HO_4 := n1_; have HO_5 := n2_; have HO_7 := n3_; have HO_8 := n4_; have HB := n5_; clear n0_ n1_ n2_ n3_ n4_ n5_; clear hg hw hp_))
                                    go_roundg k2
                                    case measure => have := HK1.out; have := HK2.out; omega
                                    case rel => exact ⟨(y468), (wrap64 (x9_2 + 1)), (by first | rfl | (simp; done) | (simp [*]; done)), H', ⟨by have := HK1.out; have := HK2.out; omega⟩, ⟨by (with_reducible repeat (first | apply Kd.S_alloc | apply Kd.S_drewN | apply Kd.S_drew)); exact HO_3.out⟩, ⟨by (with_reducible repeat (first | apply Kd.R_alloc | apply Kd.R_drewN | apply Kd.R_drew)); exact HO_4.out⟩, ⟨by (with_reducible repeat (first | apply Kd.S_alloc | apply Kd.S_drewN | apply Kd.S_drew)); exact Kd.S_mono HO_5.out (fun _ hk => ⟨hk.1.1, ⟨hk.1.2, hk.2⟩⟩)⟩, ⟨by (with_reducible repeat (first | apply Kd.R_alloc | apply Kd.R_drewN | apply Kd.R_drew)); exact HO_7.out⟩, ⟨by (with_reducible repeat (first | apply Kd.R_alloc | apply Kd.R_drewN | apply Kd.R_drew)); exact HO_8.out⟩, ⟨by repeat (first | (with_reducible first | exact HB.out | apply below_alloc | apply pw_below_drewN | apply below_drew1) | exact HB.out)⟩⟩
                                  · rw [if_neg c30] at H
                                    exact absurd H (by simp)
                                · rw [if_neg c29] at H
                                  exact absurd H (by simp)
                            · replace c22 := Bool.eq_false_iff.mpr c22
                              subst c22
                              have H1 : (if x9_2 < (x8_2.length : Int) then (ratlineref10_Over.l1 k2 t452 x4_1 x5_1 x6_1 t458 (x8_2.set (x9_2 : Int).toNat false) (wrap64 (x9_2 + 1))) else (none)) = some r := by rw [if_neg (show ¬ (false = true) by decide)] at H; exact H
                              clear H
                              have H := H1
                              clear H1
                              by_cases c36 : x9_2 < (x8_2.length : Int)
                              · rw [if_pos c36] at H
                                have c36b0 : decide (x9_2 < (x8_2.length : Int)) = true := decide_eq_true c36
                                clear c36
                                obtain ⟨y469, hy469⟩ : ∃ y_ : List Bool, y_ = (x8_2.set (x9_2 : Int).toNat false) := ⟨_, rfl⟩
                                replace H : (ratlineref10_Over.l1 k2 t452 x4_1 x5_1 x6_1 t458 y469 (wrap64 (x9_2 + 1))) = some r := by first | (rw [hy469]; with_reducible exact H) | (have H2_ := (Option.bind_some _ _).symm.trans H; rw [hy469]; with_reducible exact H2_) | (have H2_ := (Option.bind_some _ _).symm.trans H; with_reducible exact H2_) | with_reducible exact H | (rw [hy469]; exact H) | exact H
                                have Ny469 := Aside0.mk hy469
                                clear hy469
                                have H' := Aside0.mk H
                                clear H
                                obtain ⟨Ao38, co38, eo38⟩ := Kd.R_slice HO_4.out
                                subst eo38
                                have p464 : 0 ≤ (x6_1 : Int) := of_decide_eq_true (by first | (with_reducible assumption) | assumption)
                                have q464 : x6_1 < (x4_1.length : Int) := of_decide_eq_true (by first | (with_reducible assumption) | assumption)
                                obtain ⟨ad464, e464, hx464_0⟩ := Kd.at_bool (Kd.R_reads' HO_4.out).2.2 x6_1 p464 q464
                                (try rw [← Nbq17.out] at hx464_0)
                                (try rw [← Nbq21.out] at hx464_0)
                                cases e464
                                replace p464 := eq_true p464
                                replace q464 := eq_true q464
                                have p465 : 0 ≤ (x9_2 : Int) := of_decide_eq_true (by first | (with_reducible assumption) | assumption)
                                have q465 : x9_2 < (x4_1.length : Int) := of_decide_eq_true (by first | (with_reducible assumption) | assumption)
                                obtain ⟨ad465, e465, hx465_0⟩ := Kd.at_bool (Kd.R_reads' HO_4.out).2.2 x9_2 p465 q465
                                (try rw [← Nbq17.out] at hx465_0)
                                (try rw [← Nbq21.out] at hx465_0)
                                obtain rfl : ad464 = ad465 := (by injection e465)
                                replace p465 := eq_true p465
                                replace q465 := eq_true q465
                                have p37 : 0 ≤ (x9_2 : Int) := of_decide_eq_true (by first | (with_reducible assumption) | assumption)
                                have q37 : (x9_2 : Int) < ((x8_2.length : Int) : Int) := of_decide_eq_true (by first | (with_reducible assumption) | assumption)
                                obtain ⟨go37, co37, eo37, gb37, gl37, cl37, HG37⟩ := Kd.R_form HO_8.out (by omega)
                                (first | cases eo37 | (injection eo37 with ea_ en_ ec_; (first | subst ea_ | (injection ea_ with ea_; subst ea_)); subst ec_; clear en_))
                                have GB37 := Aside0.mk gb37
                                have GG37 := Aside0.mk HG37
                                clear gb37 gl37 HG37
                                obtain ⟨hx37_0, hf37_0⟩ := Kd.R_celln false HO_8.out (x9_2 : Int) p37 q37
                                replace p37 := eq_true p37
                                replace q37 := eq_true q37
                                have HP39 := Kd.R_putg HO_8.out (x9_2 : Int) false
                                go_wp2_with (first | ((with_reducible refine gate_store (t := 4) (p := 56) rfl ?_); refine store_event (t := 4) (p := 56) (v := ?vo_w40) (w1 := (wr.setCell ⟨go37, (x9_2 : Int).toNat, none⟩ (.bool false))) ?hg ?ho ?hn ?hr ?_; (case ho => rfl); (case hg => rfl); (case hn => rfl); (case hr => first | (go_simp; done) | (go_simp; rfl)); intro w40 hw; have hg : wr.grownBy w40 (some go37) := (by rw [hw]; exact HP39.2); have hp_ : Kd.R Kd.bool 4 w40 w.heap.size (fun k_ => some k_ ≠ (.slice (some ad464) x4_1.length co38 : Value).ownBlock ∧ some k_ ≠ (v459 : Value).ownBlock) (.slice (some ⟨go37, 0, none⟩) x8_2.length co37) y469 := (by rw [hw, Ny469.out]; exact HP39.1); clear HP39; have n0_ := Aside0.mk (Kd.S_over' (v := (.slice (some ⟨go37, 0, none⟩) x8_2.length co37)) (by (with_reducible repeat (first | apply Kd.S_alloc | apply Kd.S_drewN | apply Kd.S_drew)); exact HO_3.out) (Kd.R_typed HO_8.out) (by decide) hg); have n1_ := Aside0.mk (Kd.R_after (v := (.slice (some ⟨go37, 0, none⟩) x8_2.length co37)) (v1 := (.slice (some ⟨go37, 0, none⟩) x8_2.length co37)) (ok := (fun k_ => some k_ ≠ (v459 : Value).ownBlock)) (by (with_reducible repeat (first | apply Kd.R_alloc | apply Kd.R_drewN | apply Kd.R_drew)); exact HO_4.out) hg (.inl rfl)); have n2_ := Aside0.mk (Kd.S_after (v := (.slice (some ⟨go37, 0, none⟩) x8_2.length co37)) (v1 := (.slice (some ⟨go37, 0, none⟩) x8_2.length co37)) (ok := (fun k_ => some k_ ≠ (.slice (some ad464) x4_1.length co38 : Value).ownBlock ∧ some k_ ≠ (v459 : Value).ownBlock)) (by (with_reducible repeat (first | apply Kd.S_alloc | apply Kd.S_drewN | apply Kd.S_drew)); exact Kd.S_mono HO_5.out (fun _ hk => ⟨⟨hk.1, hk.2.1⟩, hk.2.2⟩)) hg (.inl rfl)); have n3_ := Aside0.mk (Kd.R_after (v := (.slice (some ⟨go37, 0, none⟩) x8_2.length co37)) (v1 := (.slice (some ⟨go37, 0, none⟩) x8_2.length co37)) (ok := (fun k_ => some k_ ≠ (.slice (some ad464) x4_1.length co38 : Value).ownBlock)) (by (with_reducible repeat (first | apply Kd.R_alloc | apply Kd.R_drewN | apply Kd.R_drew)); exact HO_7.out) hg (.inl rfl)); have n4_ := Aside0.mk (hp_); have n5_ := Aside0.mk ((by rw [hw]; exact below_set (HB.out) GB37.out : Below w.heap.size w w40)); clear HO_3; clear HO_4; clear HO_5; clear HO_7; clear HO_8; clear HB; have HO_3 := n0_; have HO_4 := n1_; have HO_5 := n2_; have HO_7 := n3_; have HO_8 := n4_; have HB := n5_; clear n0_ n1_ n2_ n3_ n4_ n5_; clear hg hw hp_))
                                go_roundg k2
                                case measure => have := HK1.out; have := HK2.out; omega
                                case rel => exact ⟨(y469), (wrap64 (x9_2 + 1)), (by first | rfl | (simp; done) | (simp [*]; done)), H', ⟨by have := HK1.out; have := HK2.out; omega⟩, ⟨by (with_reducible repeat (first | apply Kd.S_alloc | apply Kd.S_drewN | apply Kd.S_drew)); exact HO_3.out⟩, ⟨by (with_reducible repeat (first | apply Kd.R_alloc | apply Kd.R_drewN | apply Kd.R_drew)); exact HO_4.out⟩, ⟨by (with_reducible repeat (first | apply Kd.S_alloc | apply Kd.S_drewN | apply Kd.S_drew)); exact Kd.S_mono HO_5.out (fun _ hk => ⟨hk.1.1, ⟨hk.1.2, hk.2⟩⟩)⟩, ⟨by (with_reducible repeat (first | apply Kd.R_alloc | apply Kd.R_drewN | apply Kd.R_drew)); exact HO_7.out⟩, ⟨by (with_reducible repeat (first | apply Kd.R_alloc | apply Kd.R_drewN | apply Kd.R_drew)); exact HO_8.out⟩, ⟨by repeat (first | (with_reducible first | exact HB.out | apply below_alloc | apply pw_below_drewN | apply below_drew1) | exact HB.out)⟩⟩
                              · rw [if_neg c36] at H
                                exact absurd H (by simp)
                          · rw [if_neg c20] at H
                            exact absurd H (by simp)
                        · rw [if_neg c19] at H
                          exact absurd H (by simp)
                      · replace c18 := Bool.eq_false_iff.mpr c18
                        subst c18
                        have H1 : (if 0 ≤ x9_2 then (if x9_2 < (x8_2.length : Int) then (ratlineref10_Over.l1 k2 t452 x4_1 x5_1 x6_1 t458 (x8_2.set (x9_2 : Int).toNat false) (wrap64 (x9_2 + 1))) else (none)) else (none)) = some r := by rw [if_neg (show ¬ (false = true) by decide)] at H; exact H
                        clear H
                        have H := H1
                        clear H1
                        by_cases c41 : 0 ≤ x9_2
                        · rw [if_pos c41] at H
                          have c41b0 : decide (0 ≤ x9_2) = true := decide_eq_true c41
                          clear c41
                          by_cases c42 : x9_2 < (x8_2.length : Int)
                          · rw [if_pos c42] at H
                            have c42b0 : decide (x9_2 < (x8_2.length : Int)) = true := decide_eq_true c42
                            clear c42
                            obtain ⟨y470, hy470⟩ : ∃ y_ : List Bool, y_ = (x8_2.set (x9_2 : Int).toNat false) := ⟨_, rfl⟩
                            replace H : (ratlineref10_Over.l1 k2 t452 x4_1 x5_1 x6_1 t458 y470 (wrap64 (x9_2 + 1))) = some r := by first | (rw [hy470]; with_reducible exact H) | (have H2_ := (Option.bind_some _ _).symm.trans H; rw [hy470]; with_reducible exact H2_) | (have H2_ := (Option.bind_some _ _).symm.trans H; with_reducible exact H2_) | with_reducible exact H | (rw [hy470]; exact H) | exact H
                            have Ny470 := Aside0.mk hy470
                            clear hy470
                            have H' := Aside0.mk H
                            clear H
                            obtain ⟨Ao44, co44, eo44⟩ := Kd.R_slice HO_4.out
                            subst eo44
                            have p464 : 0 ≤ (x6_1 : Int) := of_decide_eq_true (by first | (with_reducible assumption) | assumption)
                            have q464 : x6_1 < (x4_1.length : Int) := of_decide_eq_true (by first | (with_reducible assumption) | assumption)
                            obtain ⟨ad464, e464, hx464_0⟩ := Kd.at_bool (Kd.R_reads' HO_4.out).2.2 x6_1 p464 q464
                            (try rw [← Nbq17.out] at hx464_0)
                            cases e464
                            replace p464 := eq_true p464
                            replace q464 := eq_true q464
                            have p43 : 0 ≤ (x9_2 : Int) := of_decide_eq_true (by first | (with_reducible assumption) | assumption)
                            have q43 : (x9_2 : Int) < ((x8_2.length : Int) : Int) := of_decide_eq_true (by first | (with_reducible assumption) | assumption)
                            obtain ⟨go43, co43, eo43, gb43, gl43, cl43, HG43⟩ := Kd.R_form HO_8.out (by omega)
                            (first | cases eo43 | (injection eo43 with ea_ en_ ec_; (first | subst ea_ | (injection ea_ with ea_; subst ea_)); subst ec_; clear en_))
                            have GB43 := Aside0.mk gb43
                            have GG43 := Aside0.mk HG43
                            clear gb43 gl43 HG43
                            obtain ⟨hx43_0, hf43_0⟩ := Kd.R_celln false HO_8.out (x9_2 : Int) p43 q43
                            replace p43 := eq_true p43
                            replace q43 := eq_true q43
                            have HP45 := Kd.R_putg HO_8.out (x9_2 : Int) false
                            go_wp2_with (first | ((with_reducible refine gate_store (t := 4) (p := 56) rfl ?_); refine store_event (t := 4) (p := 56) (v := ?vo_w46) (w1 := (wr.setCell ⟨go43, (x9_2 : Int).toNat, none⟩ (.bool false))) ?hg ?ho ?hn ?hr ?_; (case ho => rfl); (case hg => rfl); (case hn => rfl); (case hr => first | (go_simp; done) | (go_simp; rfl)); intro w46 hw; have hg : wr.grownBy w46 (some go43) := (by rw [hw]; exact HP45.2); have hp_ : Kd.R Kd.bool 4 w46 w.heap.size (fun k_ => some k_ ≠ (.slice (some ad464) x4_1.length co44 : Value).ownBlock ∧ some k_ ≠ (v459 : Value).ownBlock) (.slice (some ⟨go43, 0, none⟩) x8_2.length co43) y470 := (by rw [hw, Ny470.out]; exact HP45.1); clear HP45; have n0_ := Aside0.mk (Kd.S_over' (v := (.slice (some ⟨go43, 0, none⟩) x8_2.length co43)) (by (with_reducible repeat (first | apply Kd.S_alloc | apply Kd.S_drewN | apply Kd.S_drew)); exact HO_3.out) (Kd.R_typed HO_8.out) (by decide) hg); have n1_ := Aside0.mk (Kd.R_after (v := (.slice (some ⟨go43, 0, none⟩) x8_2.length co43)) (v1 := (.slice (some ⟨go43, 0, none⟩) x8_2.length co43)) (ok := (fun k_ => some k_ ≠ (v459 : Value).ownBlock)) (by (with_reducible repeat (first | apply Kd.R_alloc | apply Kd.R_drewN | apply Kd.R_drew)); exact HO_4.out) hg (.inl rfl)); have n2_ := Aside0.mk (Kd.S_after (v := (.slice (some ⟨go43, 0, none⟩) x8_2.length co43)) (v1 := (.slice (some ⟨go43, 0, none⟩) x8_2.length co43)) (ok := (fun k_ => some k_ ≠ (.slice (some ad464) x4_1.length co44 : Value).ownBlock ∧ some k_ ≠ (v459 : Value).ownBlock)) (by (with_reducible repeat (first | apply Kd.S_alloc | apply Kd.S_drewN | apply Kd.S_drew)); exact Kd.S_mono HO_5.out (fun _ hk => ⟨⟨hk.1, hk.2.1⟩, hk.2.2⟩)) hg (.inl rfl)); have n3_ := Aside0.mk (Kd.R_after (v := (.slice (some ⟨go43, 0, none⟩) x8_2.length co43)) (v1 := (.slice (some ⟨go43, 0, none⟩) x8_2.length co43)) (ok := (fun k_ => some k_ ≠ (.slice (some ad464) x4_1.length co44 : Value).ownBlock)) (by (with_reducible repeat (first | apply Kd.R_alloc | apply Kd.R_drewN | apply Kd.R_drew)); exact HO_7.out) hg (.inl rfl)); have n4_ := Aside0.mk (hp_); have n5_ := Aside0.mk ((by rw [hw]; exact below_set (HB.out) GB43.out : Below w.heap.size w w46)); clear HO_3; clear HO_4; clear HO_5; clear HO_7; clear HO_8; clear HB; have HO_3 := n0_; have HO_4 := n1_; have HO_5 := n2_; have HO_7 := n3_; have HO_8 := n4_; have HB := n5_; clear n0_ n1_ n2_ n3_ n4_ n5_; clear hg hw hp_))
                            go_roundg k2
                            case measure => have := HK1.out; have := HK2.out; omega
                            case rel => exact ⟨(y470), (wrap64 (x9_2 + 1)), (by first | rfl | (simp; done) | (simp [*]; done)), H', ⟨by have := HK1.out; have := HK2.out; omega⟩, ⟨by (with_reducible repeat (first | apply Kd.S_alloc | apply Kd.S_drewN | apply Kd.S_drew)); exact HO_3.out⟩, ⟨by (with_reducible repeat (first | apply Kd.R_alloc | apply Kd.R_drewN | apply Kd.R_drew)); exact HO_4.out⟩, ⟨by (with_reducible repeat (first | apply Kd.S_alloc | apply Kd.S_drewN | apply Kd.S_drew)); exact Kd.S_mono HO_5.out (fun _ hk => ⟨hk.1.1, ⟨hk.1.2, hk.2⟩⟩)⟩, ⟨by (with_reducible repeat (first | apply Kd.R_alloc | apply Kd.R_drewN | apply Kd.R_drew)); exact HO_7.out⟩, ⟨by (with_reducible repeat (first | apply Kd.R_alloc | apply Kd.R_drewN | apply Kd.R_drew)); exact HO_8.out⟩, ⟨by repeat (first | (with_reducible first | exact HB.out | apply below_alloc | apply pw_below_drewN | apply below_drew1) | exact HB.out)⟩⟩
                          · rw [if_neg c42] at H
                            exact absurd H (by simp)
                        · rw [if_neg c41] at H
                          exact absurd H (by simp)
                    · rw [if_neg c16] at H
                      exact absurd H (by simp)
                  · rw [if_neg c15] at H
                    exact absurd H (by simp)
                · rw [if_neg c14] at H
                  have c14b0 : decide (x9_2 < (t452.length : Int)) = false := decide_eq_false c14
                  clear c14
                  by_cases c47 : x5_1.length < 5864062014805
                  · rw [if_pos c47] at H
                    have LMc47 := Aside0.mk c47
                    clear c47
                    obtain ⟨y471, hy471⟩ : ∃ y_ : List (List Bool), y_ = (x5_1 ++ [x8_2]) := ⟨_, rfl⟩
                    replace H : (ratlineref10_Over.l0 k2 t452 x4_1 y471 (wrap64 (x6_1 + 1))) = some r := by first | (rw [hy471]; with_reducible exact H) | (have H2_ := (Option.bind_some _ _).symm.trans H; rw [hy471]; with_reducible exact H2_) | (have H2_ := (Option.bind_some _ _).symm.trans H; with_reducible exact H2_) | with_reducible exact H | (rw [hy471]; exact H) | exact H
                    have Ny471 := Aside0.mk hy471
                    clear hy471
                    have H' := Aside0.mk H
                    clear H
                    obtain ⟨Ao49, co49, eo49⟩ := Kd.R_slice HO_8.out
                    subst eo49
                    go_wp2_with (first | ((with_reducible refine gate_builtin (b := .append) (xs := #[.tmp 57, .tmp 59]) rfl ?_); at_builtin; refine Kd.S_append (Kd.slice 4 Kd.bool) (w0 := w) w.heap.size rfl (.tmp 57) (.tmp 59) 28 30 (.slice none 0 0) 24 rfl Try.underlying28 info30 rfl (by decide) (by omega) u5 x5_1 x8_2 [.slice Ao49 x8_2.length co49] (fun k_ => some k_ ≠ (v456 : Value).ownBlock ∧ some k_ ≠ (v459 : Value).ownBlock) (fun k_ => some k_ = (.slice Ao49 x8_2.length co49 : Value).ownBlock) rfl rfl ?aP (fun k_ hk_ => ((Kd.R_mono (ok' := fun k_ => ((fun k_ => some k_ ≠ (v456 : Value).ownBlock ∧ some k_ ≠ (v459 : Value).ownBlock)) k_ ∧ some k_ ≠ (u5 : Value).ownBlock) (Kd.R_apart' (HO_8.out) (Kd.S_typed HO_5.out) (by decide)) (fun k_ hk => ⟨⟨hk.1.1, hk.1.2⟩, hk.2⟩))).1 k_ hk_.symm) ?aF ?aO ?aB ?aS ?aL ?_; (case aP => exact Kd.M_row (Kd.R_mono (Kd.R_tight rfl (Kd.R_mono (ok' := fun k_ => ((fun k_ => some k_ ≠ (v456 : Value).ownBlock ∧ some k_ ≠ (v459 : Value).ownBlock)) k_ ∧ some k_ ≠ (u5 : Value).ownBlock) (Kd.R_apart' (HO_8.out) (Kd.S_typed HO_5.out) (by decide)) (fun k_ hk => ⟨⟨hk.1.1, hk.1.2⟩, hk.2⟩))) (fun _ h_ => h_))); (case aB => exact (by repeat (first | (with_reducible first | exact HB.out | apply below_alloc | apply pw_below_drewN | apply below_drew1) | exact HB.out))); (case aF => exact (fun k_ hk => ⟨Kd.fresh' (Kd.R_lt (by (with_reducible repeat (first | apply Kd.R_alloc | apply Kd.R_drewN | apply Kd.R_drew)); exact HO_4.out)) k_ hk, Kd.fresh' (Kd.R_lt (by (with_reducible repeat (first | apply Kd.R_alloc | apply Kd.R_drewN | apply Kd.R_drew)); exact HO_7.out)) k_ hk⟩)); (case aO => exact (by (with_reducible repeat (first | apply Kd.S_alloc | apply Kd.S_drewN | apply Kd.S_drew)); exact Kd.S_mono HO_5.out (fun k_ hk => ⟨⟨hk.1, hk.2.1⟩, fun e_ => hk.2.2 e_⟩))); (case aS => exact (below_size (by repeat (first | (with_reducible first | exact HB.out | apply below_alloc | apply pw_below_drewN | apply below_drew1) | exact HB.out)))); (case aL => have := LMc47.out; omega); intro v472 w48 ho hb hg hat; rw [← Ny471.out] at ho; have n0_ := Aside0.mk (Kd.S_over' (by (with_reducible repeat (first | apply Kd.S_alloc | apply Kd.S_drewN | apply Kd.S_drew)); exact HO_3.out) (Kd.S_typed (by (with_reducible repeat (first | apply Kd.S_alloc | apply Kd.S_drewN | apply Kd.S_drew)); exact HO_5.out)) (by decide) hg); have n1_ := Aside0.mk (Kd.R_over' (by (with_reducible repeat (first | apply Kd.R_alloc | apply Kd.R_drewN | apply Kd.R_drew)); exact HO_4.out) (Kd.S_typed (by (with_reducible repeat (first | apply Kd.S_alloc | apply Kd.S_drewN | apply Kd.S_drew)); exact HO_5.out)) (by decide) hg); have n2_ := Aside0.mk (Kd.R_over' (by (with_reducible repeat (first | apply Kd.R_alloc | apply Kd.R_drewN | apply Kd.R_drew)); exact HO_7.out) (Kd.S_typed (by (with_reducible repeat (first | apply Kd.S_alloc | apply Kd.S_drewN | apply Kd.S_drew)); exact HO_5.out)) (by decide) hg); have n3_ := Aside0.mk (hb); have n4_ := Aside0.mk (ho); clear HO_3; clear HO_4; clear HO_7; clear HB; clear HO_5; clear HO_8; have HO_3 := n0_; have HO_4 := n1_; have HO_7 := n2_; have HB := n3_; have HO473 := n4_; clear n0_ n1_ n2_ n3_ n4_; clear ho hb hg hat))
                    go_roundg k2
                    case measure => have := HK1.out; have := HK2.out; omega
                    case rel => exact ⟨(x4_1), (y471), (wrap64 (x6_1 + 1)), (by first | rfl | (simp; done) | (simp [*]; done)), H', ⟨by have := HK1.out; have := HK2.out; omega⟩, ⟨by (with_reducible repeat (first | apply Kd.S_alloc | apply Kd.S_drewN | apply Kd.S_drew)); exact HO_3.out⟩, ⟨by (with_reducible repeat (first | apply Kd.R_alloc | apply Kd.R_drewN | apply Kd.R_drew)); exact Kd.R_mono HO_4.out (fun _ hk => trivial)⟩, ⟨by (with_reducible repeat (first | apply Kd.S_alloc | apply Kd.S_drewN | apply Kd.S_drew)); exact Kd.S_mono HO473.out (fun _ hk => hk.1)⟩, ⟨by repeat (first | (with_reducible first | exact HB.out | apply below_alloc | apply pw_below_drewN | apply below_drew1) | exact HB.out)⟩⟩
                  · rw [if_neg c47] at H
                    exact absurd H (by simp)
          · rw [if_neg c10] at H
            exact absurd H (by simp)
        · rw [if_neg c9] at H
          exact absurd H (by simp)
      · rw [if_neg c7] at H
        have c7b0 : decide (x6_1 < (t452.length : Int)) = false := decide_eq_false c7
        clear c7
        obtain rfl := Option.some.inj H
        go_wp2
        go_ret
        exact ⟨_, by first | rfl | (simp [errW_none, errW_some] <;> rfl) | (simp [*, errW_none, errW_some] <;> rfl), by (with_reducible repeat (first | apply Kd.S_alloc | apply Kd.S_drewN | apply Kd.S_drew)); exact Kd.S_mono HO_5.out (fun _ hk => trivial), by repeat (first | (with_reducible first | exact HB.out | apply below_alloc | apply pw_below_drewN | apply below_drew1) | exact HB.out)⟩

end Go.Proofs.Ytjflddnmkajleaa.PG
