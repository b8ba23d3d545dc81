-- By the session's own program out of the kit's print, with texts of the session's own for the functions that the print does not take.
import Derived.Test.YtjflddnmkajleaaPGx0
import Derived.Test.YtjflddnmkajleaaPGx35
namespace Go.Proofs.Ytjflddnmkajleaa.PG
open Go.RowKit Go.Proofs.YtjflddnmkajleaaW.PrintWords Go.Proofs.YtjflddnmkajleaaW.PrintLast Go.Proofs.YtjflddnmkajleaaW.PrintMore
attribute [local go_sem] max2_int min2_int max_two min_two max_three min_three max_four min_four   -- for this text's walks alone
set_option linter.unusedVariables false
set_option linter.unusedSimpArgs false

/-! ### ratlineref10_Doms: function 13 -/
mutual
def ratlineref10_Doms.l0 : Nat → List (List Int) → List (List Bool) → List Int → Int → Option (List Int)
  | 0, _, _, _, _ => none
  | k + 1, x0, x3, x4, x5 => if x5 < (x0.length : Int) then (if 0 ≤ x5 then (if x5 < (x4.length : Int) then (ratlineref10_Doms.l1 k x0 x3 (x4.set (x5 : Int).toNat (-1)) x5 0) else (none)) else (none)) else (some x4)
def ratlineref10_Doms.l1 : Nat → List (List Int) → List (List Bool) → List Int → Int → Int → Option (List Int)
  | 0, _, _, _, _, _ => none
  | k + 1, x0, x3, x4, x5, x6 => if x6 < (x0.length : Int) then (if x6 = x5 then (ratlineref10_Doms.j2 k x0 x3 x4 x5 x6 true) else (if 0 ≤ x6 then (if x6 < (x3.length : Int) then (if 0 ≤ x5 then (if x5 < ((rd_L5 x3 x6).length : Int) then (ratlineref10_Doms.j2 k x0 x3 x4 x5 x6 (!(rdOf false (rd_L5 x3 x6) x5))) else (none)) else (none)) else (none)) else (none))) else (ratlineref10_Doms.l0 k x0 x3 x4 (wrap64 (x5 + 1)))
def ratlineref10_Doms.j2 : Nat → List (List Int) → List (List Bool) → List Int → Int → Int → Bool → Option (List Int)
  | 0, _, _, _, _, _, _ => none
  | k + 1, x0, x3, x4, x5, x6, x41 => if x41 = true then (ratlineref10_Doms.l1 k x0 x3 x4 x5 (wrap64 (x6 + 1))) else (ratlineref10_Doms.l2 k x0 x3 x4 x5 x6 true 0)
def ratlineref10_Doms.l2 : Nat → List (List Int) → List (List Bool) → List Int → Int → Int → Bool → Int → Option (List Int)
  | 0, _, _, _, _, _, _, _ => none
  | k + 1, x0, x3, x4, x5, x6, x7, x8 => if x8 < (x0.length : Int) then (if x8 = x5 then (ratlineref10_Doms.l2 k x0 x3 x4 x5 x6 x7 (wrap64 (x8 + 1))) else (if 0 ≤ x8 then (if x8 < (x3.length : Int) then (if 0 ≤ x5 then (if x5 < ((rd_L5 x3 x8).length : Int) then (if rdOf false (rd_L5 x3 x8) x5 = true then (if 0 ≤ x6 then (if x6 < ((rd_L5 x3 x8).length : Int) then (if (rdOf false (rd_L5 x3 x8) x6 = true) then (ratlineref10_Doms.l2 k x0 x3 x4 x5 x6 x7 (wrap64 (x8 + 1))) else (ratlineref10_Doms.l2 k x0 x3 x4 x5 x6 false (wrap64 (x8 + 1)))) else (none)) else (none)) else (ratlineref10_Doms.l2 k x0 x3 x4 x5 x6 x7 (wrap64 (x8 + 1)))) else (none)) else (none)) else (none)) else (none))) else (if x7 = true then (if 0 ≤ x5 then (if x5 < (x4.length : Int) then (ratlineref10_Doms.l1 k x0 x3 (x4.set (x5 : Int).toNat x6) x5 (wrap64 (x6 + 1))) else (none)) else (none)) else (ratlineref10_Doms.l1 k x0 x3 x4 x5 (wrap64 (x6 + 1))))
end
def ratlineref10_Doms.f (k : Nat) (l0 : List (List Int)) : Option (List Int) := (ratlineref10_Over.f k l0).bind fun t474 => (if 0 ≤ (l0.length : Int) then (if ((l0.length : Int) : Int).toNat ≤ 35184372088832 then (ratlineref10_Doms.l0 k l0 t474 (List.replicate ((l0.length : Int) : Int).toNat 0) 0) else (none)) else (none))
theorem ratlineref10_Doms.mono_l : ∀ k, (∀ y0 y1 y2 y3, LeO (ratlineref10_Doms.l0 k y0 y1 y2 y3) (ratlineref10_Doms.l0 (k + 1) y0 y1 y2 y3)) ∧ (∀ y0 y1 y2 y3 y4, LeO (ratlineref10_Doms.l1 k y0 y1 y2 y3 y4) (ratlineref10_Doms.l1 (k + 1) y0 y1 y2 y3 y4)) ∧ (∀ y0 y1 y2 y3 y4 y5, LeO (ratlineref10_Doms.j2 k y0 y1 y2 y3 y4 y5) (ratlineref10_Doms.j2 (k + 1) y0 y1 y2 y3 y4 y5)) ∧ (∀ y0 y1 y2 y3 y4 y5 y6, LeO (ratlineref10_Doms.l2 k y0 y1 y2 y3 y4 y5 y6) (ratlineref10_Doms.l2 (k + 1) y0 y1 y2 y3 y4 y5 y6))
  | 0 => ⟨fun _ _ _ _ r h => by simp [ratlineref10_Doms.l0] at h, fun _ _ _ _ _ r h => by simp [ratlineref10_Doms.l1] at h, fun _ _ _ _ _ _ r h => by simp [ratlineref10_Doms.j2] at h, fun _ _ _ _ _ _ _ r h => by simp [ratlineref10_Doms.l2] at h⟩
  | k + 1 => by
    obtain ⟨ih0, ih1, ih2, ih3⟩ := ratlineref10_Doms.mono_l k
    refine ⟨?_, ?_, ?_, ?_⟩
    · intro y0 y1 y2 y3
      unfold ratlineref10_Doms.l0
      repeat' first
      | (with_reducible exact ih0 _ _ _ _)
      | (with_reducible exact ih1 _ _ _ _ _)
      | (with_reducible exact ih2 _ _ _ _ _ _)
      | (with_reducible exact ih3 _ _ _ _ _ _ _)
      | (with_reducible exact ratlineref10_Over.mono _ _)
      | (with_reducible exact LeO.refl _)
      | (with_reducible exact LeO.none _)
      | (with_reducible refine LeO.ite ?_ ?_)
      | (with_reducible refine LeO.bind ?_ (fun _ => ?_))
      | exact ih0 _ _ _ _
      | exact ih1 _ _ _ _ _
      | exact ih2 _ _ _ _ _ _
      | exact ih3 _ _ _ _ _ _ _
      | exact ratlineref10_Over.mono _ _
      | exact LeO.none _
      | refine LeO.ite ?_ ?_
      | refine LeO.bind ?_ (fun _ => ?_)
    · intro y0 y1 y2 y3 y4
      unfold ratlineref10_Doms.l1
      repeat' first
      | (with_reducible exact ih0 _ _ _ _)
      | (with_reducible exact ih1 _ _ _ _ _)
      | (with_reducible exact ih2 _ _ _ _ _ _)
      | (with_reducible exact ih3 _ _ _ _ _ _ _)
      | (with_reducible exact ratlineref10_Over.mono _ _)
      | (with_reducible exact LeO.refl _)
      | (with_reducible exact LeO.none _)
      | (with_reducible refine LeO.ite ?_ ?_)
      | (with_reducible refine LeO.bind ?_ (fun _ => ?_))
      | exact ih0 _ _ _ _
      | exact ih1 _ _ _ _ _
      | exact ih2 _ _ _ _ _ _
      | exact ih3 _ _ _ _ _ _ _
      | exact ratlineref10_Over.mono _ _
      | exact LeO.none _
      | refine LeO.ite ?_ ?_
      | refine LeO.bind ?_ (fun _ => ?_)
    · intro y0 y1 y2 y3 y4 y5
      unfold ratlineref10_Doms.j2
      repeat' first
      | (with_reducible exact ih0 _ _ _ _)
      | (with_reducible exact ih1 _ _ _ _ _)
      | (with_reducible exact ih2 _ _ _ _ _ _)
      | (with_reducible exact ih3 _ _ _ _ _ _ _)
      | (with_reducible exact ratlineref10_Over.mono _ _)
      | (with_reducible exact LeO.refl _)
      | (with_reducible exact LeO.none _)
      | (with_reducible refine LeO.ite ?_ ?_)
      | (with_reducible refine LeO.bind ?_ (fun _ => ?_))
      | exact ih0 _ _ _ _
      | exact ih1 _ _ _ _ _
      | exact ih2 _ _ _ _ _ _
      | exact ih3 _ _ _ _ _ _ _
      | exact ratlineref10_Over.mono _ _
      | exact LeO.none _
      | refine LeO.ite ?_ ?_
      | refine LeO.bind ?_ (fun _ => ?_)
    · intro y0 y1 y2 y3 y4 y5 y6
      unfold ratlineref10_Doms.l2
      repeat' first
      | (with_reducible exact ih0 _ _ _ _)
      | (with_reducible exact ih1 _ _ _ _ _)
      | (with_reducible exact ih2 _ _ _ _ _ _)
      | (with_reducible exact ih3 _ _ _ _ _ _ _)
      | (with_reducible exact ratlineref10_Over.mono _ _)
      | (with_reducible exact LeO.refl _)
      | (with_reducible exact LeO.none _)
      | (with_reducible refine LeO.ite ?_ ?_)
      | (with_reducible refine LeO.bind ?_ (fun _ => ?_))
      | exact ih0 _ _ _ _
      | exact ih1 _ _ _ _ _
      | exact ih2 _ _ _ _ _ _
      | exact ih3 _ _ _ _ _ _ _
      | exact ratlineref10_Over.mono _ _
      | exact LeO.none _
      | refine LeO.ite ?_ ?_
      | refine LeO.bind ?_ (fun _ => ?_)
theorem ratlineref10_Doms.mono : ∀ a0 k, LeO (ratlineref10_Doms.f k a0) (ratlineref10_Doms.f (k + 1) a0) := by
  intro a0 k
  obtain ⟨ih0, ih1, ih2, ih3⟩ := ratlineref10_Doms.mono_l k
  unfold ratlineref10_Doms.f
  repeat' first
      | (with_reducible exact ih0 _ _ _ _)
      | (with_reducible exact ih1 _ _ _ _ _)
      | (with_reducible exact ih2 _ _ _ _ _ _)
      | (with_reducible exact ih3 _ _ _ _ _ _ _)
      | (with_reducible exact ratlineref10_Over.mono _ _)
      | (with_reducible exact LeO.refl _)
      | (with_reducible exact LeO.none _)
      | (with_reducible refine LeO.ite ?_ ?_)
      | (with_reducible refine LeO.bind ?_ (fun _ => ?_))
      | exact ih0 _ _ _ _
      | exact ih1 _ _ _ _ _
      | exact ih2 _ _ _ _ _ _
      | exact ih3 _ _ _ _ _ _ _
      | exact ratlineref10_Over.mono _ _
      | exact LeO.none _
      | refine LeO.ite ?_ ?_
      | refine LeO.bind ?_ (fun _ => ?_)
set_option maxHeartbeats 8000000 in
set_option maxRecDepth 100000 in
theorem ratlineref10_Doms.calls (k : Nat) (A0 : Option Addr) (c0 : Nat) (l0 : List (List Int)) (r : List Int) (w : World) (hr0 : Kd.C (Kd.slice 3 (Kd.int .i64)) w A0 l0.length l0) (hc0 : l0.length ≤ c0) (h : ratlineref10_Doms.f k l0 = some r) :
    Calls Try.prog 13 #[.slice A0 l0.length c0] w fun e w' => ∃ v0_ : Value, e = .returned (v0_) ∧ Kd.R (Kd.int .i64) 3 w' w.heap.size (fun _ => True) v0_ r ∧ Below w.heap.size w w' := by
  have HR0 := Aside0.mk hr0
  have HC0 := Aside0.mk hc0
  clear hr0 hc0
  have HB := Aside0.mk (Below.refl w.heap.size w)
  have H : ((ratlineref10_Over.f k l0).bind fun t474 => (if 0 ≤ (l0.length : Int) then (if ((l0.length : Int) : Int).toNat ≤ 35184372088832 then (ratlineref10_Doms.l0 k l0 t474 (List.replicate ((l0.length : Int) : Int).toNat 0) 0) else (none)) else (none))) = some r := h
  clear h
  replace H := Option.bind_eq_some_iff.mp H
  obtain ⟨t474, A20, H⟩ := H
  replace H : (if 0 ≤ (l0.length : Int) then (if ((l0.length : Int) : Int).toNat ≤ 35184372088832 then (ratlineref10_Doms.l0 k l0 t474 (List.replicate ((l0.length : Int) : Int).toNat 0) 0) else (none)) else (none)) = some r := H
  have A2 := Aside0.mk A20
  clear A20
  by_cases c3 : 0 ≤ (l0.length : Int)
  · rw [if_pos c3] at H
    have c3b0 := eq_true c3
    have c3b1 : decide (0 ≤ (l0.length : Int)) = true := decide_eq_true c3
    clear c3
    by_cases c4 : ((l0.length : Int) : Int).toNat ≤ 35184372088832
    · rw [if_pos c4] at H
      have c4b0 := eq_true c4
      have c4b1 : decide (((l0.length : Int) : Int).toNat ≤ 35184372088832) = true := decide_eq_true c4
      clear c4
      obtain ⟨y477, hy477⟩ : ∃ y_ : List Int, y_ = (List.replicate ((l0.length : Int) : Int).toNat 0) := ⟨_, rfl⟩
      replace H : (ratlineref10_Doms.l0 k l0 t474 y477 0) = some r := by first | (rw [hy477]; with_reducible exact H) | (have H2_ := (Option.bind_some _ _).symm.trans H; rw [hy477]; with_reducible exact H2_) | (have H2_ := (Option.bind_some _ _).symm.trans H; with_reducible exact H2_) | with_reducible exact H | (rw [hy477]; exact H) | exact H
      have Ny477 := Aside0.mk hy477
      clear hy477
      have H' := Aside0.mk H
      clear H
      go_enter Try.func13, Try.ntmps13
      go_wp2_with (first | ((with_reducible refine gate_callee (f := 14) rfl ?_); refine goesL_ (some 10) rfl rfl Try.func14 (by kernel_rfl) rfl #[.slice A0 l0.length c0] rfl (by (try simp only [List.map_toArray, List.map_cons, List.map_nil]); first | done | rfl | (simp only [List.length_drop, List.length_take]; rfl)) ?_; (with_reducible refine (ratlineref10_Over.calls k _ _ l0 t474 _ ?side1 ?side2 A2.out).mono ?_); (case side1 => repeat (first | exact HR0.out | (with_reducible refine Kd.C_alloc ?_ _) | (with_reducible refine Kd.C_drewN ?_ _) | (with_reducible refine Kd.C_drew ?_))); (case side2 => exact HC0.out); rintro e w5 ⟨v475, rfl, ho0, hb⟩; refine ⟨_, rfl, ?_⟩; have n0_ := Aside0.mk (Kd.S_lower ho0 (below_size (by repeat (first | (with_reducible first | exact HB.out | apply below_alloc | apply pw_below_drewN | apply below_drew1) | exact HB.out)))); have n1_ := Aside0.mk (below_step (by repeat (first | (with_reducible first | exact HB.out | apply below_alloc | apply pw_below_drewN | apply below_drew1) | exact HB.out)) hb); clear HB; have HO476 := n0_; have HB := n1_; clear n0_ n1_; (try clear hb); (try clear hb2); (try clear hk); (try clear hi); (try clear ho0)) | ((with_reducible refine gate_dst (N := 13) rfl ?_); refine Kd.R_make (Kd.int .i64) _ 3 rfl (N := 13) rfl 25 _ _ rfl (l0.length : Int) rfl rfl Try.underlying25 (.int .i64 0) 8 info3 rfl (by decide) (by omega) 0 (ok := fun _ => True) (okp := fun _ => True) rfl (fun _ hk => hk) trivial (of_decide_eq_true (by first | (with_reducible assumption) | assumption)) (Nat.le_trans (Nat.mul_le_mul_right _ (of_decide_eq_true (by first | (with_reducible assumption) | assumption) : (l0.length : Int).toNat ≤ 35184372088832)) (by omega)) (Below.refl _ _) (Nat.le_refl _) ?_; intro v478 w6 ho7 hb hg_ hnew_; clear hg_ hnew_; (first | rw [← Ny477.out] at ho7 | (simp only [Int.reduceToNat] at ho7; rw [← Ny477.out] at ho7)); have n0_ := Aside0.mk (Kd.S_below (by (with_reducible repeat (first | apply Kd.S_alloc | apply Kd.S_drewN | apply Kd.S_drew)); exact HO476.out) hb); have n1_ := Aside0.mk (Kd.R_lower ho7 (below_size (by repeat (first | (with_reducible first | exact HB.out | apply below_alloc | apply pw_below_drewN | apply below_drew1) | exact HB.out)))); have n2_ := Aside0.mk (below_step (by repeat (first | (with_reducible first | exact HB.out | apply below_alloc | apply pw_below_drewN | apply below_drew1) | exact HB.out)) hb); clear HO476; clear HB; have HO476 := n0_; have HO479 := n1_; have HB := n2_; clear n0_ n1_ n2_; clear hb ho7))
      go_loopg [5] k (fun kq v5 w' => ∃ (x4_1 : List Int) (x5_1 : Int), v5 = .int .i64 x5_1 ∧ Aside0 (ratlineref10_Doms.l0 kq l0 t474 x4_1 x5_1 = some r) ∧ Aside0 (kq ≤ k) ∧ Aside0 (Kd.S (Kd.slice 4 Kd.bool) 30 w' w.heap.size (fun _ => True) v475 t474) ∧ Aside0 (Kd.R (Kd.int .i64) 3 w' w.heap.size (fun _ => True) v478 x4_1) ∧ Aside0 (Below w.heap.size w w'))
      case atStart => exact ⟨(y477), (0), (by first | rfl | (simp; done) | (simp [*]; done)), H', ⟨Nat.le_refl _⟩, ⟨by (with_reducible repeat (first | apply Kd.S_alloc | apply Kd.S_drewN | apply Kd.S_drew)); exact HO476.out⟩, ⟨by (with_reducible repeat (first | apply Kd.R_alloc | apply Kd.R_drewN | apply Kd.R_drew)); exact HO479.out⟩, ⟨by repeat (first | (with_reducible first | exact HB.out | apply below_alloc | apply pw_below_drewN | apply below_drew1) | exact HB.out)⟩⟩
      case round =>
        clear H'
        try clear c1
        try clear p2
        try clear c3
        try clear c3b0
        try clear c3b1
        try clear c4
        try clear c4b0
        try clear c4b1
        obtain ⟨x4_1, x5_1, rfl, HA, HK1, HO_3, HO_4, HB⟩ := hrel
        cases gk with
        | zero => exact absurd HA.out (by simp [ratlineref10_Doms.l0])
        | succ k1 =>
          have H := HA.out
          clear HA
          simp only [ratlineref10_Doms.l0] at H
          by_cases c8 : x5_1 < (l0.length : Int)
          · rw [if_pos c8] at H
            have c8b0 : decide (x5_1 < (l0.length : Int)) = true := decide_eq_true c8
            clear c8
            by_cases c9 : 0 ≤ x5_1
            · rw [if_pos c9] at H
              have c9b0 : decide (0 ≤ x5_1) = true := decide_eq_true c9
              clear c9
              by_cases c10 : x5_1 < (x4_1.length : Int)
              · rw [if_pos c10] at H
                have c10b0 : decide (x5_1 < (x4_1.length : Int)) = true := decide_eq_true c10
                clear c10
                obtain ⟨y480, hy480⟩ : ∃ y_ : List Int, y_ = (x4_1.set (x5_1 : Int).toNat (-1)) := ⟨_, rfl⟩
                replace H : (ratlineref10_Doms.l1 k1 l0 t474 y480 x5_1 0) = some r := by first | (rw [hy480]; with_reducible exact H) | (have H2_ := (Option.bind_some _ _).symm.trans H; rw [hy480]; with_reducible exact H2_) | (have H2_ := (Option.bind_some _ _).symm.trans H; with_reducible exact H2_) | with_reducible exact H | (rw [hy480]; exact H) | exact H
                have Ny480 := Aside0.mk hy480
                clear hy480
                have H' := Aside0.mk H
                clear H
                have p11 : 0 ≤ (x5_1 : Int) := of_decide_eq_true (by first | (with_reducible assumption) | assumption)
                have q11 : (x5_1 : Int) < ((x4_1.length : Int) : Int) := of_decide_eq_true (by first | (with_reducible assumption) | assumption)
                obtain ⟨go11, co11, eo11, gb11, gl11, cl11, HG11⟩ := Kd.R_form HO_4.out (by omega)
                (first | cases eo11 | (injection eo11 with ea_ en_ ec_; (first | subst ea_ | (injection ea_ with ea_; subst ea_)); subst ec_; clear en_))
                have GB11 := Aside0.mk gb11
                have GG11 := Aside0.mk HG11
                clear gb11 gl11 HG11
                obtain ⟨hx11_0, hf11_0⟩ := Kd.R_celln 0 HO_4.out (x5_1 : Int) p11 q11
                replace p11 := eq_true p11
                replace q11 := eq_true q11
                have HP12 := Kd.R_putg HO_4.out (x5_1 : Int) (-1)
                go_wp2_with (first | ((with_reducible refine gate_store (t := 3) (p := 22) rfl ?_); refine store_event (t := 3) (p := 22) (v := ?vo_w13) (w1 := (wr.setCell ⟨go11, (x5_1 : Int).toNat, none⟩ (.int .i64 (-1)))) ?hg ?ho ?hn ?hr ?_; (case ho => rfl); (case hg => rfl); (case hn => rfl); (case hr => first | (go_simp; done) | (go_simp; rfl)); intro w13 hw; have hg : wr.grownBy w13 (some go11) := (by rw [hw]; exact HP12.2); have hp_ : Kd.R (Kd.int .i64) 3 w13 w.heap.size (fun _ => True) (.slice (some ⟨go11, 0, none⟩) x4_1.length co11) y480 := (by rw [hw, Ny480.out]; exact HP12.1); clear HP12; have n0_ := Aside0.mk (Kd.S_over' (v := (.slice (some ⟨go11, 0, none⟩) x4_1.length co11)) (by (with_reducible repeat (first | apply Kd.S_alloc | apply Kd.S_drewN | apply Kd.S_drew)); exact HO_3.out) (Kd.R_typed HO_4.out) (by decide) hg); have n1_ := Aside0.mk (hp_); have n2_ := Aside0.mk ((by rw [hw]; exact below_set (HB.out) GB11.out : Below w.heap.size w w13)); clear HO_3; clear HO_4; clear HB; have HO_3 := n0_; have HO_4 := n1_; have HB := n2_; clear n0_ n1_ n2_; clear hg hw hp_))
                go_loopg [6] k1 (fun kq v6 w' => ∃ (x4_2 : List Int) (x6_2 : Int), v6 = .int .i64 x6_2 ∧ Aside0 (ratlineref10_Doms.l1 kq l0 t474 x4_2 x5_1 x6_2 = some r) ∧ Aside0 (kq ≤ k1) ∧ Aside0 (Kd.S (Kd.slice 4 Kd.bool) 30 w' w.heap.size (fun _ => True) v475 t474) ∧ Aside0 (Kd.R (Kd.int .i64) 3 w' w.heap.size (fun _ => True) (.slice (some ⟨go11, 0, none⟩) x4_1.length co11) x4_2) ∧ Aside0 (Below w.heap.size w w'))
                case atStart => exact ⟨(y480), (0), (by first | rfl | (simp; done) | (simp [*]; done)), H', ⟨Nat.le_refl _⟩, ⟨by (with_reducible repeat (first | apply Kd.S_alloc | apply Kd.S_drewN | apply Kd.S_drew)); exact HO_3.out⟩, ⟨by (with_reducible repeat (first | apply Kd.R_alloc | apply Kd.R_drewN | apply Kd.R_drew)); exact HO_4.out⟩, ⟨by repeat (first | (with_reducible first | exact HB.out | apply below_alloc | apply pw_below_drewN | apply below_drew1) | exact HB.out)⟩⟩
                case round =>
                  clear H'
                  try clear c1
                  try clear p1
                  try clear q1
                  try clear hx1
                  try clear hf1
                  try clear p2
                  try clear c3
                  try clear c3b0
                  try clear c3b1
                  try clear c4
                  try clear c4b0
                  try clear c4b1
                  try clear c8
                  try clear c8b0
                  try clear c9
                  try clear c9b0
                  try clear c10
                  try clear c10b0
                  try clear p11
                  try clear q11
                  try clear hx11
                  try clear hf11
                  try clear c13
                  try clear hx11_0
                  try clear p11
                  try clear p2
                  try clear q11
                  obtain ⟨x4_2, x6_2, rfl, HA, HK2, HO_3, HO_4, HB⟩ := hrel
                  have hl4_2 := (Kd.R_reads' HO_4.out).1
                  rw [hl4_2] at HO_4
                  (try simp only [hl4_2])
                  (try simp only [hl4_2] at HO_3)
                  cases gk with
                  | zero => exact absurd HA.out (by simp [ratlineref10_Doms.l1])
                  | succ k2 =>
                    have H := HA.out
                    clear HA
                    simp only [ratlineref10_Doms.l1] at H
                    by_cases c14 : x6_2 < (l0.length : Int)
                    · rw [if_pos c14] at H
                      have c14b0 : decide (x6_2 < (l0.length : Int)) = true := decide_eq_true c14
                      clear c14
                      have HC15 := Aside0.mk H
                      clear H
                      go_upto_region 10 with (fail)
                      go_cut [41] (fun v41 wc => ∃ (kq : Nat) (x41_14 : Bool), v41 = .bool x41_14 ∧ Aside0 (ratlineref10_Doms.j2 kq l0 t474 x4_2 x5_1 x6_2 x41_14 = some r) ∧ Aside0 (kq ≤ k2) ∧ Aside0 (Kd.S (Kd.slice 4 Kd.bool) 30 wc w.heap.size (fun _ => True) v475 t474) ∧ Aside0 (Kd.R (Kd.int .i64) 3 wc w.heap.size (fun _ => True) (.slice (some ⟨go11, 0, none⟩) x4_2.length co11) x4_2) ∧ Aside0 (Below w.heap.size w wc))
                      case first =>
                        have H := HC15.out
                        clear HC15
                        by_cases c16 : x6_2 = x5_1
                        · rw [if_pos c16] at H
                          have c16b0 : (x6_2 == x5_1) = true := beq_iff_eq.mpr c16
                          have c16b1 : (x6_2 != x5_1) = false := bne_eq_false_iff_eq.mpr c16
                          clear c16
                          (first | rw [c16b0] | (simp only [i64_w, i32_w]; rw [c16b0]) | skip)
                          have H' := Aside0.mk H
                          clear H
                          go_wp2
                          go_meet
                          case rel => exact ⟨_, (true), (by first | rfl | (simp; done) | (simp [*]; done)), H', ⟨by have := HK1.out; have := HK2.out; first | omega | exact Nat.le_refl _⟩, ⟨by (try simp only [hl4_2]); (with_reducible repeat (first | apply Kd.S_alloc | apply Kd.S_drewN | apply Kd.S_drew)); exact HO_3.out⟩, ⟨by (try simp only [hl4_2]); (with_reducible repeat (first | apply Kd.R_alloc | apply Kd.R_drewN | apply Kd.R_drew)); exact HO_4.out⟩, ⟨by repeat (first | (with_reducible first | exact HB.out | apply below_alloc | apply pw_below_drewN | apply below_drew1) | exact HB.out)⟩⟩
                        · rw [if_neg c16] at H
                          have c16b0 : (x6_2 == x5_1) = false := beq_eq_false_iff_ne.mpr c16
                          have c16b1 : (x6_2 != x5_1) = true := bne_iff_ne.mpr c16
                          (first | rw [c16b0] | (simp only [i64_w, i32_w]; rw [c16b0]) | skip)
                          by_cases c17 : 0 ≤ x6_2
                          · rw [if_pos c17] at H
                            have c17b0 : decide (0 ≤ x6_2) = true := decide_eq_true c17
                            clear c17
                            by_cases c18 : x6_2 < (t474.length : Int)
                            · rw [if_pos c18] at H
                              have c18b0 : decide (x6_2 < (t474.length : Int)) = true := decide_eq_true c18
                              clear c18
                              by_cases c19 : 0 ≤ x5_1
                              · rw [if_pos c19] at H
                                have c19b0 : decide (0 ≤ x5_1) = true := decide_eq_true c19
                                clear c19
                                by_cases c20 : x5_1 < ((rd_L5 t474 x6_2).length : Int)
                                · rw [if_pos c20] at H
                                  have c20b0 : decide (x5_1 < ((rd_L5 t474 x6_2).length : Int)) = true := decide_eq_true c20
                                  clear c20
                                  have H' := Aside0.mk H
                                  clear H
                                  obtain ⟨Ao21, co21, eo21⟩ := Kd.S_slice HO_3.out
                                  subst eo21
                                  have p481 : 0 ≤ (x6_2 : Int) := of_decide_eq_true (by first | (with_reducible assumption) | assumption)
                                  have q481 : x6_2 < (t474.length : Int) := of_decide_eq_true (by first | (with_reducible assumption) | assumption)
                                  obtain ⟨ad481, A481_0, c481_0, e481, hx481_0, hl481_0, hi481_0⟩ := at_L5 (Kd.S_reads' HO_3.out).2.2 x6_2 p481 q481
                                  cases e481
                                  obtain ⟨ce481, hce481, hMe481, hcc481⟩ := Kd.S_get HO_3.out [] x6_2 p481 (by first | exact q481 | exact of_decide_eq_true (by first | (with_reducible assumption) | assumption) | (have e_ := (Kd.S_reads' HO_3.out).1; omega))
                                  obtain ⟨ve481_0, rfl, ge481_0⟩ := hMe481
                                  have hv481_0 := hcc481 0 _ rfl
                                  rw [Nat.add_zero, show ((Kd.slice 4 Kd.bool)).sz = 1 from rfl, Nat.mul_one] at hv481_0
                                  replace hv481_0 := Option.some.inj (hv481_0.symm.trans hx481_0)
                                  rw [hv481_0] at ge481_0
                                  have HL481_0 := Aside0.mk (show Kd.R Kd.bool 4 _ _ _ _ (rd_L5 t474 x6_2) from ge481_0)
                                  clear hv481_0 ge481_0
                                  clear hcc481 hce481
                                  have HR481_0 := Aside0.mk hi481_0
                                  have HC481_0 := Aside0.mk hl481_0
                                  clear hi481_0 hl481_0
                                  replace p481 := eq_true p481
                                  replace q481 := eq_true q481
                                  have p482 : 0 ≤ (x5_1 : Int) := of_decide_eq_true (by first | (with_reducible assumption) | assumption)
                                  have q482 : x5_1 < ((rd_L5 t474 x6_2).length : Int) := of_decide_eq_true (by first | (with_reducible assumption) | assumption)
                                  obtain ⟨ad482, e482, hx482_0⟩ := Kd.at_bool (by repeat (first | (with_reducible exact HR481_0.out) | (with_reducible refine Kd.C_alloc ?_ _) | (with_reducible refine Kd.C_drewN ?_ _) | (with_reducible refine Kd.C_drew ?_) | exact HR481_0.out)) x5_1 p482 q482
                                  cases e482
                                  replace p482 := eq_true p482
                                  replace q482 := eq_true q482
                                  go_wp2
                                  go_meet
                                  case rel => exact ⟨_, (!(rdOf false (rd_L5 t474 x6_2) x5_1)), (by first | rfl | (simp; done) | (simp [*]; done)), H', ⟨by have := HK1.out; have := HK2.out; first | omega | exact Nat.le_refl _⟩, ⟨by (try simp only [hl4_2]); (with_reducible repeat (first | apply Kd.S_alloc | apply Kd.S_drewN | apply Kd.S_drew)); exact HO_3.out⟩, ⟨by (try simp only [hl4_2]); (with_reducible repeat (first | apply Kd.R_alloc | apply Kd.R_drewN | apply Kd.R_drew)); exact HO_4.out⟩, ⟨by repeat (first | (with_reducible first | exact HB.out | apply below_alloc | apply pw_below_drewN | apply below_drew1) | exact HB.out)⟩⟩
                                · rw [if_neg c20] at H
                                  exact absurd H (by simp)
                              · rw [if_neg c19] at H
                                exact absurd H (by simp)
                            · rw [if_neg c18] at H
                              exact absurd H (by simp)
                          · rw [if_neg c17] at H
                            exact absurd H (by simp)
                      case rest =>
                        clear HC15
                        try clear c1
                        try clear p1
                        try clear q1
                        try clear hx1
                        try clear hf1
                        try clear c2
                        try clear p2
                        try clear c3
                        try clear c3b0
                        try clear c3b1
                        try clear c4
                        try clear c4b0
                        try clear c4b1
                        try clear p4
                        try clear q4
                        try clear hx4
                        try clear c8
                        try clear c8b0
                        try clear c9
                        try clear c9b0
                        try clear c10
                        try clear c10b0
                        try clear p11
                        try clear q11
                        try clear hx11
                        try clear hf11
                        try clear c13
                        try clear c14
                        try clear c14b0
                        try clear c16
                        try clear c16b0
                        try clear c16b1
                        try clear c17
                        try clear c17b0
                        try clear c18
                        try clear c18b0
                        try clear c19
                        try clear c19b0
                        try clear c20
                        try clear c20b0
                        try clear hx11_0
                        try clear hx481_0
                        try clear hx482_0
                        try clear p1
                        try clear p11
                        try clear p2
                        try clear p481
                        try clear p482
                        try clear q1
                        try clear q11
                        try clear q481
                        try clear q482
                        obtain ⟨kq, x41_14, rfl, HA, HJ14, HO_3, HO_4, HB⟩ := hcut
                        cases kq with
                        | zero => exact absurd HA.out (by simp [ratlineref10_Doms.j2])
                        | succ kj14 =>
                          have H := HA.out
                          clear HA
                          simp only [ratlineref10_Doms.j2] at H
                          by_cases c22 : x41_14 = true
                          · subst c22
                            have H1 : (ratlineref10_Doms.l1 kj14 l0 t474 x4_2 x5_1 (wrap64 (x6_2 + 1))) = some r := by rw [if_pos rfl] at H; exact H
                            clear H
                            have H := H1
                            clear H1
                            have H' := Aside0.mk H
                            clear H
                            go_wp2
                            (try simp only [← hl4_2])
                            go_roundg kj14
                            case measure => have := HK1.out; have := HK2.out; have := HJ14.out; omega
                            case rel => exact ⟨(x4_2), (wrap64 (x6_2 + 1)), (by first | rfl | (simp; done) | (simp [*]; done)), H', ⟨by have := HK1.out; have := HK2.out; have := HJ14.out; omega⟩, ⟨by (try simp only [hl4_2]); (with_reducible repeat (first | apply Kd.S_alloc | apply Kd.S_drewN | apply Kd.S_drew)); exact HO_3.out⟩, ⟨by (try simp only [hl4_2]); (with_reducible repeat (first | apply Kd.R_alloc | apply Kd.R_drewN | apply Kd.R_drew)); exact HO_4.out⟩, ⟨by repeat (first | (with_reducible first | exact HB.out | apply below_alloc | apply pw_below_drewN | apply below_drew1) | exact HB.out)⟩⟩
                          · replace c22 := Bool.eq_false_iff.mpr c22
                            subst c22
                            have H1 : (ratlineref10_Doms.l2 kj14 l0 t474 x4_2 x5_1 x6_2 true 0) = some r := by rw [if_neg (show ¬ (false = true) by decide)] at H; exact H
                            clear H
                            have H := H1
                            clear H1
                            have H' := Aside0.mk H
                            clear H
                            go_wp2
                            go_loopg [7, 8] kj14 (fun kq v7 v8 w' => ∃ (x7_4 : Bool) (x8_4 : Int), v7 = .bool x7_4 ∧ v8 = .int .i64 x8_4 ∧ Aside0 (ratlineref10_Doms.l2 kq l0 t474 x4_2 x5_1 x6_2 x7_4 x8_4 = some r) ∧ Aside0 (kq ≤ kj14) ∧ Aside0 (Kd.S (Kd.slice 4 Kd.bool) 30 w' w.heap.size (fun _ => True) v475 t474) ∧ Aside0 (Kd.R (Kd.int .i64) 3 w' w.heap.size (fun _ => True) (.slice (some ⟨go11, 0, none⟩) x4_2.length co11) x4_2) ∧ Aside0 (Below w.heap.size w w'))
                            case atStart => exact ⟨(true), (0), (by first | rfl | (simp; done) | (simp [*]; done)), (by first | rfl | (simp; done) | (simp [*]; done)), H', ⟨Nat.le_refl _⟩, ⟨by (try simp only [hl4_2]); (with_reducible repeat (first | apply Kd.S_alloc | apply Kd.S_drewN | apply Kd.S_drew)); exact HO_3.out⟩, ⟨by (try simp only [hl4_2]); (with_reducible repeat (first | apply Kd.R_alloc | apply Kd.R_drewN | apply Kd.R_drew)); exact HO_4.out⟩, ⟨by repeat (first | (with_reducible first | exact HB.out | apply below_alloc | apply pw_below_drewN | apply below_drew1) | exact HB.out)⟩⟩
                            case round =>
                              clear H'
                              try clear c1
                              try clear p1
                              try clear q1
                              try clear hx1
                              try clear hf1
                              try clear c2
                              try clear p2
                              try clear c3
                              try clear c3b0
                              try clear c3b1
                              try clear c4
                              try clear c4b0
                              try clear c4b1
                              try clear p4
                              try clear q4
                              try clear hx4
                              try clear p6
                              try clear c8
                              try clear c8b0
                              try clear c9
                              try clear c9b0
                              try clear c10
                              try clear c10b0
                              try clear p11
                              try clear q11
                              try clear hx11
                              try clear hf11
                              try clear c13
                              try clear c14
                              try clear c14b0
                              try clear c16
                              try clear c16b0
                              try clear c16b1
                              try clear c17
                              try clear c17b0
                              try clear c18
                              try clear c18b0
                              try clear c19
                              try clear c19b0
                              try clear c20
                              try clear c20b0
                              try clear c22
                              try clear hx11_0
                              try clear hx481_0
                              try clear hx482_0
                              try clear p1
                              try clear p11
                              try clear p2
                              try clear p4
                              try clear p481
                              try clear p482
                              try clear q1
                              try clear q11
                              try clear q4
                              try clear q481
                              try clear q482
                              obtain ⟨x7_4, x8_4, rfl, rfl, HA, HK4, HO_3, HO_4, HB⟩ := hrel
                              cases gk with
                              | zero => exact absurd HA.out (by simp [ratlineref10_Doms.l2])
                              | succ k4 =>
                                have H := HA.out
                                clear HA
                                simp only [ratlineref10_Doms.l2] at H
                                by_cases c23 : x8_4 < (l0.length : Int)
                                · rw [if_pos c23] at H
                                  have c23b0 : decide (x8_4 < (l0.length : Int)) = true := decide_eq_true c23
                                  clear c23
                                  by_cases c24 : x8_4 = x5_1
                                  · rw [if_pos c24] at H
                                    have c24b0 : (x8_4 == x5_1) = true := beq_iff_eq.mpr c24
                                    have c24b1 : (x8_4 != x5_1) = false := bne_eq_false_iff_eq.mpr c24
                                    clear c24
                                    have H' := Aside0.mk H
                                    clear H
                                    go_wp2
                                    go_roundg k4
                                    case measure => have := HK1.out; have := HK2.out; have := HJ14.out; have := HK4.out; omega
                                    case rel => exact ⟨(x7_4), (wrap64 (x8_4 + 1)), (by first | rfl | (simp; done) | (simp [*]; done)), (by first | rfl | (simp; done) | (simp [*]; done)), H', ⟨by have := HK1.out; have := HK2.out; have := HJ14.out; have := HK4.out; omega⟩, ⟨by (try simp only [hl4_2]); (with_reducible repeat (first | apply Kd.S_alloc | apply Kd.S_drewN | apply Kd.S_drew)); exact HO_3.out⟩, ⟨by (try simp only [hl4_2]); (with_reducible repeat (first | apply Kd.R_alloc | apply Kd.R_drewN | apply Kd.R_drew)); exact HO_4.out⟩, ⟨by repeat (first | (with_reducible first | exact HB.out | apply below_alloc | apply pw_below_drewN | apply below_drew1) | exact HB.out)⟩⟩
                                  · rw [if_neg c24] at H
                                    have c24b0 : (x8_4 == x5_1) = false := beq_eq_false_iff_ne.mpr c24
                                    have c24b1 : (x8_4 != x5_1) = true := bne_iff_ne.mpr c24
                                    by_cases c25 : 0 ≤ x8_4
                                    · rw [if_pos c25] at H
                                      have c25b0 : decide (0 ≤ x8_4) = true := decide_eq_true c25
                                      clear c25
                                      by_cases c26 : x8_4 < (t474.length : Int)
                                      · rw [if_pos c26] at H
                                        have c26b0 : decide (x8_4 < (t474.length : Int)) = true := decide_eq_true c26
                                        clear c26
                                        by_cases c27 : 0 ≤ x5_1
                                        · rw [if_pos c27] at H
                                          have c27b0 : decide (0 ≤ x5_1) = true := decide_eq_true c27
                                          clear c27
                                          by_cases c28 : x5_1 < ((rd_L5 t474 x8_4).length : Int)
                                          · rw [if_pos c28] at H
                                            have c28b0 : decide (x5_1 < ((rd_L5 t474 x8_4).length : Int)) = true := decide_eq_true c28
                                            clear c28
                                            obtain ⟨bq29, hbq29⟩ : ∃ b_ : Bool, b_ = (rdOf false (rd_L5 t474 x8_4) x5_1) := ⟨_, rfl⟩
                                            replace H : (if bq29 = true then (if 0 ≤ x6_2 then (if x6_2 < ((rd_L5 t474 x8_4).length : Int) then (if (rdOf false (rd_L5 t474 x8_4) x6_2 = true) then (ratlineref10_Doms.l2 k4 l0 t474 x4_2 x5_1 x6_2 x7_4 (wrap64 (x8_4 + 1))) else (ratlineref10_Doms.l2 k4 l0 t474 x4_2 x5_1 x6_2 false (wrap64 (x8_4 + 1)))) else (none)) else (none)) else (ratlineref10_Doms.l2 k4 l0 t474 x4_2 x5_1 x6_2 x7_4 (wrap64 (x8_4 + 1)))) = some r := by rw [← hbq29] at H; exact H
                                            have Nbq29 := Aside0.mk hbq29
                                            clear hbq29
                                            by_cases c30 : bq29 = true
                                            · subst c30
                                              have H1 : (if 0 ≤ x6_2 then (if x6_2 < ((rd_L5 t474 x8_4).length : Int) then (if (rdOf false (rd_L5 t474 x8_4) x6_2 = true) then (ratlineref10_Doms.l2 k4 l0 t474 x4_2 x5_1 x6_2 x7_4 (wrap64 (x8_4 + 1))) else (ratlineref10_Doms.l2 k4 l0 t474 x4_2 x5_1 x6_2 false (wrap64 (x8_4 + 1)))) else (none)) else (none)) = some r := by rw [if_pos rfl] at H; exact H
                                              clear H
                                              have H := H1
                                              clear H1
                                              by_cases c31 : 0 ≤ x6_2
                                              · rw [if_pos c31] at H
                                                have c31b0 : decide (0 ≤ x6_2) = true := decide_eq_true c31
                                                clear c31
                                                by_cases c32 : x6_2 < ((rd_L5 t474 x8_4).length : Int)
                                                · rw [if_pos c32] at H
                                                  have c32b0 : decide (x6_2 < ((rd_L5 t474 x8_4).length : Int)) = true := decide_eq_true c32
                                                  clear c32
                                                  obtain ⟨bq33, hbq33⟩ : ∃ b_ : Bool, b_ = (rdOf false (rd_L5 t474 x8_4) x6_2) := ⟨_, rfl⟩
                                                  replace H : (if (bq33 = true) then (ratlineref10_Doms.l2 k4 l0 t474 x4_2 x5_1 x6_2 x7_4 (wrap64 (x8_4 + 1))) else (ratlineref10_Doms.l2 k4 l0 t474 x4_2 x5_1 x6_2 false (wrap64 (x8_4 + 1)))) = some r := by rw [← hbq33] at H; exact H
                                                  have Nbq33 := Aside0.mk hbq33
                                                  clear hbq33
                                                  by_cases c34 : (bq33 = true)
                                                  · subst c34
                                                    have H1 : (ratlineref10_Doms.l2 k4 l0 t474 x4_2 x5_1 x6_2 x7_4 (wrap64 (x8_4 + 1))) = some r := by rw [if_pos rfl] at H; exact H
                                                    clear H
                                                    have H := H1
                                                    clear H1
                                                    have H' := Aside0.mk H
                                                    clear H
                                                    obtain ⟨Ao35, co35, eo35⟩ := Kd.S_slice HO_3.out
                                                    subst eo35
                                                    have p483 : 0 ≤ (x8_4 : Int) := of_decide_eq_true (by first | (with_reducible assumption) | assumption)
                                                    have q483 : x8_4 < (t474.length : Int) := of_decide_eq_true (by first | (with_reducible assumption) | assumption)
                                                    obtain ⟨ad483, A483_0, c483_0, e483, hx483_0, hl483_0, hi483_0⟩ := at_L5 (Kd.S_reads' HO_3.out).2.2 x8_4 p483 q483
                                                    cases e483
                                                    obtain ⟨ce483, hce483, hMe483, hcc483⟩ := Kd.S_get HO_3.out [] x8_4 p483 (by first | exact q483 | exact of_decide_eq_true (by first | (with_reducible assumption) | assumption) | (have e_ := (Kd.S_reads' HO_3.out).1; omega))
                                                    obtain ⟨ve483_0, rfl, ge483_0⟩ := hMe483
                                                    have hv483_0 := hcc483 0 _ rfl
                                                    rw [Nat.add_zero, show ((Kd.slice 4 Kd.bool)).sz = 1 from rfl, Nat.mul_one] at hv483_0
                                                    replace hv483_0 := Option.some.inj (hv483_0.symm.trans hx483_0)
                                                    rw [hv483_0] at ge483_0
                                                    have HL483_0 := Aside0.mk (show Kd.R Kd.bool 4 _ _ _ _ (rd_L5 t474 x8_4) from ge483_0)
                                                    clear hv483_0 ge483_0
                                                    clear hcc483 hce483
                                                    have HR483_0 := Aside0.mk hi483_0
                                                    have HC483_0 := Aside0.mk hl483_0
                                                    clear hi483_0 hl483_0
                                                    replace p483 := eq_true p483
                                                    replace q483 := eq_true q483
                                                    have p484 : 0 ≤ (x5_1 : Int) := of_decide_eq_true (by first | (with_reducible assumption) | assumption)
                                                    have q484 : x5_1 < ((rd_L5 t474 x8_4).length : Int) := of_decide_eq_true (by first | (with_reducible assumption) | assumption)
                                                    obtain ⟨ad484, e484, hx484_0⟩ := Kd.at_bool (by repeat (first | (with_reducible exact HR483_0.out) | (with_reducible refine Kd.C_alloc ?_ _) | (with_reducible refine Kd.C_drewN ?_ _) | (with_reducible refine Kd.C_drew ?_) | exact HR483_0.out)) x5_1 p484 q484
                                                    (try rw [← Nbq29.out] at hx484_0)
                                                    (try rw [← Nbq33.out] at hx484_0)
                                                    cases e484
                                                    replace p484 := eq_true p484
                                                    replace q484 := eq_true q484
                                                    have p485 : 0 ≤ (x8_4 : Int) := of_decide_eq_true (by first | (with_reducible assumption) | assumption)
                                                    have q485 : x8_4 < (t474.length : Int) := of_decide_eq_true (by first | (with_reducible assumption) | assumption)
                                                    obtain ⟨ad485, A485_0, c485_0, e485, hx485_0, hl485_0, hi485_0⟩ := at_L5 (Kd.S_reads' HO_3.out).2.2 x8_4 p485 q485
                                                    obtain rfl : ad483 = ad485 := (by injection e485)
                                                    obtain ⟨ce485, hce485, hMe485, hcc485⟩ := Kd.S_get HO_3.out [] x8_4 p485 (by first | exact q485 | exact of_decide_eq_true (by first | (with_reducible assumption) | assumption) | (have e_ := (Kd.S_reads' HO_3.out).1; omega))
                                                    obtain ⟨ve485_0, rfl, ge485_0⟩ := hMe485
                                                    have hv485_0 := hcc485 0 _ rfl
                                                    rw [Nat.add_zero, show ((Kd.slice 4 Kd.bool)).sz = 1 from rfl, Nat.mul_one] at hv485_0
                                                    replace hv485_0 := Option.some.inj (hv485_0.symm.trans hx485_0)
                                                    rw [hv485_0] at ge485_0
                                                    have HL485_0 := Aside0.mk (show Kd.R Kd.bool 4 _ _ _ _ (rd_L5 t474 x8_4) from ge485_0)
                                                    clear hv485_0 ge485_0
                                                    clear hcc485 hce485
                                                    have HR485_0 := Aside0.mk hi485_0
                                                    have HC485_0 := Aside0.mk hl485_0
                                                    clear hi485_0 hl485_0
                                                    replace p485 := eq_true p485
                                                    replace q485 := eq_true q485
                                                    have ea_ := Option.some.inj (hx483_0.symm.trans hx485_0)
                                                    injection ea_ with ea_ en_ ec_
                                                    subst ea_
                                                    subst ec_
                                                    clear en_
                                                    have p486 : 0 ≤ (x6_2 : Int) := of_decide_eq_true (by first | (with_reducible assumption) | assumption)
                                                    have q486 : x6_2 < ((rd_L5 t474 x8_4).length : Int) := of_decide_eq_true (by first | (with_reducible assumption) | assumption)
                                                    obtain ⟨ad486, e486, hx486_0⟩ := Kd.at_bool (by repeat (first | (with_reducible exact HR485_0.out) | (with_reducible refine Kd.C_alloc ?_ _) | (with_reducible refine Kd.C_drewN ?_ _) | (with_reducible refine Kd.C_drew ?_) | exact HR485_0.out)) x6_2 p486 q486
                                                    (try rw [← Nbq29.out] at hx486_0)
                                                    (try rw [← Nbq33.out] at hx486_0)
                                                    cases e486
                                                    replace p486 := eq_true p486
                                                    replace q486 := eq_true q486
                                                    go_wp2
                                                    go_roundg k4
                                                    case measure => have := HK1.out; have := HK2.out; have := HJ14.out; have := HK4.out; omega
                                                    case rel => exact ⟨(x7_4), (wrap64 (x8_4 + 1)), (by first | rfl | (simp; done) | (simp [*]; done)), (by first | rfl | (simp; done) | (simp [*]; done)), H', ⟨by have := HK1.out; have := HK2.out; have := HJ14.out; have := HK4.out; omega⟩, ⟨by (try simp only [hl4_2]); (with_reducible repeat (first | apply Kd.S_alloc | apply Kd.S_drewN | apply Kd.S_drew)); exact HO_3.out⟩, ⟨by (try simp only [hl4_2]); (with_reducible repeat (first | apply Kd.R_alloc | apply Kd.R_drewN | apply Kd.R_drew)); exact HO_4.out⟩, ⟨by repeat (first | (with_reducible first | exact HB.out | apply below_alloc | apply pw_below_drewN | apply below_drew1) | exact HB.out)⟩⟩
                                                  · replace c34 := Bool.eq_false_iff.mpr c34
                                                    subst c34
                                                    have H1 : (ratlineref10_Doms.l2 k4 l0 t474 x4_2 x5_1 x6_2 false (wrap64 (x8_4 + 1))) = some r := by rw [if_neg (show ¬ (false = true) by decide)] at H; exact H
                                                    clear H
                                                    have H := H1
                                                    clear H1
                                                    have H' := Aside0.mk H
                                                    clear H
                                                    obtain ⟨Ao36, co36, eo36⟩ := Kd.S_slice HO_3.out
                                                    subst eo36
                                                    have p483 : 0 ≤ (x8_4 : Int) := of_decide_eq_true (by first | (with_reducible assumption) | assumption)
                                                    have q483 : x8_4 < (t474.length : Int) := of_decide_eq_true (by first | (with_reducible assumption) | assumption)
                                                    obtain ⟨ad483, A483_0, c483_0, e483, hx483_0, hl483_0, hi483_0⟩ := at_L5 (Kd.S_reads' HO_3.out).2.2 x8_4 p483 q483
                                                    cases e483
                                                    obtain ⟨ce483, hce483, hMe483, hcc483⟩ := Kd.S_get HO_3.out [] x8_4 p483 (by first | exact q483 | exact of_decide_eq_true (by first | (with_reducible assumption) | assumption) | (have e_ := (Kd.S_reads' HO_3.out).1; omega))
                                                    obtain ⟨ve483_0, rfl, ge483_0⟩ := hMe483
                                                    have hv483_0 := hcc483 0 _ rfl
                                                    rw [Nat.add_zero, show ((Kd.slice 4 Kd.bool)).sz = 1 from rfl, Nat.mul_one] at hv483_0
                                                    replace hv483_0 := Option.some.inj (hv483_0.symm.trans hx483_0)
                                                    rw [hv483_0] at ge483_0
                                                    have HL483_0 := Aside0.mk (show Kd.R Kd.bool 4 _ _ _ _ (rd_L5 t474 x8_4) from ge483_0)
                                                    clear hv483_0 ge483_0
                                                    clear hcc483 hce483
                                                    have HR483_0 := Aside0.mk hi483_0
                                                    have HC483_0 := Aside0.mk hl483_0
                                                    clear hi483_0 hl483_0
                                                    replace p483 := eq_true p483
                                                    replace q483 := eq_true q483
                                                    have p484 : 0 ≤ (x5_1 : Int) := of_decide_eq_true (by first | (with_reducible assumption) | assumption)
                                                    have q484 : x5_1 < ((rd_L5 t474 x8_4).length : Int) := of_decide_eq_true (by first | (with_reducible assumption) | assumption)
                                                    obtain ⟨ad484, e484, hx484_0⟩ := Kd.at_bool (by repeat (first | (with_reducible exact HR483_0.out) | (with_reducible refine Kd.C_alloc ?_ _) | (with_reducible refine Kd.C_drewN ?_ _) | (with_reducible refine Kd.C_drew ?_) | exact HR483_0.out)) x5_1 p484 q484
                                                    (try rw [← Nbq29.out] at hx484_0)
                                                    (try rw [← Nbq33.out] at hx484_0)
                                                    cases e484
                                                    replace p484 := eq_true p484
                                                    replace q484 := eq_true q484
                                                    have p485 : 0 ≤ (x8_4 : Int) := of_decide_eq_true (by first | (with_reducible assumption) | assumption)
                                                    have q485 : x8_4 < (t474.length : Int) := of_decide_eq_true (by first | (with_reducible assumption) | assumption)
                                                    obtain ⟨ad485, A485_0, c485_0, e485, hx485_0, hl485_0, hi485_0⟩ := at_L5 (Kd.S_reads' HO_3.out).2.2 x8_4 p485 q485
                                                    obtain rfl : ad483 = ad485 := (by injection e485)
                                                    obtain ⟨ce485, hce485, hMe485, hcc485⟩ := Kd.S_get HO_3.out [] x8_4 p485 (by first | exact q485 | exact of_decide_eq_true (by first | (with_reducible assumption) | assumption) | (have e_ := (Kd.S_reads' HO_3.out).1; omega))
                                                    obtain ⟨ve485_0, rfl, ge485_0⟩ := hMe485
                                                    have hv485_0 := hcc485 0 _ rfl
                                                    rw [Nat.add_zero, show ((Kd.slice 4 Kd.bool)).sz = 1 from rfl, Nat.mul_one] at hv485_0
                                                    replace hv485_0 := Option.some.inj (hv485_0.symm.trans hx485_0)
                                                    rw [hv485_0] at ge485_0
                                                    have HL485_0 := Aside0.mk (show Kd.R Kd.bool 4 _ _ _ _ (rd_L5 t474 x8_4) from ge485_0)
                                                    clear hv485_0 ge485_0
                                                    clear hcc485 hce485
                                                    have HR485_0 := Aside0.mk hi485_0
                                                    have HC485_0 := Aside0.mk hl485_0
                                                    clear hi485_0 hl485_0
                                                    replace p485 := eq_true p485
                                                    replace q485 := eq_true q485
                                                    have ea_ := Option.some.inj (hx483_0.symm.trans hx485_0)
                                                    injection ea_ with ea_ en_ ec_
                                                    subst ea_
                                                    subst ec_
                                                    clear en_
                                                    have p486 : 0 ≤ (x6_2 : Int) := of_decide_eq_true (by first | (with_reducible assumption) | assumption)
                                                    have q486 : x6_2 < ((rd_L5 t474 x8_4).length : Int) := of_decide_eq_true (by first | (with_reducible assumption) | assumption)
                                                    obtain ⟨ad486, e486, hx486_0⟩ := Kd.at_bool (by repeat (first | (with_reducible exact HR485_0.out) | (with_reducible refine Kd.C_alloc ?_ _) | (with_reducible refine Kd.C_drewN ?_ _) | (with_reducible refine Kd.C_drew ?_) | exact HR485_0.out)) x6_2 p486 q486
                                                    (try rw [← Nbq29.out] at hx486_0)
                                                    (try rw [← Nbq33.out] at hx486_0)
                                                    cases e486
                                                    replace p486 := eq_true p486
                                                    replace q486 := eq_true q486
                                                    go_wp2
                                                    go_roundg k4
                                                    case measure => have := HK1.out; have := HK2.out; have := HJ14.out; have := HK4.out; omega
                                                    case rel => exact ⟨(false), (wrap64 (x8_4 + 1)), (by first | rfl | (simp; done) | (simp [*]; done)), (by first | rfl | (simp; done) | (simp [*]; done)), H', ⟨by have := HK1.out; have := HK2.out; have := HJ14.out; have := HK4.out; omega⟩, ⟨by (try simp only [hl4_2]); (with_reducible repeat (first | apply Kd.S_alloc | apply Kd.S_drewN | apply Kd.S_drew)); exact HO_3.out⟩, ⟨by (try simp only [hl4_2]); (with_reducible repeat (first | apply Kd.R_alloc | apply Kd.R_drewN | apply Kd.R_drew)); exact HO_4.out⟩, ⟨by repeat (first | (with_reducible first | exact HB.out | apply below_alloc | apply pw_below_drewN | apply below_drew1) | exact HB.out)⟩⟩
                                                · rw [if_neg c32] at H
                                                  exact absurd H (by simp)
                                              · rw [if_neg c31] at H
                                                exact absurd H (by simp)
                                            · replace c30 := Bool.eq_false_iff.mpr c30
                                              subst c30
                                              have H1 : (ratlineref10_Doms.l2 k4 l0 t474 x4_2 x5_1 x6_2 x7_4 (wrap64 (x8_4 + 1))) = some r := by rw [if_neg (show ¬ (false = true) by decide)] at H; exact H
                                              clear H
                                              have H := H1
                                              clear H1
                                              have H' := Aside0.mk H
                                              clear H
                                              obtain ⟨Ao37, co37, eo37⟩ := Kd.S_slice HO_3.out
                                              subst eo37
                                              have p483 : 0 ≤ (x8_4 : Int) := of_decide_eq_true (by first | (with_reducible assumption) | assumption)
                                              have q483 : x8_4 < (t474.length : Int) := of_decide_eq_true (by first | (with_reducible assumption) | assumption)
                                              obtain ⟨ad483, A483_0, c483_0, e483, hx483_0, hl483_0, hi483_0⟩ := at_L5 (Kd.S_reads' HO_3.out).2.2 x8_4 p483 q483
                                              cases e483
                                              obtain ⟨ce483, hce483, hMe483, hcc483⟩ := Kd.S_get HO_3.out [] x8_4 p483 (by first | exact q483 | exact of_decide_eq_true (by first | (with_reducible assumption) | assumption) | (have e_ := (Kd.S_reads' HO_3.out).1; omega))
                                              obtain ⟨ve483_0, rfl, ge483_0⟩ := hMe483
                                              have hv483_0 := hcc483 0 _ rfl
                                              rw [Nat.add_zero, show ((Kd.slice 4 Kd.bool)).sz = 1 from rfl, Nat.mul_one] at hv483_0
                                              replace hv483_0 := Option.some.inj (hv483_0.symm.trans hx483_0)
                                              rw [hv483_0] at ge483_0
                                              have HL483_0 := Aside0.mk (show Kd.R Kd.bool 4 _ _ _ _ (rd_L5 t474 x8_4) from ge483_0)
                                              clear hv483_0 ge483_0
                                              clear hcc483 hce483
                                              have HR483_0 := Aside0.mk hi483_0
                                              have HC483_0 := Aside0.mk hl483_0
                                              clear hi483_0 hl483_0
                                              replace p483 := eq_true p483
                                              replace q483 := eq_true q483
                                              have p484 : 0 ≤ (x5_1 : Int) := of_decide_eq_true (by first | (with_reducible assumption) | assumption)
                                              have q484 : x5_1 < ((rd_L5 t474 x8_4).length : Int) := of_decide_eq_true (by first | (with_reducible assumption) | assumption)
                                              obtain ⟨ad484, e484, hx484_0⟩ := Kd.at_bool (by repeat (first | (with_reducible exact HR483_0.out) | (with_reducible refine Kd.C_alloc ?_ _) | (with_reducible refine Kd.C_drewN ?_ _) | (with_reducible refine Kd.C_drew ?_) | exact HR483_0.out)) x5_1 p484 q484
                                              (try rw [← Nbq29.out] at hx484_0)
                                              cases e484
                                              replace p484 := eq_true p484
                                              replace q484 := eq_true q484
                                              go_wp2
                                              go_roundg k4
                                              case measure => have := HK1.out; have := HK2.out; have := HJ14.out; have := HK4.out; omega
                                              case rel => exact ⟨(x7_4), (wrap64 (x8_4 + 1)), (by first | rfl | (simp; done) | (simp [*]; done)), (by first | rfl | (simp; done) | (simp [*]; done)), H', ⟨by have := HK1.out; have := HK2.out; have := HJ14.out; have := HK4.out; omega⟩, ⟨by (try simp only [hl4_2]); (with_reducible repeat (first | apply Kd.S_alloc | apply Kd.S_drewN | apply Kd.S_drew)); exact HO_3.out⟩, ⟨by (try simp only [hl4_2]); (with_reducible repeat (first | apply Kd.R_alloc | apply Kd.R_drewN | apply Kd.R_drew)); exact HO_4.out⟩, ⟨by repeat (first | (with_reducible first | exact HB.out | apply below_alloc | apply pw_below_drewN | apply below_drew1) | exact HB.out)⟩⟩
                                          · rw [if_neg c28] at H
                                            exact absurd H (by simp)
                                        · rw [if_neg c27] at H
                                          exact absurd H (by simp)
                                      · rw [if_neg c26] at H
                                        exact absurd H (by simp)
                                    · rw [if_neg c25] at H
                                      exact absurd H (by simp)
                                · rw [if_neg c23] at H
                                  have c23b0 : decide (x8_4 < (l0.length : Int)) = false := decide_eq_false c23
                                  clear c23
                                  by_cases c38 : x7_4 = true
                                  · subst c38
                                    have H1 : (if 0 ≤ x5_1 then (if x5_1 < (x4_2.length : Int) then (ratlineref10_Doms.l1 k4 l0 t474 (x4_2.set (x5_1 : Int).toNat x6_2) x5_1 (wrap64 (x6_2 + 1))) else (none)) else (none)) = some r := by rw [if_pos rfl] at H; exact H
                                    clear H
                                    have H := H1
                                    clear H1
                                    by_cases c39 : 0 ≤ x5_1
                                    · rw [if_pos c39] at H
                                      have c39b0 : decide (0 ≤ x5_1) = true := decide_eq_true c39
                                      clear c39
                                      by_cases c40 : x5_1 < (x4_2.length : Int)
                                      · rw [if_pos c40] at H
                                        have c40b0 : decide (x5_1 < (x4_2.length : Int)) = true := decide_eq_true c40
                                        clear c40
                                        obtain ⟨y487, hy487⟩ : ∃ y_ : List Int, y_ = (x4_2.set (x5_1 : Int).toNat x6_2) := ⟨_, rfl⟩
                                        replace H : (ratlineref10_Doms.l1 k4 l0 t474 y487 x5_1 (wrap64 (x6_2 + 1))) = some r := by first | (rw [hy487]; with_reducible exact H) | (have H2_ := (Option.bind_some _ _).symm.trans H; rw [hy487]; with_reducible exact H2_) | (have H2_ := (Option.bind_some _ _).symm.trans H; with_reducible exact H2_) | with_reducible exact H | (rw [hy487]; exact H) | exact H
                                        have Ny487 := Aside0.mk hy487
                                        clear hy487
                                        have H' := Aside0.mk H
                                        clear H
                                        have p41 : 0 ≤ (x5_1 : Int) := of_decide_eq_true (by first | (with_reducible assumption) | assumption)
                                        have q41 : (x5_1 : Int) < ((x4_2.length : Int) : Int) := of_decide_eq_true (by first | (with_reducible assumption) | assumption)
                                        obtain ⟨hx41_0, hf41_0⟩ := Kd.R_celln 0 HO_4.out (x5_1 : Int) p41 q41
                                        replace p41 := eq_true p41
                                        replace q41 := eq_true q41
                                        have HP42 := Kd.R_putg HO_4.out (x5_1 : Int) x6_2
                                        go_wp2_with (first | ((with_reducible refine gate_store (t := 3) (p := 74) rfl ?_); refine store_event (t := 3) (p := 74) (v := ?vo_w43) (w1 := (wr.setCell ⟨go11, (x5_1 : Int).toNat, none⟩ (.int .i64 x6_2))) ?hg ?ho ?hn ?hr ?_; (case ho => rfl); (case hg => rfl); (case hn => rfl); (case hr => first | (go_simp; done) | (go_simp; rfl)); intro w43 hw; have hg : wr.grownBy w43 (some go11) := (by rw [hw]; exact HP42.2); have hp_ : Kd.R (Kd.int .i64) 3 w43 w.heap.size (fun _ => True) (.slice (some ⟨go11, 0, none⟩) x4_2.length co11) y487 := (by rw [hw, Ny487.out]; exact HP42.1); clear HP42; have n0_ := Aside0.mk (Kd.S_over' (v := (.slice (some ⟨go11, 0, none⟩) x4_2.length co11)) (by (with_reducible repeat (first | apply Kd.S_alloc | apply Kd.S_drewN | apply Kd.S_drew)); exact HO_3.out) (Kd.R_typed HO_4.out) (by decide) hg); have n1_ := Aside0.mk (hp_); have n2_ := Aside0.mk ((by rw [hw]; exact below_set (HB.out) GB11.out : Below w.heap.size w w43)); clear HO_3; clear HO_4; clear HB; have HO_3 := n0_; have HO_4 := n1_; have HB := n2_; clear n0_ n1_ n2_; clear hg hw hp_))
                                        (try simp only [← hl4_2])
                                        go_roundg k4
                                        case measure => have := HK1.out; have := HK2.out; have := HJ14.out; have := HK4.out; omega
                                        case rel => exact ⟨(y487), (wrap64 (x6_2 + 1)), (by first | rfl | (simp; done) | (simp [*]; done)), H', ⟨by have := HK1.out; have := HK2.out; have := HJ14.out; have := HK4.out; omega⟩, ⟨by (try simp only [hl4_2]); (with_reducible repeat (first | apply Kd.S_alloc | apply Kd.S_drewN | apply Kd.S_drew)); exact HO_3.out⟩, ⟨by (try simp only [hl4_2]); (with_reducible repeat (first | apply Kd.R_alloc | apply Kd.R_drewN | apply Kd.R_drew)); exact HO_4.out⟩, ⟨by repeat (first | (with_reducible first | exact HB.out | apply below_alloc | apply pw_below_drewN | apply below_drew1) | exact HB.out)⟩⟩
                                      · rw [if_neg c40] at H
                                        exact absurd H (by simp)
                                    · rw [if_neg c39] at H
                                      exact absurd H (by simp)
                                  · replace c38 := Bool.eq_false_iff.mpr c38
                                    subst c38
                                    have H1 : (ratlineref10_Doms.l1 k4 l0 t474 x4_2 x5_1 (wrap64 (x6_2 + 1))) = some r := by rw [if_neg (show ¬ (false = true) by decide)] at H; exact H
                                    clear H
                                    have H := H1
                                    clear H1
                                    have H' := Aside0.mk H
                                    clear H
                                    go_wp2
                                    (try simp only [← hl4_2])
                                    go_roundg k4
                                    case measure => have := HK1.out; have := HK2.out; have := HJ14.out; have := HK4.out; omega
                                    case rel => exact ⟨(x4_2), (wrap64 (x6_2 + 1)), (by first | rfl | (simp; done) | (simp [*]; done)), H', ⟨by have := HK1.out; have := HK2.out; have := HJ14.out; have := HK4.out; omega⟩, ⟨by (try simp only [hl4_2]); (with_reducible repeat (first | apply Kd.S_alloc | apply Kd.S_drewN | apply Kd.S_drew)); exact HO_3.out⟩, ⟨by (try simp only [hl4_2]); (with_reducible repeat (first | apply Kd.R_alloc | apply Kd.R_drewN | apply Kd.R_drew)); exact HO_4.out⟩, ⟨by repeat (first | (with_reducible first | exact HB.out | apply below_alloc | apply pw_below_drewN | apply below_drew1) | exact HB.out)⟩⟩
                    · rw [if_neg c14] at H
                      have c14b0 : decide (x6_2 < (l0.length : Int)) = false := decide_eq_false c14
                      clear c14
                      have H' := Aside0.mk H
                      clear H
                      go_wp2
                      (try simp only [← hl4_2])
                      go_roundg k2
                      case measure => have := HK1.out; have := HK2.out; omega
                      case rel => exact ⟨(x4_2), (wrap64 (x5_1 + 1)), (by first | rfl | (simp; done) | (simp [*]; done)), H', ⟨by have := HK1.out; have := HK2.out; omega⟩, ⟨by (try simp only [hl4_2]); (with_reducible repeat (first | apply Kd.S_alloc | apply Kd.S_drewN | apply Kd.S_drew)); exact HO_3.out⟩, ⟨by (try simp only [hl4_2]); (with_reducible repeat (first | apply Kd.R_alloc | apply Kd.R_drewN | apply Kd.R_drew)); exact HO_4.out⟩, ⟨by repeat (first | (with_reducible first | exact HB.out | apply below_alloc | apply pw_below_drewN | apply below_drew1) | exact HB.out)⟩⟩
              · rw [if_neg c10] at H
                exact absurd H (by simp)
            · rw [if_neg c9] at H
              exact absurd H (by simp)
          · rw [if_neg c8] at H
            have c8b0 : decide (x5_1 < (l0.length : Int)) = false := decide_eq_false c8
            clear c8
            obtain rfl := Option.some.inj H
            go_wp2
            go_ret
            exact ⟨_, by first | rfl | (simp [errW_none, errW_some] <;> rfl) | (simp [*, errW_none, errW_some] <;> rfl), by (with_reducible repeat (first | apply Kd.R_alloc | apply Kd.R_drewN | apply Kd.R_drew)); exact HO_4.out, by repeat (first | (with_reducible first | exact HB.out | apply below_alloc | apply pw_below_drewN | apply below_drew1) | exact HB.out)⟩
    · rw [if_neg c4] at H
      exact absurd H (by simp)
  · rw [if_neg c3] at H
    exact absurd H (by simp)

end Go.Proofs.Ytjflddnmkajleaa.PG
