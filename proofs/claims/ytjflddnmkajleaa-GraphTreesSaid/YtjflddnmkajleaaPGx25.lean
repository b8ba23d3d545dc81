-- By the session's own program out of the kit's print, with texts of the session's own for the functions that the print does not take.
import Derived.Test.YtjflddnmkajleaaPGx0
namespace Go.Proofs.Ytjflddnmkajleaa.PG
open Go.RowKit Go.Proofs.YtjflddnmkajleaaW.PrintWords Go.Proofs.YtjflddnmkajleaaW.PrintLast Go.Proofs.YtjflddnmkajleaaW.PrintMore
attribute [local go_sem] max2_int min2_int max_two min_two max_three min_three max_four min_four   -- for this text's walks alone
set_option linter.unusedVariables false
set_option linter.unusedSimpArgs false

/-! ### ratlineref10_from: function 29 -/
mutual
def ratlineref10_from.j0 : Nat → List (List Int) → Int → Int → List Bool → Bool → Option (List Bool)
  | 0, _, _, _, _, _ => none
  | k + 1, x0, x1, x2, x7, x27 => if x27 = true then (some x7) else (if 0 ≤ x1 then (if x1 < (x7.length : Int) then (ratlineref10_from.l0 k x0 x2 (x7.set (x1 : Int).toNat true) (([x1] : List Int))) else (none)) else (none))
def ratlineref10_from.l0 : Nat → List (List Int) → Int → List Bool → List Int → Option (List Bool)
  | 0, _, _, _, _ => none
  | k + 1, x0, x2, x7, x8 => if (x8.length : Int) > 0 then (if 0 ≤ (wrap64 ((x8.length : Int) - 1)) then (if (wrap64 ((x8.length : Int) - 1)) < (x8.length : Int) then (if (wrap64 ((x8.length : Int) - 1)) ≤ (x8.length : Int) then (ratlineref10_from.l1 k x0 x2 x7 (x8.take ((wrap64 ((x8.length : Int) - 1)) : Int).toNat) (rd x8 (wrap64 ((x8.length : Int) - 1))) 0) else (none)) else (none)) else (none)) else (some x7)
def ratlineref10_from.l1 : Nat → List (List Int) → Int → List Bool → List Int → Int → Int → Option (List Bool)
  | 0, _, _, _, _, _, _ => none
  | k + 1, x0, x2, x7, x8, x9, x10 => if 0 ≤ x9 then (if x9 < (x0.length : Int) then (if x10 < ((rd_L1 x0 x9).length : Int) then (if 0 ≤ x10 then (if (rd (rd_L1 x0 x9) x10) = x2 then (ratlineref10_from.l1 k x0 x2 x7 x8 x9 (wrap64 (x10 + 1))) else (if 0 ≤ (rd (rd_L1 x0 x9) x10) then (if (rd (rd_L1 x0 x9) x10) < (x7.length : Int) then (if (rdOf false x7 (rd (rd_L1 x0 x9) x10) = true) then (ratlineref10_from.l1 k x0 x2 x7 x8 x9 (wrap64 (x10 + 1))) else (if x8.length < 17592186044416 then (ratlineref10_from.l1 k x0 x2 (x7.set ((rd (rd_L1 x0 x9) x10) : Int).toNat true) (x8 ++ [rd (rd_L1 x0 x9) x10]) x9 (wrap64 (x10 + 1))) else (none))) else (none)) else (none))) else (none)) else (ratlineref10_from.l0 k x0 x2 x7 x8)) else (none)) else (none)
end
def ratlineref10_from.f (k : Nat) (l0 : List (List Int)) (a1 : Int) (a2 : Int) : Option (List Bool) := if 0 ≤ (l0.length : Int) then (if ((l0.length : Int) : Int).toNat ≤ 281474976710656 then ((some (List.replicate ((l0.length : Int) : Int).toNat false : List Bool)).bind fun y356 => (if a1 < 0 then (ratlineref10_from.j0 k l0 a1 a2 y356 true) else (if a1 ≥ (l0.length : Int) then (ratlineref10_from.j0 k l0 a1 a2 y356 true) else (ratlineref10_from.j0 k l0 a1 a2 y356 (a1 == a2))))) else (none)) else (none)
theorem ratlineref10_from.mono_l : ∀ k, (∀ y0 y1 y2 y3 y4, LeO (ratlineref10_from.j0 k y0 y1 y2 y3 y4) (ratlineref10_from.j0 (k + 1) y0 y1 y2 y3 y4)) ∧ (∀ y0 y1 y2 y3, LeO (ratlineref10_from.l0 k y0 y1 y2 y3) (ratlineref10_from.l0 (k + 1) y0 y1 y2 y3)) ∧ (∀ y0 y1 y2 y3 y4 y5, LeO (ratlineref10_from.l1 k y0 y1 y2 y3 y4 y5) (ratlineref10_from.l1 (k + 1) y0 y1 y2 y3 y4 y5))
  | 0 => ⟨fun _ _ _ _ _ r h => by simp [ratlineref10_from.j0] at h, fun _ _ _ _ r h => by simp [ratlineref10_from.l0] at h, fun _ _ _ _ _ _ r h => by simp [ratlineref10_from.l1] at h⟩
  | k + 1 => by
    obtain ⟨ih0, ih1, ih2⟩ := ratlineref10_from.mono_l k
    refine ⟨?_, ?_, ?_⟩
    · intro y0 y1 y2 y3 y4
      unfold ratlineref10_from.j0
      repeat' first
      | (with_reducible exact ih0 _ _ _ _ _)
      | (with_reducible exact ih1 _ _ _ _)
      | (with_reducible exact ih2 _ _ _ _ _ _)
      | (with_reducible exact LeO.refl _)
      | (with_reducible exact LeO.none _)
      | (with_reducible refine LeO.ite ?_ ?_)
      | (with_reducible refine LeO.bind ?_ (fun _ => ?_))
      | exact ih0 _ _ _ _ _
      | exact ih1 _ _ _ _
      | exact ih2 _ _ _ _ _ _
      | exact LeO.none _
      | refine LeO.ite ?_ ?_
      | refine LeO.bind ?_ (fun _ => ?_)
    · intro y0 y1 y2 y3
      unfold ratlineref10_from.l0
      repeat' first
      | (with_reducible exact ih0 _ _ _ _ _)
      | (with_reducible exact ih1 _ _ _ _)
      | (with_reducible exact ih2 _ _ _ _ _ _)
      | (with_reducible exact LeO.refl _)
      | (with_reducible exact LeO.none _)
      | (with_reducible refine LeO.ite ?_ ?_)
      | (with_reducible refine LeO.bind ?_ (fun _ => ?_))
      | exact ih0 _ _ _ _ _
      | exact ih1 _ _ _ _
      | exact ih2 _ _ _ _ _ _
      | exact LeO.none _
      | refine LeO.ite ?_ ?_
      | refine LeO.bind ?_ (fun _ => ?_)
    · intro y0 y1 y2 y3 y4 y5
      unfold ratlineref10_from.l1
      repeat' first
      | (with_reducible exact ih0 _ _ _ _ _)
      | (with_reducible exact ih1 _ _ _ _)
      | (with_reducible exact ih2 _ _ _ _ _ _)
      | (with_reducible exact LeO.refl _)
      | (with_reducible exact LeO.none _)
      | (with_reducible refine LeO.ite ?_ ?_)
      | (with_reducible refine LeO.bind ?_ (fun _ => ?_))
      | exact ih0 _ _ _ _ _
      | exact ih1 _ _ _ _
      | exact ih2 _ _ _ _ _ _
      | exact LeO.none _
      | refine LeO.ite ?_ ?_
      | refine LeO.bind ?_ (fun _ => ?_)
theorem ratlineref10_from.mono : ∀ a0 a1 a2 k, LeO (ratlineref10_from.f k a0 a1 a2) (ratlineref10_from.f (k + 1) a0 a1 a2) := by
  intro a0 a1 a2 k
  obtain ⟨ih0, ih1, ih2⟩ := ratlineref10_from.mono_l k
  unfold ratlineref10_from.f
  repeat' first
      | (with_reducible exact ih0 _ _ _ _ _)
      | (with_reducible exact ih1 _ _ _ _)
      | (with_reducible exact ih2 _ _ _ _ _ _)
      | (with_reducible exact LeO.refl _)
      | (with_reducible exact LeO.none _)
      | (with_reducible refine LeO.ite ?_ ?_)
      | (with_reducible refine LeO.bind ?_ (fun _ => ?_))
      | exact ih0 _ _ _ _ _
      | exact ih1 _ _ _ _
      | exact ih2 _ _ _ _ _ _
      | exact LeO.none _
      | refine LeO.ite ?_ ?_
      | refine LeO.bind ?_ (fun _ => ?_)
set_option maxHeartbeats 8000000 in
set_option maxRecDepth 100000 in
theorem ratlineref10_from.calls (k : Nat) (A0 : Option Addr) (c0 : Nat) (l0 : List (List Int)) (a1 : Int) (a2 : Int) (r : List Bool) (w : World) (hr0 : Kd.C (Kd.slice 3 (Kd.int .i64)) w A0 l0.length l0) (hc0 : l0.length ≤ c0) (h : ratlineref10_from.f k l0 a1 a2 = some r) :
    Calls Try.prog 29 #[.slice A0 l0.length c0, .int .i64 a1, .int .i64 a2] w fun e w' => ∃ v0_ : Value, e = .returned (v0_) ∧ Kd.R Kd.bool 4 w' w.heap.size (fun _ => True) v0_ r ∧ Below w.heap.size w w' := by
  have HR0 := Aside0.mk hr0
  have HC0 := Aside0.mk hc0
  clear hr0 hc0
  have HB := Aside0.mk (Below.refl w.heap.size w)
  have H : (if 0 ≤ (l0.length : Int) then (if ((l0.length : Int) : Int).toNat ≤ 281474976710656 then ((some (List.replicate ((l0.length : Int) : Int).toNat false : List Bool)).bind fun y356 => (if a1 < 0 then (ratlineref10_from.j0 k l0 a1 a2 y356 true) else (if a1 ≥ (l0.length : Int) then (ratlineref10_from.j0 k l0 a1 a2 y356 true) else (ratlineref10_from.j0 k l0 a1 a2 y356 (a1 == a2))))) else (none)) else (none)) = some r := h
  clear h
  by_cases c4 : 0 ≤ (l0.length : Int)
  · rw [if_pos c4] at H
    have c4b0 := eq_true c4
    have c4b1 : decide (0 ≤ (l0.length : Int)) = true := decide_eq_true c4
    clear c4
    by_cases c5 : ((l0.length : Int) : Int).toNat ≤ 281474976710656
    · rw [if_pos c5] at H
      have c5b0 := eq_true c5
      have c5b1 : decide (((l0.length : Int) : Int).toNat ≤ 281474976710656) = true := decide_eq_true c5
      clear c5
      obtain ⟨y356, hy356⟩ : ∃ y_ : List Bool, y_ = (List.replicate ((l0.length : Int) : Int).toNat false) := ⟨_, rfl⟩
      replace H : (if a1 < 0 then (ratlineref10_from.j0 k l0 a1 a2 y356 true) else (if a1 ≥ (l0.length : Int) then (ratlineref10_from.j0 k l0 a1 a2 y356 true) else (ratlineref10_from.j0 k l0 a1 a2 y356 (a1 == a2)))) = some r := by first | (rw [hy356]; with_reducible exact H) | (have H2_ := (Option.bind_some _ _).symm.trans H; rw [hy356]; with_reducible exact H2_) | (have H2_ := (Option.bind_some _ _).symm.trans H; with_reducible exact H2_) | with_reducible exact H | (rw [hy356]; exact H) | exact H
      have Ny356 := Aside0.mk hy356
      clear hy356
      have HC6 := Aside0.mk H
      clear H
      go_enter Try.func29, Try.ntmps29
      go_upto_region 2 with (first | ((with_reducible refine gate_dst (N := 14) rfl ?_); (try (refine gate_guard (by rfl) ?_; dsimp only)); refine Kd.R_make Kd.bool _ 4 rfl (N := 14) rfl 30 _ _ rfl (l0.length : Int) rfl rfl Try.underlying30 (.bool false) 1 info4 rfl (by decide) (by omega) false (ok := fun _ => True) (okp := fun _ => True) rfl (fun _ hk => hk) trivial (of_decide_eq_true (by first | (with_reducible assumption) | assumption)) (Nat.le_trans (Nat.mul_le_mul_right _ (of_decide_eq_true (by first | (with_reducible assumption) | assumption) : (l0.length : Int).toNat ≤ 281474976710656)) (by omega)) (Below.refl _ _) (Nat.le_refl _) ?_; intro v357 w7 ho8 hb hg_ hnew_; clear hg_ hnew_; (first | rw [← Ny356.out] at ho8 | (simp only [Int.reduceToNat] at ho8; rw [← Ny356.out] at ho8)); have n0_ := Aside0.mk (Kd.R_lower ho8 (below_size (by repeat (first | (with_reducible first | exact HB.out | apply below_alloc | apply pw_below_drewN | apply below_drew1) | exact HB.out)))); have n1_ := Aside0.mk (below_step (by repeat (first | (with_reducible first | exact HB.out | apply below_alloc | apply pw_below_drewN | apply below_drew1) | exact HB.out)) hb); clear HB; have HO358 := n0_; have HB := n1_; clear n0_ n1_; clear hb ho8))
      (try simp only [Act.put, List.setIfInBounds_toArray, List.set_cons_zero, List.set_cons_succ])
      go_cut [27] (fun v27 wc => ∃ (kq : Nat) (x27_5 : Bool), v27 = .bool x27_5 ∧ Aside0 (ratlineref10_from.j0 kq l0 a1 a2 y356 x27_5 = some r) ∧ Aside0 (kq ≤ k) ∧ Aside0 (Kd.R Kd.bool 4 wc w.heap.size (fun _ => True) v357 y356) ∧ Aside0 (Below w.heap.size w wc))
      case first =>
        have H := HC6.out
        clear HC6
        by_cases c9 : a1 < 0
        · rw [if_pos c9] at H
          have c9b0 : decide (a1 < 0) = true := decide_eq_true c9
          clear c9
          (first | rw [c9b0] | (simp only [i64_w, i32_w]; rw [c9b0]) | skip)
          have H' := Aside0.mk H
          clear H
          go_wp2
          go_meet
          case rel => exact ⟨_, (true), (by first | rfl | (simp; done) | (simp [*]; done)), H', ⟨by first | omega | exact Nat.le_refl _⟩, ⟨by (with_reducible repeat (first | apply Kd.R_alloc | apply Kd.R_drewN | apply Kd.R_drew)); exact HO358.out⟩, ⟨by repeat (first | (with_reducible first | exact HB.out | apply below_alloc | apply pw_below_drewN | apply below_drew1) | exact HB.out)⟩⟩
        · rw [if_neg c9] at H
          have c9b0 : decide (a1 < 0) = false := decide_eq_false c9
          clear c9
          (first | rw [c9b0] | (simp only [i64_w, i32_w]; rw [c9b0]) | skip)
          by_cases c10 : a1 ≥ (l0.length : Int)
          · rw [if_pos c10] at H
            have c10b0 : decide ((l0.length : Int) ≤ a1) = true := decide_eq_true c10
            clear c10
            have H' := Aside0.mk H
            clear H
            go_wp2
            go_meet
            case rel => exact ⟨_, (true), (by first | rfl | (simp; done) | (simp [*]; done)), H', ⟨by first | omega | exact Nat.le_refl _⟩, ⟨by (with_reducible repeat (first | apply Kd.R_alloc | apply Kd.R_drewN | apply Kd.R_drew)); exact HO358.out⟩, ⟨by repeat (first | (with_reducible first | exact HB.out | apply below_alloc | apply pw_below_drewN | apply below_drew1) | exact HB.out)⟩⟩
          · rw [if_neg c10] at H
            have c10b0 : decide ((l0.length : Int) ≤ a1) = false := decide_eq_false c10
            clear c10
            have H' := Aside0.mk H
            clear H
            go_wp2
            go_meet
            case rel => exact ⟨_, ((a1 == a2)), (by first | rfl | (simp; done) | (simp [*]; done)), H', ⟨by first | omega | exact Nat.le_refl _⟩, ⟨by (with_reducible repeat (first | apply Kd.R_alloc | apply Kd.R_drewN | apply Kd.R_drew)); exact HO358.out⟩, ⟨by repeat (first | (with_reducible first | exact HB.out | apply below_alloc | apply pw_below_drewN | apply below_drew1) | exact HB.out)⟩⟩
      case rest =>
        clear HC6
        try clear c1
        try clear c2
        try clear p2
        try clear c4
        try clear c4b0
        try clear c4b1
        try clear c5
        try clear c5b0
        try clear c5b1
        try clear c9
        try clear c9b0
        try clear c10
        try clear c10b0
        obtain ⟨kq, x27_5, rfl, HA, HJ5, HO_7, HB⟩ := hcut
        cases kq with
        | zero => exact absurd HA.out (by simp [ratlineref10_from.j0])
        | succ kj5 =>
          have H := HA.out
          clear HA
          simp only [ratlineref10_from.j0] at H
          by_cases c11 : x27_5 = true
          · subst c11
            have H1 : (some y356) = some r := by rw [if_pos rfl] at H; exact H
            clear H
            have H := H1
            clear H1
            obtain rfl := Option.some.inj H
            go_wp2
            go_ret
            exact ⟨_, by first | rfl | (simp [errW_none, errW_some] <;> rfl) | (simp [*, errW_none, errW_some] <;> rfl), by (with_reducible repeat (first | apply Kd.R_alloc | apply Kd.R_drewN | apply Kd.R_drew)); exact HO_7.out, by repeat (first | (with_reducible first | exact HB.out | apply below_alloc | apply pw_below_drewN | apply below_drew1) | exact HB.out)⟩
          · replace c11 := Bool.eq_false_iff.mpr c11
            subst c11
            have H1 : (if 0 ≤ a1 then (if a1 < (y356.length : Int) then (ratlineref10_from.l0 kj5 l0 a2 (y356.set (a1 : Int).toNat true) (([a1] : List Int))) else (none)) else (none)) = some r := by rw [if_neg (show ¬ (false = true) by decide)] at H; exact H
            clear H
            have H := H1
            clear H1
            by_cases c12 : 0 ≤ a1
            · rw [if_pos c12] at H
              have c12b0 : decide (0 ≤ a1) = true := decide_eq_true c12
              clear c12
              by_cases c13 : a1 < (y356.length : Int)
              · rw [if_pos c13] at H
                have c13b0 : decide (a1 < (y356.length : Int)) = true := decide_eq_true c13
                clear c13
                obtain ⟨y359, hy359⟩ : ∃ y_ : List Bool, y_ = (y356.set (a1 : Int).toNat true) := ⟨_, rfl⟩
                replace H : (ratlineref10_from.l0 kj5 l0 a2 y359 (([a1] : List Int))) = some r := by first | (rw [hy359]; with_reducible exact H) | (have H2_ := (Option.bind_some _ _).symm.trans H; rw [hy359]; with_reducible exact H2_) | (have H2_ := (Option.bind_some _ _).symm.trans H; with_reducible exact H2_) | with_reducible exact H | (rw [hy359]; exact H) | exact H
                have Ny359 := Aside0.mk hy359
                clear hy359
                obtain ⟨y360, hy360⟩ : ∃ y_ : List Int, y_ = (([a1] : List Int)) := ⟨_, rfl⟩
                replace H : (ratlineref10_from.l0 kj5 l0 a2 y359 y360) = some r := by first | (rw [hy360]; with_reducible exact H) | (have H2_ := (Option.bind_some _ _).symm.trans H; rw [hy360]; with_reducible exact H2_) | (have H2_ := (Option.bind_some _ _).symm.trans H; with_reducible exact H2_) | with_reducible exact H | (rw [hy360]; exact H) | exact H
                have Ny360 := Aside0.mk hy360
                clear hy360
                have H' := Aside0.mk H
                clear H
                have p14 : 0 ≤ (a1 : Int) := of_decide_eq_true (by first | (with_reducible assumption) | assumption)
                have q14 : (a1 : Int) < ((y356.length : Int) : Int) := of_decide_eq_true (by first | (with_reducible assumption) | assumption)
                obtain ⟨go14, co14, eo14, gb14, gl14, cl14, HG14⟩ := Kd.R_form HO_7.out (by omega)
                (first | cases eo14 | (injection eo14 with ea_ en_ ec_; (first | subst ea_ | (injection ea_ with ea_; subst ea_)); subst ec_; clear en_))
                have GB14 := Aside0.mk gb14
                have GG14 := Aside0.mk HG14
                clear gb14 gl14 HG14
                obtain ⟨hx14_0, hf14_0⟩ := Kd.R_celln false HO_7.out (a1 : Int) p14 q14
                replace p14 := eq_true p14
                replace q14 := eq_true q14
                have HP15 := Kd.R_putg HO_7.out (a1 : Int) true
                go_wp2_with (first | ((with_reducible refine gate_store (t := 4) (p := 31) rfl ?_); refine store_event (t := 4) (p := 31) (v := ?vo_w16) (w1 := (wc.setCell ⟨go14, (a1 : Int).toNat, none⟩ (.bool true))) ?hg ?ho ?hn ?hr ?_; (case ho => rfl); (case hg => rfl); (case hn => rfl); (case hr => first | (go_simp; done) | (go_simp; rfl)); intro w16 hw; have hg : wc.grownBy w16 (some go14) := (by rw [hw]; exact HP15.2); have hp_ : Kd.R Kd.bool 4 w16 w.heap.size (fun _ => True) (.slice (some ⟨go14, 0, none⟩) y356.length co14) y359 := (by rw [hw, Ny359.out]; exact HP15.1); clear HP15; have n0_ := Aside0.mk (hp_); have n1_ := Aside0.mk ((by rw [hw]; exact below_set (HB.out) GB14.out : Below w.heap.size w w16)); clear HO_7; clear HB; have HO_7 := n0_; have HB := n1_; clear n0_ n1_; clear hg hw hp_) | ((with_reducible refine gate_dst (N := 33) rfl ?_); (try (refine gate_guard (by rfl) ?_; dsimp only)); refine Kd.R_lit (Kd.int .i64) _ 3 ?hg (N := 33) ?hd (xs := ([a1] : List Int)) (inner := [.int .i64 a1]) (ok := fun _ => True) (okp := fun _ => True) ?hr ?hp (fun _ hk => hk) trivial (Below.refl _ _) (Nat.le_refl _) (by simp) ?_; (case hd => rfl); (case hg => rfl); (case hr => first | (go_simp; done) | (go_simp; rfl)); (case hp => exact (Reps.one (show Kd.M (Kd.int .i64) _ _ _ a1 [.int .i64 a1] from rfl) (Reps.none _ _))); intro v361 w17 ho18 hb hg_ hnew_; clear hg_ hnew_; (first | rw [← Ny360.out] at ho18 | (simp only [Int.reduceToNat] at ho18; rw [← Ny360.out] at ho18)); have n0_ := Aside0.mk (Kd.R_below (by (with_reducible repeat (first | apply Kd.R_alloc | apply Kd.R_drewN | apply Kd.R_drew)); exact HO_7.out) hb); have n1_ := Aside0.mk (Kd.R_lower ho18 (below_size (by repeat (first | (with_reducible first | exact HB.out | apply below_alloc | apply pw_below_drewN | apply below_drew1) | exact HB.out)))); have n2_ := Aside0.mk (below_step (by repeat (first | (with_reducible first | exact HB.out | apply below_alloc | apply pw_below_drewN | apply below_drew1) | exact HB.out)) hb); clear HO_7; clear HB; have HO_7 := n0_; have HO362 := n1_; have HB := n2_; clear n0_ n1_ n2_; clear hb ho18))
                go_loopg [8] kj5 (fun kq v8 w' => ∃ (x7_2 : List Bool) (x8_2 : List Int), Aside0 (ratlineref10_from.l0 kq l0 a2 x7_2 x8_2 = some r) ∧ Aside0 (kq ≤ kj5) ∧ Aside0 (Kd.R Kd.bool 4 w' w.heap.size (fun _ => True) (.slice (some ⟨go14, 0, none⟩) y356.length co14) x7_2) ∧ Aside0 (Kd.R (Kd.int .i64) 3 w' w.heap.size (fun _ => True) v8 x8_2) ∧ Aside0 (Below w.heap.size w w'))
                case atStart => exact ⟨(y359), (y360), H', ⟨Nat.le_refl _⟩, ⟨by (with_reducible repeat (first | apply Kd.R_alloc | apply Kd.R_drewN | apply Kd.R_drew)); exact HO_7.out⟩, ⟨by (with_reducible repeat (first | apply Kd.R_alloc | apply Kd.R_drewN | apply Kd.R_drew)); exact HO362.out⟩, ⟨by repeat (first | (with_reducible first | exact HB.out | apply below_alloc | apply pw_below_drewN | apply below_drew1) | exact HB.out)⟩⟩
                case round =>
                  clear H'
                  try clear c1
                  try clear p1
                  try clear q1
                  try clear hx1
                  try clear c2
                  try clear p2
                  try clear c4
                  try clear c4b0
                  try clear c4b1
                  try clear c5
                  try clear c5b0
                  try clear c5b1
                  try clear c9
                  try clear c9b0
                  try clear c10
                  try clear c10b0
                  try clear c11
                  try clear c12
                  try clear c12b0
                  try clear c13
                  try clear c13b0
                  try clear p14
                  try clear q14
                  try clear hx14
                  try clear hf14
                  try clear hx14_0
                  try clear p14
                  try clear p2
                  try clear q14
                  obtain ⟨x7_2, x8_2, HA, HK2, HO_7, HO_8, HB⟩ := hrel
                  have hl7_2 := (Kd.R_reads' HO_7.out).1
                  rw [hl7_2] at HO_7
                  (try simp only [hl7_2])
                  (try simp only [hl7_2] at HO_8)
                  cases gk with
                  | zero => exact absurd HA.out (by simp [ratlineref10_from.l0])
                  | succ k2 =>
                    have H := HA.out
                    clear HA
                    simp only [ratlineref10_from.l0] at H
                    by_cases c19 : (x8_2.length : Int) > 0
                    · rw [if_pos c19] at H
                      have c19b0 : decide (0 < (x8_2.length : Int)) = true := decide_eq_true c19
                      have c19b1 : decide (0 < x8_2.length) = true := decide_eq_true (by omega)
                      clear c19
                      obtain ⟨ji20, hji20⟩ : ∃ j_ : Int, (wrap64 ((x8_2.length : Int) - 1)) = j_ := ⟨_, rfl⟩
                      replace H : (if 0 ≤ (ji20) then (if (ji20) < (x8_2.length : Int) then (if (ji20) ≤ (x8_2.length : Int) then (ratlineref10_from.l1 k2 l0 a2 x7_2 (x8_2.take ((ji20) : Int).toNat) (rd x8_2 (ji20)) 0) else (none)) else (none)) else (none)) = some r := by first | (rw [hji20] at H; exact H) | (simp only [hji20] at H ⊢; exact H)
                      have hji20w : (IntKind.i64.wrap ((x8_2.length : Int) - 1)) = ji20 := (i64_w _).trans hji20
                      by_cases c21 : 0 ≤ (ji20)
                      · rw [if_pos c21] at H
                        have c21b0 : decide (0 ≤ (ji20)) = true := decide_eq_true c21
                        clear c21
                        by_cases c22 : (ji20) < (x8_2.length : Int)
                        · rw [if_pos c22] at H
                          have c22b0 : decide ((ji20) < (x8_2.length : Int)) = true := decide_eq_true c22
                          clear c22
                          by_cases c23 : (ji20) ≤ (x8_2.length : Int)
                          · rw [if_pos c23] at H
                            have c23b0 := eq_true c23
                            have c23b1 : decide ((ji20) ≤ (x8_2.length : Int)) = true := decide_eq_true c23
                            clear c23
                            obtain ⟨y364, hy364⟩ : ∃ y_ : List Int, y_ = (x8_2.take ((ji20) : Int).toNat) := ⟨_, rfl⟩
                            replace H : (ratlineref10_from.l1 k2 l0 a2 x7_2 y364 (rd x8_2 (ji20)) 0) = some r := by first | (rw [hy364]; with_reducible exact H) | (have H2_ := (Option.bind_some _ _).symm.trans H; rw [hy364]; with_reducible exact H2_) | (have H2_ := (Option.bind_some _ _).symm.trans H; with_reducible exact H2_) | with_reducible exact H | (rw [hy364]; exact H) | exact H
                            have Ny364 := Aside0.mk hy364
                            clear hy364
                            have H' := Aside0.mk H
                            clear H
                            obtain ⟨Ao24, co24, eo24⟩ := Kd.R_slice HO_8.out
                            subst eo24
                            have p363 : 0 ≤ ((ji20) : Int) := of_decide_eq_true (by first | (with_reducible assumption) | assumption)
                            have q363 : (ji20) < (x8_2.length : Int) := of_decide_eq_true (by first | (with_reducible assumption) | assumption)
                            obtain ⟨ad363, e363, hx363_0⟩ := Kd.at_int (Kd.R_reads' HO_8.out).2.2 (ji20) p363 q363
                            cases e363
                            replace p363 := eq_true p363
                            replace q363 := eq_true q363
                            have q25 : ((ji20) : Int) ≤ ((x8_2.length : Int) : Int) := of_decide_eq_true (by first | (with_reducible assumption) | assumption)
                            obtain ⟨i025, hi025, _, hsz25, _⟩ := info_parts info3
                            have hcut25 := cut_to (P := Try.prog) 25 3 .i64 Try.underlying25 hi025 (some ad363) x8_2.length co24 (ji20) (of_decide_eq_true (by first | (with_reducible assumption) | assumption)) q25 (Kd.R_reads' HO_8.out).2.1
                            have hr25 := Kd.R_take (m := ((ji20) : Int).toNat) HO_8.out (by omega)
                            have hy25 : y364.length = ((ji20) : Int).toNat := (by rw [Ny364.out, List.length_take]; omega)
                            rw [← Ny364.out] at hr25
                            rw [← hy25] at hr25 hcut25
                            clear hy25 hi025 hsz25 HO_8
                            have HO366 := Aside0.mk hr25
                            clear hr25
                            replace q25 := eq_true q25
                            go_wp2
                            go_loopg [8, 10] k2 (fun kq v8 v10 w' => ∃ (x7_3 : List Bool) (x8_3 : List Int) (x10_3 : Int), v10 = .int .i64 x10_3 ∧ Aside0 (ratlineref10_from.l1 kq l0 a2 x7_3 x8_3 (rd x8_2 (ji20)) x10_3 = some r) ∧ Aside0 (kq ≤ k2) ∧ Aside0 (Kd.R Kd.bool 4 w' w.heap.size (fun _ => True) (.slice (some ⟨go14, 0, none⟩) x7_2.length co14) x7_3) ∧ Aside0 (Kd.R (Kd.int .i64) 3 w' w.heap.size (fun _ => True) v8 x8_3) ∧ Aside0 (Below w.heap.size w w'))
                            case atStart => exact ⟨(x7_2), (y364), (0), (by first | rfl | (simp; done) | (simp [*]; done)), H', ⟨Nat.le_refl _⟩, ⟨by (try simp only [hl7_2]); (with_reducible repeat (first | apply Kd.R_alloc | apply Kd.R_drewN | apply Kd.R_drew)); exact HO_7.out⟩, ⟨by (try simp only [hl7_2]); (with_reducible repeat (first | apply Kd.R_alloc | apply Kd.R_drewN | apply Kd.R_drew)); exact HO366.out⟩, ⟨by repeat (first | (with_reducible first | exact HB.out | apply below_alloc | apply pw_below_drewN | apply below_drew1) | exact HB.out)⟩⟩
                            case round =>
                              clear H'
                              try clear c1
                              try clear p1
                              try clear q1
                              try clear hx1
                              try clear c2
                              try clear p2
                              try clear q2
                              try clear p3
                              try clear q3
                              try clear hx3
                              try clear c4
                              try clear c4b0
                              try clear c4b1
                              try clear c5
                              try clear c5b0
                              try clear c5b1
                              try clear p6
                              try clear c9
                              try clear c9b0
                              try clear c10
                              try clear c10b0
                              try clear c11
                              try clear c12
                              try clear c12b0
                              try clear c13
                              try clear c13b0
                              try clear p14
                              try clear q14
                              try clear hx14
                              try clear hf14
                              try clear c19
                              try clear c19b0
                              try clear c19b1
                              try clear c21
                              try clear c21b0
                              try clear c22
                              try clear c22b0
                              try clear c23
                              try clear c23b0
                              try clear c23b1
                              try clear q25
                              try clear hx14_0
                              try clear hx363_0
                              try clear p1
                              try clear p14
                              try clear p2
                              try clear p363
                              try clear q1
                              try clear q14
                              try clear q25
                              try clear q363
                              obtain ⟨x7_3, x8_3, x10_3, rfl, HA, HK3, HO_7, HO_8, HB⟩ := hrel
                              have hl7_3 := (Kd.R_reads' HO_7.out).1
                              rw [hl7_3] at HO_7
                              (try simp only [hl7_3])
                              (try simp only [hl7_3] at HO_8)
                              cases gk with
                              | zero => exact absurd HA.out (by simp [ratlineref10_from.l1])
                              | succ k3 =>
                                have H := HA.out
                                clear HA
                                simp only [ratlineref10_from.l1] at H
                                by_cases c26 : 0 ≤ (rd x8_2 (ji20))
                                · rw [if_pos c26] at H
                                  have c26b0 : decide (0 ≤ (rd x8_2 (ji20))) = true := decide_eq_true c26
                                  clear c26
                                  by_cases c27 : (rd x8_2 (ji20)) < (l0.length : Int)
                                  · rw [if_pos c27] at H
                                    have c27b0 : decide ((rd x8_2 (ji20)) < (l0.length : Int)) = true := decide_eq_true c27
                                    clear c27
                                    by_cases c28 : x10_3 < ((rd_L1 l0 (rd x8_2 (ji20))).length : Int)
                                    · rw [if_pos c28] at H
                                      have c28b0 : decide (x10_3 < ((rd_L1 l0 (rd x8_2 (ji20))).length : Int)) = true := decide_eq_true c28
                                      clear c28
                                      by_cases c29 : 0 ≤ x10_3
                                      · rw [if_pos c29] at H
                                        have c29b0 : decide (0 ≤ x10_3) = true := decide_eq_true c29
                                        clear c29
                                        by_cases c30 : (rd (rd_L1 l0 (rd x8_2 (ji20))) x10_3) = a2
                                        · rw [if_pos c30] at H
                                          have c30b0 : ((rd (rd_L1 l0 (rd x8_2 (ji20))) x10_3) == a2) = true := beq_iff_eq.mpr c30
                                          have c30b1 : ((rd (rd_L1 l0 (rd x8_2 (ji20))) x10_3) != a2) = false := bne_eq_false_iff_eq.mpr c30
                                          clear c30
                                          have H' := Aside0.mk H
                                          clear H
                                          have p367 : 0 ≤ ((rd x8_2 (ji20)) : Int) := of_decide_eq_true (by first | (with_reducible assumption) | assumption)
                                          have q367 : (rd x8_2 (ji20)) < (l0.length : Int) := of_decide_eq_true (by first | (with_reducible assumption) | assumption)
                                          obtain ⟨ad367, A367_0, c367_0, e367, hx367_0, hl367_0, hi367_0⟩ := at_L1 HR0.out (rd x8_2 (ji20)) p367 q367
                                          cases e367
                                          replace hx367_0 := (HB.out.cell (World.block_lt_of_cell? w _ hx367_0)).trans hx367_0
                                          have HR367_0 := Aside0.mk hi367_0
                                          have HC367_0 := Aside0.mk hl367_0
                                          clear hi367_0 hl367_0
                                          replace p367 := eq_true p367
                                          replace q367 := eq_true q367
                                          have p368 : 0 ≤ ((rd x8_2 (ji20)) : Int) := of_decide_eq_true (by first | (with_reducible assumption) | assumption)
                                          have q368 : (rd x8_2 (ji20)) < (l0.length : Int) := of_decide_eq_true (by first | (with_reducible assumption) | assumption)
                                          obtain ⟨ad368, A368_0, c368_0, e368, hx368_0, hl368_0, hi368_0⟩ := at_L1 HR0.out (rd x8_2 (ji20)) p368 q368
                                          obtain rfl : ad367 = ad368 := (by injection e368)
                                          replace hx368_0 := (HB.out.cell (World.block_lt_of_cell? w _ hx368_0)).trans hx368_0
                                          have HR368_0 := Aside0.mk hi368_0
                                          have HC368_0 := Aside0.mk hl368_0
                                          clear hi368_0 hl368_0
                                          replace p368 := eq_true p368
                                          replace q368 := eq_true q368
                                          have ea_ := Option.some.inj (hx367_0.symm.trans hx368_0)
                                          injection ea_ with ea_ en_ ec_
                                          subst ea_
                                          subst ec_
                                          clear en_
                                          have p369 : 0 ≤ (x10_3 : Int) := of_decide_eq_true (by first | (with_reducible assumption) | assumption)
                                          have q369 : x10_3 < ((rd_L1 l0 (rd x8_2 (ji20))).length : Int) := of_decide_eq_true (by first | (with_reducible assumption) | assumption)
                                          obtain ⟨ad369, e369, hx369_0⟩ := Kd.at_int HR368_0.out x10_3 p369 q369
                                          cases e369
                                          replace hx369_0 := (HB.out.cell (World.block_lt_of_cell? w _ hx369_0)).trans hx369_0
                                          replace p369 := eq_true p369
                                          replace q369 := eq_true q369
                                          go_wp2
                                          (try simp only [← hl7_3])
                                          go_roundg k3
                                          case measure => have := HJ5.out; have := HK2.out; have := HK3.out; omega
                                          case rel => exact ⟨(x7_3), (x8_3), (wrap64 (x10_3 + 1)), (by first | rfl | (simp; done) | (simp [*]; done)), H', ⟨by have := HJ5.out; have := HK2.out; have := HK3.out; omega⟩, ⟨by (try simp only [hl7_2]); (try simp only [hl7_3]); (with_reducible repeat (first | apply Kd.R_alloc | apply Kd.R_drewN | apply Kd.R_drew)); exact HO_7.out⟩, ⟨by (try simp only [hl7_2]); (try simp only [hl7_3]); (with_reducible repeat (first | apply Kd.R_alloc | apply Kd.R_drewN | apply Kd.R_drew)); exact HO_8.out⟩, ⟨by repeat (first | (with_reducible first | exact HB.out | apply below_alloc | apply pw_below_drewN | apply below_drew1) | exact HB.out)⟩⟩
                                        · rw [if_neg c30] at H
                                          have c30b0 : ((rd (rd_L1 l0 (rd x8_2 (ji20))) x10_3) == a2) = false := beq_eq_false_iff_ne.mpr c30
                                          have c30b1 : ((rd (rd_L1 l0 (rd x8_2 (ji20))) x10_3) != a2) = true := bne_iff_ne.mpr c30
                                          by_cases c31 : 0 ≤ (rd (rd_L1 l0 (rd x8_2 (ji20))) x10_3)
                                          · rw [if_pos c31] at H
                                            have c31b0 : decide (0 ≤ (rd (rd_L1 l0 (rd x8_2 (ji20))) x10_3)) = true := decide_eq_true c31
                                            clear c31
                                            by_cases c32 : (rd (rd_L1 l0 (rd x8_2 (ji20))) x10_3) < (x7_3.length : Int)
                                            · rw [if_pos c32] at H
                                              have c32b0 : decide ((rd (rd_L1 l0 (rd x8_2 (ji20))) x10_3) < (x7_3.length : Int)) = true := decide_eq_true c32
                                              clear c32
                                              obtain ⟨bq33, hbq33⟩ : ∃ b_ : Bool, b_ = (rdOf false x7_3 (rd (rd_L1 l0 (rd x8_2 (ji20))) x10_3)) := ⟨_, rfl⟩
                                              replace H : (if (bq33 = true) then (ratlineref10_from.l1 k3 l0 a2 x7_3 x8_3 (rd x8_2 (ji20)) (wrap64 (x10_3 + 1))) else (if x8_3.length < 17592186044416 then (ratlineref10_from.l1 k3 l0 a2 (x7_3.set ((rd (rd_L1 l0 (rd x8_2 (ji20))) x10_3) : Int).toNat true) (x8_3 ++ [rd (rd_L1 l0 (rd x8_2 (ji20))) x10_3]) (rd x8_2 (ji20)) (wrap64 (x10_3 + 1))) else (none))) = some r := by rw [← hbq33] at H; exact H
                                              have Nbq33 := Aside0.mk hbq33
                                              clear hbq33
                                              by_cases c34 : (bq33 = true)
                                              · subst c34
                                                have H1 : (ratlineref10_from.l1 k3 l0 a2 x7_3 x8_3 (rd x8_2 (ji20)) (wrap64 (x10_3 + 1))) = some r := by rw [if_pos rfl] at H; exact H
                                                clear H
                                                have H := H1
                                                clear H1
                                                have H' := Aside0.mk H
                                                clear H
                                                have p367 : 0 ≤ ((rd x8_2 (ji20)) : Int) := of_decide_eq_true (by first | (with_reducible assumption) | assumption)
                                                have q367 : (rd x8_2 (ji20)) < (l0.length : Int) := of_decide_eq_true (by first | (with_reducible assumption) | assumption)
                                                obtain ⟨ad367, A367_0, c367_0, e367, hx367_0, hl367_0, hi367_0⟩ := at_L1 HR0.out (rd x8_2 (ji20)) p367 q367
                                                cases e367
                                                replace hx367_0 := (HB.out.cell (World.block_lt_of_cell? w _ hx367_0)).trans hx367_0
                                                have HR367_0 := Aside0.mk hi367_0
                                                have HC367_0 := Aside0.mk hl367_0
                                                clear hi367_0 hl367_0
                                                replace p367 := eq_true p367
                                                replace q367 := eq_true q367
                                                have p368 : 0 ≤ ((rd x8_2 (ji20)) : Int) := of_decide_eq_true (by first | (with_reducible assumption) | assumption)
                                                have q368 : (rd x8_2 (ji20)) < (l0.length : Int) := of_decide_eq_true (by first | (with_reducible assumption) | assumption)
                                                obtain ⟨ad368, A368_0, c368_0, e368, hx368_0, hl368_0, hi368_0⟩ := at_L1 HR0.out (rd x8_2 (ji20)) p368 q368
                                                obtain rfl : ad367 = ad368 := (by injection e368)
                                                replace hx368_0 := (HB.out.cell (World.block_lt_of_cell? w _ hx368_0)).trans hx368_0
                                                have HR368_0 := Aside0.mk hi368_0
                                                have HC368_0 := Aside0.mk hl368_0
                                                clear hi368_0 hl368_0
                                                replace p368 := eq_true p368
                                                replace q368 := eq_true q368
                                                have ea_ := Option.some.inj (hx367_0.symm.trans hx368_0)
                                                injection ea_ with ea_ en_ ec_
                                                subst ea_
                                                subst ec_
                                                clear en_
                                                have p369 : 0 ≤ (x10_3 : Int) := of_decide_eq_true (by first | (with_reducible assumption) | assumption)
                                                have q369 : x10_3 < ((rd_L1 l0 (rd x8_2 (ji20))).length : Int) := of_decide_eq_true (by first | (with_reducible assumption) | assumption)
                                                obtain ⟨ad369, e369, hx369_0⟩ := Kd.at_int HR368_0.out x10_3 p369 q369
                                                cases e369
                                                replace hx369_0 := (HB.out.cell (World.block_lt_of_cell? w _ hx369_0)).trans hx369_0
                                                replace p369 := eq_true p369
                                                replace q369 := eq_true q369
                                                have p370 : 0 ≤ ((rd (rd_L1 l0 (rd x8_2 (ji20))) x10_3) : Int) := of_decide_eq_true (by first | (with_reducible assumption) | assumption)
                                                have q370 : (rd (rd_L1 l0 (rd x8_2 (ji20))) x10_3) < (x7_3.length : Int) := of_decide_eq_true (by first | (with_reducible assumption) | assumption)
                                                obtain ⟨ad370, e370, hx370_0⟩ := Kd.at_bool (Kd.R_reads' HO_7.out).2.2 (rd (rd_L1 l0 (rd x8_2 (ji20))) x10_3) p370 q370
                                                (try rw [← Nbq33.out] at hx370_0)
                                                obtain rfl : (⟨go14, 0, none⟩ : Addr) = ad370 := (by injection e370)
                                                (first | simp only [add_plain] at hx370_0 | simp only [add_at] at hx370_0 | simp only [Addr.add, Nat.zero_add] at hx370_0 | skip)
                                                replace p370 := eq_true p370
                                                replace q370 := eq_true q370
                                                go_wp2
                                                (try simp only [← hl7_3])
                                                go_roundg k3
                                                case measure => have := HJ5.out; have := HK2.out; have := HK3.out; omega
                                                case rel => exact ⟨(x7_3), (x8_3), (wrap64 (x10_3 + 1)), (by first | rfl | (simp; done) | (simp [*]; done)), H', ⟨by have := HJ5.out; have := HK2.out; have := HK3.out; omega⟩, ⟨by (try simp only [hl7_2]); (try simp only [hl7_3]); (with_reducible repeat (first | apply Kd.R_alloc | apply Kd.R_drewN | apply Kd.R_drew)); exact HO_7.out⟩, ⟨by (try simp only [hl7_2]); (try simp only [hl7_3]); (with_reducible repeat (first | apply Kd.R_alloc | apply Kd.R_drewN | apply Kd.R_drew)); exact HO_8.out⟩, ⟨by repeat (first | (with_reducible first | exact HB.out | apply below_alloc | apply pw_below_drewN | apply below_drew1) | exact HB.out)⟩⟩
                                              · replace c34 := Bool.eq_false_iff.mpr c34
                                                subst c34
                                                have H1 : (if x8_3.length < 17592186044416 then (ratlineref10_from.l1 k3 l0 a2 (x7_3.set ((rd (rd_L1 l0 (rd x8_2 (ji20))) x10_3) : Int).toNat true) (x8_3 ++ [rd (rd_L1 l0 (rd x8_2 (ji20))) x10_3]) (rd x8_2 (ji20)) (wrap64 (x10_3 + 1))) else (none)) = some r := by rw [if_neg (show ¬ (false = true) by decide)] at H; exact H
                                                clear H
                                                have H := H1
                                                clear H1
                                                obtain ⟨y371, hy371⟩ : ∃ y_ : List Bool, y_ = (x7_3.set ((rd (rd_L1 l0 (rd x8_2 (ji20))) x10_3) : Int).toNat true) := ⟨_, rfl⟩
                                                replace H : (if x8_3.length < 17592186044416 then (ratlineref10_from.l1 k3 l0 a2 y371 (x8_3 ++ [rd (rd_L1 l0 (rd x8_2 (ji20))) x10_3]) (rd x8_2 (ji20)) (wrap64 (x10_3 + 1))) else (none)) = some r := by first | (rw [hy371]; with_reducible exact H) | (have H2_ := (Option.bind_some _ _).symm.trans H; rw [hy371]; with_reducible exact H2_) | (have H2_ := (Option.bind_some _ _).symm.trans H; with_reducible exact H2_) | with_reducible exact H | (rw [hy371]; exact H) | exact H
                                                have Ny371 := Aside0.mk hy371
                                                clear hy371
                                                by_cases c36 : x8_3.length < 17592186044416
                                                · rw [if_pos c36] at H
                                                  have LMc36 := Aside0.mk c36
                                                  clear c36
                                                  obtain ⟨y372, hy372⟩ : ∃ y_ : List Int, y_ = (x8_3 ++ [rd (rd_L1 l0 (rd x8_2 (ji20))) x10_3]) := ⟨_, rfl⟩
                                                  replace H : (ratlineref10_from.l1 k3 l0 a2 y371 y372 (rd x8_2 (ji20)) (wrap64 (x10_3 + 1))) = some r := by first | (rw [hy372]; with_reducible exact H) | (have H2_ := (Option.bind_some _ _).symm.trans H; rw [hy372]; with_reducible exact H2_) | (have H2_ := (Option.bind_some _ _).symm.trans H; with_reducible exact H2_) | with_reducible exact H | (rw [hy372]; exact H) | exact H
                                                  have Ny372 := Aside0.mk hy372
                                                  clear hy372
                                                  have H' := Aside0.mk H
                                                  clear H
                                                  have p367 : 0 ≤ ((rd x8_2 (ji20)) : Int) := of_decide_eq_true (by first | (with_reducible assumption) | assumption)
                                                  have q367 : (rd x8_2 (ji20)) < (l0.length : Int) := of_decide_eq_true (by first | (with_reducible assumption) | assumption)
                                                  obtain ⟨ad367, A367_0, c367_0, e367, hx367_0, hl367_0, hi367_0⟩ := at_L1 HR0.out (rd x8_2 (ji20)) p367 q367
                                                  cases e367
                                                  replace hx367_0 := (HB.out.cell (World.block_lt_of_cell? w _ hx367_0)).trans hx367_0
                                                  have HR367_0 := Aside0.mk hi367_0
                                                  have HC367_0 := Aside0.mk hl367_0
                                                  clear hi367_0 hl367_0
                                                  replace p367 := eq_true p367
                                                  replace q367 := eq_true q367
                                                  have p368 : 0 ≤ ((rd x8_2 (ji20)) : Int) := of_decide_eq_true (by first | (with_reducible assumption) | assumption)
                                                  have q368 : (rd x8_2 (ji20)) < (l0.length : Int) := of_decide_eq_true (by first | (with_reducible assumption) | assumption)
                                                  obtain ⟨ad368, A368_0, c368_0, e368, hx368_0, hl368_0, hi368_0⟩ := at_L1 HR0.out (rd x8_2 (ji20)) p368 q368
                                                  obtain rfl : ad367 = ad368 := (by injection e368)
                                                  replace hx368_0 := (HB.out.cell (World.block_lt_of_cell? w _ hx368_0)).trans hx368_0
                                                  have HR368_0 := Aside0.mk hi368_0
                                                  have HC368_0 := Aside0.mk hl368_0
                                                  clear hi368_0 hl368_0
                                                  replace p368 := eq_true p368
                                                  replace q368 := eq_true q368
                                                  have ea_ := Option.some.inj (hx367_0.symm.trans hx368_0)
                                                  injection ea_ with ea_ en_ ec_
                                                  subst ea_
                                                  subst ec_
                                                  clear en_
                                                  have p369 : 0 ≤ (x10_3 : Int) := of_decide_eq_true (by first | (with_reducible assumption) | assumption)
                                                  have q369 : x10_3 < ((rd_L1 l0 (rd x8_2 (ji20))).length : Int) := of_decide_eq_true (by first | (with_reducible assumption) | assumption)
                                                  obtain ⟨ad369, e369, hx369_0⟩ := Kd.at_int HR368_0.out x10_3 p369 q369
                                                  cases e369
                                                  replace hx369_0 := (HB.out.cell (World.block_lt_of_cell? w _ hx369_0)).trans hx369_0
                                                  replace p369 := eq_true p369
                                                  replace q369 := eq_true q369
                                                  have p370 : 0 ≤ ((rd (rd_L1 l0 (rd x8_2 (ji20))) x10_3) : Int) := of_decide_eq_true (by first | (with_reducible assumption) | assumption)
                                                  have q370 : (rd (rd_L1 l0 (rd x8_2 (ji20))) x10_3) < (x7_3.length : Int) := of_decide_eq_true (by first | (with_reducible assumption) | assumption)
                                                  obtain ⟨ad370, e370, hx370_0⟩ := Kd.at_bool (Kd.R_reads' HO_7.out).2.2 (rd (rd_L1 l0 (rd x8_2 (ji20))) x10_3) p370 q370
                                                  (try rw [← Nbq33.out] at hx370_0)
                                                  obtain rfl : (⟨go14, 0, none⟩ : Addr) = ad370 := (by injection e370)
                                                  (first | simp only [add_plain] at hx370_0 | simp only [add_at] at hx370_0 | simp only [Addr.add, Nat.zero_add] at hx370_0 | skip)
                                                  replace p370 := eq_true p370
                                                  replace q370 := eq_true q370
                                                  have p35 : 0 ≤ ((rd (rd_L1 l0 (rd x8_2 (ji20))) x10_3) : Int) := of_decide_eq_true (by first | (with_reducible assumption) | assumption)
                                                  have q35 : ((rd (rd_L1 l0 (rd x8_2 (ji20))) x10_3) : Int) < ((x7_3.length : Int) : Int) := of_decide_eq_true (by first | (with_reducible assumption) | assumption)
                                                  obtain ⟨hx35_0, hf35_0⟩ := Kd.R_celln false HO_7.out ((rd (rd_L1 l0 (rd x8_2 (ji20))) x10_3) : Int) p35 q35
                                                  replace p35 := eq_true p35
                                                  replace q35 := eq_true q35
                                                  have HP37 := Kd.R_putg HO_7.out ((rd (rd_L1 l0 (rd x8_2 (ji20))) x10_3) : Int) true
                                                  go_wp2_with (first | ((with_reducible refine gate_store (t := 4) (p := 76) rfl ?_); refine store_event (t := 4) (p := 76) (v := ?vo_w38) (w1 := (wr.setCell ⟨go14, ((rd (rd_L1 l0 (rd x8_2 (ji20))) x10_3) : Int).toNat, none⟩ (.bool true))) ?hg ?ho ?hn ?hr ?_; (case ho => rfl); (case hg => rfl); (case hn => rfl); (case hr => first | (go_simp; done) | (go_simp; rfl)); intro w38 hw; have hg : wr.grownBy w38 (some go14) := (by rw [hw]; exact HP37.2); have hp_ : Kd.R Kd.bool 4 w38 w.heap.size (fun _ => True) (.slice (some ⟨go14, 0, none⟩) x7_3.length co14) y371 := (by rw [hw, Ny371.out]; exact HP37.1); clear HP37; have n0_ := Aside0.mk (hp_); have n1_ := Aside0.mk (Kd.R_over' (v := (.slice (some ⟨go14, 0, none⟩) x7_3.length co14)) (by (with_reducible repeat (first | apply Kd.R_alloc | apply Kd.R_drewN | apply Kd.R_drew)); exact HO_8.out) (Kd.R_typed HO_7.out) (by decide) hg); have n2_ := Aside0.mk ((by rw [hw]; exact below_set (HB.out) GB14.out : Below w.heap.size w w38)); clear HO_7; clear HO_8; clear HB; have HO_7 := n0_; have HO_8 := n1_; have HB := n2_; clear n0_ n1_ n2_; clear hg hw hp_) | ((with_reducible refine gate_builtin (b := .append) (xs := #[.tmp 77, .tmp 79]) rfl ?_); (try (refine gate_guard (by rfl) ?_; dsimp only)); at_builtin; refine Kd.R_append (Kd.int .i64) (w0 := w) w.heap.size rfl (.tmp 77) (.tmp 79) 25 3 (.int .i64 0) 8 rfl Try.underlying25 info3 rfl (by decide) (by omega) u8 x8_3 (rd (rd_L1 l0 (rd x8_2 (ji20))) x10_3) [.int .i64 (rd (rd_L1 l0 (rd x8_2 (ji20))) x10_3)] (fun _ => True) (fun _ => False) rfl rfl ?aP (fun _ hk => hk.elim) ?aF ?aO ?aB ?aS ?aL ?_; (case aP => exact rfl); (case aB => exact (by repeat (first | (with_reducible first | exact HB.out | apply below_alloc | apply pw_below_drewN | apply below_drew1) | exact HB.out))); (case aF => exact (fun _ _ => trivial)); (case aO => exact (by (with_reducible repeat (first | apply Kd.R_alloc | apply Kd.R_drewN | apply Kd.R_drew)); exact HO_8.out)); (case aS => exact (below_size (by repeat (first | (with_reducible first | exact HB.out | apply below_alloc | apply pw_below_drewN | apply below_drew1) | exact HB.out)))); (case aL => have := LMc36.out; omega); intro v373 w39 ho hb hg hat; rw [← Ny372.out] at ho; have n0_ := Aside0.mk (Kd.R_over' (by (with_reducible repeat (first | apply Kd.R_alloc | apply Kd.R_drewN | apply Kd.R_drew)); exact HO_7.out) (Kd.R_typed (by (with_reducible repeat (first | apply Kd.R_alloc | apply Kd.R_drewN | apply Kd.R_drew)); exact HO_8.out)) (by decide) hg); have n1_ := Aside0.mk (hb); have n2_ := Aside0.mk (ho); clear HO_7; clear HB; clear HO_8; have HO_7 := n0_; have HB := n1_; have HO374 := n2_; clear n0_ n1_ n2_; clear ho hb hg hat))
                                                  (try simp only [← hl7_3])
                                                  go_roundg k3
                                                  case measure => have := HJ5.out; have := HK2.out; have := HK3.out; omega
                                                  case rel => exact ⟨(y371), (y372), (wrap64 (x10_3 + 1)), (by first | rfl | (simp; done) | (simp [*]; done)), H', ⟨by have := HJ5.out; have := HK2.out; have := HK3.out; omega⟩, ⟨by (try simp only [hl7_2]); (try simp only [hl7_3]); (with_reducible repeat (first | apply Kd.R_alloc | apply Kd.R_drewN | apply Kd.R_drew)); exact HO_7.out⟩, ⟨by (try simp only [hl7_2]); (try simp only [hl7_3]); (with_reducible repeat (first | apply Kd.R_alloc | apply Kd.R_drewN | apply Kd.R_drew)); exact HO374.out⟩, ⟨by repeat (first | (with_reducible first | exact HB.out | apply below_alloc | apply pw_below_drewN | apply below_drew1) | exact HB.out)⟩⟩
                                                · rw [if_neg c36] at H
                                                  exact absurd H (by simp)
                                            · rw [if_neg c32] at H
                                              exact absurd H (by simp)
                                          · rw [if_neg c31] at H
                                            exact absurd H (by simp)
                                      · rw [if_neg c29] at H
                                        exact absurd H (by simp)
                                    · rw [if_neg c28] at H
                                      have c28b0 : decide (x10_3 < ((rd_L1 l0 (rd x8_2 (ji20))).length : Int)) = false := decide_eq_false c28
                                      clear c28
                                      have H' := Aside0.mk H
                                      clear H
                                      have p367 : 0 ≤ ((rd x8_2 (ji20)) : Int) := of_decide_eq_true (by first | (with_reducible assumption) | assumption)
                                      have q367 : (rd x8_2 (ji20)) < (l0.length : Int) := of_decide_eq_true (by first | (with_reducible assumption) | assumption)
                                      obtain ⟨ad367, A367_0, c367_0, e367, hx367_0, hl367_0, hi367_0⟩ := at_L1 HR0.out (rd x8_2 (ji20)) p367 q367
                                      cases e367
                                      replace hx367_0 := (HB.out.cell (World.block_lt_of_cell? w _ hx367_0)).trans hx367_0
                                      have HR367_0 := Aside0.mk hi367_0
                                      have HC367_0 := Aside0.mk hl367_0
                                      clear hi367_0 hl367_0
                                      replace p367 := eq_true p367
                                      replace q367 := eq_true q367
                                      go_wp2
                                      (try simp only [← hl7_2, ← hl7_3])
                                      go_roundg k3
                                      case measure => have := HJ5.out; have := HK2.out; have := HK3.out; omega
                                      case rel => exact ⟨(x7_3), (x8_3), H', ⟨by have := HJ5.out; have := HK2.out; have := HK3.out; omega⟩, ⟨by (try simp only [hl7_2]); (try simp only [hl7_3]); (with_reducible repeat (first | apply Kd.R_alloc | apply Kd.R_drewN | apply Kd.R_drew)); exact HO_7.out⟩, ⟨by (try simp only [hl7_2]); (try simp only [hl7_3]); (with_reducible repeat (first | apply Kd.R_alloc | apply Kd.R_drewN | apply Kd.R_drew)); exact HO_8.out⟩, ⟨by repeat (first | (with_reducible first | exact HB.out | apply below_alloc | apply pw_below_drewN | apply below_drew1) | exact HB.out)⟩⟩
                                  · rw [if_neg c27] at H
                                    exact absurd H (by simp)
                                · rw [if_neg c26] at H
                                  exact absurd H (by simp)
                          · rw [if_neg c23] at H
                            exact absurd H (by simp)
                        · rw [if_neg c22] at H
                          exact absurd H (by simp)
                      · rw [if_neg c21] at H
                        exact absurd H (by simp)
                    · rw [if_neg c19] at H
                      have c19b0 : decide (0 < (x8_2.length : Int)) = false := decide_eq_false c19
                      have c19b1 : decide (0 < x8_2.length) = false := decide_eq_false (by omega)
                      clear c19
                      obtain rfl := Option.some.inj H
                      obtain ⟨Ao40, co40, eo40⟩ := Kd.R_slice HO_8.out
                      subst eo40
                      go_wp2
                      go_ret
                      exact ⟨_, by first | rfl | (simp [errW_none, errW_some] <;> rfl) | (simp [*, errW_none, errW_some] <;> rfl), by (with_reducible repeat (first | apply Kd.R_alloc | apply Kd.R_drewN | apply Kd.R_drew)); exact HO_7.out, by repeat (first | (with_reducible first | exact HB.out | apply below_alloc | apply pw_below_drewN | apply below_drew1) | exact HB.out)⟩
              · rw [if_neg c13] at H
                exact absurd H (by simp)
            · rw [if_neg c12] at H
              exact absurd H (by simp)
    · rw [if_neg c5] at H
      exact absurd H (by simp)
  · rw [if_neg c4] at H
    exact absurd H (by simp)

end Go.Proofs.Ytjflddnmkajleaa.PG
