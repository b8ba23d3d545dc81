-- By the session's own program out of the kit's print, with texts of the session's own for the functions that the print does not take.
import Derived.Test.YtjflddnmkajleaaPGx0
namespace Go.Proofs.Ytjflddnmkajleaa.PG
open Go.RowKit Go.Proofs.YtjflddnmkajleaaW.PrintWords Go.Proofs.YtjflddnmkajleaaW.PrintLast Go.Proofs.YtjflddnmkajleaaW.PrintMore
attribute [local go_sem] max2_int min2_int max_two min_two max_three min_three max_four min_four   -- for this text's walks alone
set_option linter.unusedVariables false
set_option linter.unusedSimpArgs false

/-! ### ratlineref10_leave: function 37 -/
mutual
def ratlineref10_leave.l0 : Nat → List (List Int) → Int → List Bool → List Int → Int → Option (List Int × List Bool)
  | 0, _, _, _, _, _ => none
  | k + 1, x0, x1, x2, x3, x9 => if 0 ≤ x1 then (if x1 < (x0.length : Int) then (if x9 < ((rd_L1 x0 x1).length : Int) then (if 0 ≤ x9 then (if 0 ≤ (rd (rd_L1 x0 x1) x9) then (if (rd (rd_L1 x0 x1) x9) < (x2.length : Int) then (if (rdOf false x2 (rd (rd_L1 x0 x1) x9) = true) then (ratlineref10_leave.l0 k x0 x1 x2 x3 (wrap64 (x9 + 1))) else ((ratlineref10_leave.f k x0 (rd (rd_L1 x0 x1) x9) x2 x3).bind fun bt417 => (ratlineref10_leave.l0 k x0 x1 bt417.2 bt417.1 (wrap64 (x9 + 1))))) else (none)) else (none)) else (none)) else ((some (([x1] : List Int) : List Int)).bind fun y421 => (if y421.length + x3.length < 17592186044416 then (some ((y421 ++ x3), x2)) else (none)))) else (none)) else (none)
def ratlineref10_leave.f : Nat → List (List Int) → Int → List Bool → List Int → Option (List Int × List Bool)
  | 0, _, _, _, _ => none
  | k + 1, l0, a1, l2, l3 => if 0 ≤ a1 then (if a1 < (l2.length : Int) then (ratlineref10_leave.l0 k l0 a1 (l2.set (a1 : Int).toNat true) l3 0) else (none)) else (none)
end
theorem ratlineref10_leave.mono_l : ∀ k, (∀ y0 y1 y2 y3, LeO (ratlineref10_leave.f k y0 y1 y2 y3) (ratlineref10_leave.f (k + 1) y0 y1 y2 y3)) ∧ (∀ y0 y1 y2 y3 y4, LeO (ratlineref10_leave.l0 k y0 y1 y2 y3 y4) (ratlineref10_leave.l0 (k + 1) y0 y1 y2 y3 y4))
  | 0 => ⟨fun _ _ _ _ r h => by simp [ratlineref10_leave.f] at h, fun _ _ _ _ _ r h => by simp [ratlineref10_leave.l0] at h⟩
  | k + 1 => by
    obtain ⟨ih0, ih1⟩ := ratlineref10_leave.mono_l k
    refine ⟨?_, ?_⟩
    · intro y0 y1 y2 y3
      unfold ratlineref10_leave.f
      repeat' first
      | (with_reducible exact ih0 _ _ _ _)
      | (with_reducible exact ih1 _ _ _ _ _)
      | (with_reducible exact LeO.refl _)
      | (with_reducible exact LeO.none _)
      | (with_reducible refine LeO.ite ?_ ?_)
      | (with_reducible refine LeO.bind ?_ (fun _ => ?_))
      | exact ih0 _ _ _ _
      | exact ih1 _ _ _ _ _
      | exact LeO.none _
      | refine LeO.ite ?_ ?_
      | refine LeO.bind ?_ (fun _ => ?_)
    · intro y0 y1 y2 y3 y4
      unfold ratlineref10_leave.l0
      repeat' first
      | (with_reducible exact ih0 _ _ _ _)
      | (with_reducible exact ih1 _ _ _ _ _)
      | (with_reducible exact LeO.refl _)
      | (with_reducible exact LeO.none _)
      | (with_reducible refine LeO.ite ?_ ?_)
      | (with_reducible refine LeO.bind ?_ (fun _ => ?_))
      | exact ih0 _ _ _ _
      | exact ih1 _ _ _ _ _
      | exact LeO.none _
      | refine LeO.ite ?_ ?_
      | refine LeO.bind ?_ (fun _ => ?_)
theorem ratlineref10_leave.mono : ∀ a0 a1 a2 a3 k, LeO (ratlineref10_leave.f k a0 a1 a2 a3) (ratlineref10_leave.f (k + 1) a0 a1 a2 a3) := by
  intro a0 a1 a2 a3 k
  obtain ⟨ih0, ih1⟩ := ratlineref10_leave.mono_l k
  exact ih0 a0 a1 a2 a3
set_option maxHeartbeats 8000000 in
set_option maxRecDepth 100000 in
theorem ratlineref10_leave.calls (k : Nat) : ∀ (A0 : Option Addr) (c0 : Nat) (l0 : List (List Int)) (a1 : Int) (P2_ : Nat → Prop) (u9000_ : Value) (l2 : List Bool) (P3_ : Nat → Prop) (A3 : Option Addr) (c3 : Nat) (l3 : List Int) (r1 : List Int) (r2 : List Bool) (w0 w : World) (hB : Below w0.heap.size w0 w) (hr0 : ∀ W_, Kept w W_ (fun k_ => P2_ k_) → Kd.C (Kd.slice 3 (Kd.int .i64)) W_ A0 l0.length l0) (hc0 : l0.length ≤ c0) (ho2 : Kd.R Kd.bool 4 w w0.heap.size P2_ u9000_ l2) (hs3 : Kd.V (Kd.int .i64) 3 w w0.heap.size (fun k_ => P3_ k_ ∧ some k_ ≠ (u9000_ : Value).ownBlock) (.slice A3 l3.length c3) l3) (h : ratlineref10_leave.f k l0 a1 l2 l3 = some (r1, r2)),
    Calls Try.prog 37 #[.slice A0 l0.length c0, .int .i64 a1, u9000_, .slice A3 l3.length c3] w fun e w' => ∃ v0_ : Value, e = .returned (v0_) ∧ Kd.R (Kd.int .i64) 3 w' w0.heap.size (fun k_ => (P2_ k_ ∨ w.heap.size ≤ k_)) v0_ r1 ∧ Kd.R Kd.bool 4 w' w0.heap.size (fun k_ => (P2_ k_ ∨ w.heap.size ≤ k_)) u9000_ r2 ∧ Below w0.heap.size w0 w' ∧ Kept w w' (fun k_ => P2_ k_) := by
  induction k using Nat.strongRecOn with
  | _ k ih =>
  intro A0 c0 l0 a1 P2_ u9000_ l2 P3_ A3 c3 l3 r1 r2 w0 w hB hr0 hc0 ho2 hs3 h
  cases k with
  | zero => exact absurd h (by simp [ratlineref10_leave.f])
  | succ k =>
  simp only [ratlineref10_leave.f] at h
  have HR0 := Aside0.mk hr0
  have HC0 := Aside0.mk hc0
  clear hr0 hc0
  have HO2 := Aside0.mk (show Kd.R Kd.bool 4 w w0.heap.size (fun k_ => (P2_ k_ ∨ w.heap.size ≤ k_)) u9000_ l2 from Kd.R_mono ho2 (fun k_ hk => (.inl hk)))
  have HO3 := Aside0.mk (show Kd.V (Kd.int .i64) 3 w w0.heap.size (fun k_ => ((P2_ k_ ∨ P3_ k_) ∨ w.heap.size ≤ k_) ∧ some k_ ≠ (u9000_ : Value).ownBlock) (.slice A3 l3.length c3) l3 from Kd.V_mono hs3 (fun k_ hk => ⟨.inl (.inr hk.1), hk.2⟩))
  have HK := Aside0.mk (Kept.refl w (fun k_ => P2_ k_))
  have HW0 := Aside0.mk hB.size
  have HB := Aside0.mk hB
  clear hB
  have H : (if 0 ≤ a1 then (if a1 < (l2.length : Int) then (ratlineref10_leave.l0 k l0 a1 (l2.set (a1 : Int).toNat true) l3 0) else (none)) else (none)) = some (r1, r2) := h
  clear h
  by_cases c5 : 0 ≤ a1
  · rw [if_pos c5] at H
    have c5b0 : decide (0 ≤ a1) = true := decide_eq_true c5
    clear c5
    by_cases c6 : a1 < (l2.length : Int)
    · rw [if_pos c6] at H
      have c6b0 : decide (a1 < (l2.length : Int)) = true := decide_eq_true c6
      clear c6
      obtain ⟨y410, hy410⟩ : ∃ y_ : List Bool, y_ = (l2.set (a1 : Int).toNat true) := ⟨_, rfl⟩
      replace H : (ratlineref10_leave.l0 k l0 a1 y410 l3 0) = some (r1, r2) := by first | (rw [hy410]; with_reducible exact H) | (have H2_ := (Option.bind_some _ _).symm.trans H; rw [hy410]; with_reducible exact H2_) | (have H2_ := (Option.bind_some _ _).symm.trans H; with_reducible exact H2_) | with_reducible exact H | (rw [hy410]; exact H) | exact H
      have Ny410 := Aside0.mk hy410
      clear hy410
      have H' := Aside0.mk H
      clear H
      have p7 : 0 ≤ (a1 : Int) := of_decide_eq_true (by first | (with_reducible assumption) | assumption)
      have q7 : (a1 : Int) < ((l2.length : Int) : Int) := of_decide_eq_true (by first | (with_reducible assumption) | assumption)
      obtain ⟨go7, co7, eo7, gb7, gl7, cl7, HG7⟩ := Kd.R_form HO2.out (by omega)
      (first | cases eo7 | (injection eo7 with ea_ en_ ec_; (first | subst ea_ | (injection ea_ with ea_; subst ea_)); subst ec_; clear en_))
      have GB7 := Aside0.mk gb7
      have GG7 := Aside0.mk HG7
      clear gb7 gl7 HG7
      have HMgo7 := Aside0.mk (show (P2_ go7 ∨ w.heap.size ≤ go7) from (HO2.out.1 _ rfl))
      obtain ⟨hx7_0, hf7_0⟩ := Kd.R_celln false HO2.out (a1 : Int) p7 q7
      replace p7 := eq_true p7
      replace q7 := eq_true q7
      have HP8 := Kd.R_putg HO2.out (a1 : Int) true
      go_enter Try.func37, Try.ntmps37
      go_wp2_with (first | ((with_reducible refine gate_store (t := 4) (p := 12) rfl ?_); refine store_event (t := 4) (p := 12) (v := ?vo_w9) (w1 := (w.setCell ⟨go7, (a1 : Int).toNat, none⟩ (.bool true))) ?hg ?ho ?hn ?hr ?_; (case ho => rfl); (case hg => rfl); (case hn => rfl); (case hr => first | (go_simp; done) | (go_simp; rfl)); intro w9 hw; have hg : w.grownBy w9 (some go7) := (by rw [hw]; exact HP8.2); have hp_ : Kd.R Kd.bool 4 w9 w0.heap.size (fun k_ => (P2_ k_ ∨ w.heap.size ≤ k_)) (.slice (some ⟨go7, 0, none⟩) l2.length co7) y410 := (by rw [hw, Ny410.out]; exact HP8.1); clear HP8; have n0_ := Aside0.mk (hp_); have n1_ := Aside0.mk (Kd.V_afterv (v := (.slice (some ⟨go7, 0, none⟩) l2.length co7)) (v1 := (.slice (some ⟨go7, 0, none⟩) l2.length co7)) (ok := (fun k_ => ((P2_ k_ ∨ P3_ k_) ∨ w.heap.size ≤ k_))) (by (with_reducible repeat (first | apply Kd.V_alloc | apply Kd.V_drewN | apply Kd.V_drew)); exact HO3.out) hg (.inl rfl)); have n2_ := Aside0.mk ((by rw [hw]; exact below_set (HB.out) GB7.out : Below w0.heap.size w0 w9)); have n3_ := Aside0.mk (Kept.of_grown (S := (fun k_ => P2_ k_)) hg (by repeat (first | (with_reducible first | exact HK.out | apply Kept.alloc | apply Kept.drewN | apply Kept.drew) | exact HK.out)) (fun k_ e_ => (HO2.out.1 k_ e_))); clear HO2; clear HO3; clear HB; clear HK; have HO2 := n0_; have HO3 := n1_; have HB := n2_; have HK := n3_; clear n0_ n1_ n2_ n3_; clear hg hw hp_))
      go_loopg [3, 9] k (fun kq v3 v9 w' => ∃ (x2_1 : List Bool) (x3_1 : List Int) (x9_1 : Int), v9 = .int .i64 x9_1 ∧ Aside0 (ratlineref10_leave.l0 kq l0 a1 x2_1 x3_1 x9_1 = some (r1, r2)) ∧ Aside0 (kq ≤ k) ∧ Aside0 (Kd.R Kd.bool 4 w' w0.heap.size (fun k_ => (P2_ k_ ∨ w.heap.size ≤ k_)) (.slice (some ⟨go7, 0, none⟩) l2.length co7) x2_1) ∧ Aside0 (Kd.V (Kd.int .i64) 3 w' w0.heap.size (fun k_ => ((P2_ k_ ∨ P3_ k_) ∨ w.heap.size ≤ k_) ∧ some k_ ≠ ((.slice (some ⟨go7, 0, none⟩) l2.length co7) : Value).ownBlock) v3 x3_1) ∧ Aside0 (Kept w w' (fun k_ => P2_ k_)) ∧ Aside0 (Below w0.heap.size w0 w'))
      case atStart => exact ⟨(y410), (l3), (0), (by first | rfl | (simp; done) | (simp [*]; done)), H', ⟨Nat.le_refl _⟩, ⟨by (with_reducible repeat (first | apply Kd.R_alloc | apply Kd.R_drewN | apply Kd.R_drew)); exact HO2.out⟩, ⟨by (with_reducible repeat (first | apply Kd.V_alloc | apply Kd.V_drewN | apply Kd.V_drew)); exact HO3.out⟩, ⟨by repeat (first | (with_reducible first | exact HK.out | apply Kept.alloc | apply Kept.drewN | apply Kept.drew) | exact HK.out)⟩, ⟨by repeat (first | (with_reducible first | exact HB.out | apply below_alloc | apply pw_below_drewN | apply below_drew1) | exact HB.out)⟩⟩
      case round =>
        clear H'
        try clear p2
        try clear c3
        try clear c5
        try clear c5b0
        try clear c6
        try clear c6b0
        try clear p7
        try clear q7
        try clear hx7
        try clear hf7
        try clear hx7_0
        try clear p7
        try clear q7
        obtain ⟨x2_1, x3_1, x9_1, rfl, HA, HK1, HO_2, HO_3, HK, HB⟩ := hrel
        have hl2_1 := (Kd.R_reads' HO_2.out).1
        rw [hl2_1] at HO_2
        (try simp only [hl2_1])
        (try simp only [hl2_1] at HO_3)
        cases gk with
        | zero => exact absurd HA.out (by simp [ratlineref10_leave.l0])
        | succ k1 =>
          have H := HA.out
          clear HA
          simp only [ratlineref10_leave.l0] at H
          by_cases c10 : 0 ≤ a1
          · rw [if_pos c10] at H
            have c10b0 : decide (0 ≤ a1) = true := decide_eq_true c10
            clear c10
            by_cases c11 : a1 < (l0.length : Int)
            · rw [if_pos c11] at H
              have c11b0 : decide (a1 < (l0.length : Int)) = true := decide_eq_true c11
              clear c11
              by_cases c12 : x9_1 < ((rd_L1 l0 a1).length : Int)
              · rw [if_pos c12] at H
                have c12b0 : decide (x9_1 < ((rd_L1 l0 a1).length : Int)) = true := decide_eq_true c12
                clear c12
                by_cases c13 : 0 ≤ x9_1
                · rw [if_pos c13] at H
                  have c13b0 : decide (0 ≤ x9_1) = true := decide_eq_true c13
                  clear c13
                  by_cases c14 : 0 ≤ (rd (rd_L1 l0 a1) x9_1)
                  · rw [if_pos c14] at H
                    have c14b0 : decide (0 ≤ (rd (rd_L1 l0 a1) x9_1)) = true := decide_eq_true c14
                    clear c14
                    by_cases c15 : (rd (rd_L1 l0 a1) x9_1) < (x2_1.length : Int)
                    · rw [if_pos c15] at H
                      have c15b0 : decide ((rd (rd_L1 l0 a1) x9_1) < (x2_1.length : Int)) = true := decide_eq_true c15
                      clear c15
                      obtain ⟨bq16, hbq16⟩ : ∃ b_ : Bool, b_ = (rdOf false x2_1 (rd (rd_L1 l0 a1) x9_1)) := ⟨_, rfl⟩
                      replace H : (if (bq16 = true) then (ratlineref10_leave.l0 k1 l0 a1 x2_1 x3_1 (wrap64 (x9_1 + 1))) else ((ratlineref10_leave.f k1 l0 (rd (rd_L1 l0 a1) x9_1) x2_1 x3_1).bind fun bt417 => (ratlineref10_leave.l0 k1 l0 a1 bt417.2 bt417.1 (wrap64 (x9_1 + 1))))) = some (r1, r2) := by rw [← hbq16] at H; exact H
                      have Nbq16 := Aside0.mk hbq16
                      clear hbq16
                      by_cases c17 : (bq16 = true)
                      · subst c17
                        have H1 : (ratlineref10_leave.l0 k1 l0 a1 x2_1 x3_1 (wrap64 (x9_1 + 1))) = some (r1, r2) := by rw [if_pos rfl] at H; exact H
                        clear H
                        have H := H1
                        clear H1
                        have H' := Aside0.mk H
                        clear H
                        have p411 : 0 ≤ (a1 : Int) := of_decide_eq_true (by first | (with_reducible assumption) | assumption)
                        have q411 : a1 < (l0.length : Int) := of_decide_eq_true (by first | (with_reducible assumption) | assumption)
                        obtain ⟨ad411, A411_0, c411_0, e411, hx411_0, hl411_0, hi411_0⟩ := at_L1 (Kd.C_kept_now HR0.out HK.out) a1 p411 q411
                        cases e411
                        have HR411_0 := Aside0.mk hi411_0
                        have HC411_0 := Aside0.mk hl411_0
                        clear hi411_0 hl411_0
                        replace p411 := eq_true p411
                        replace q411 := eq_true q411
                        have p412 : 0 ≤ (a1 : Int) := of_decide_eq_true (by first | (with_reducible assumption) | assumption)
                        have q412 : a1 < (l0.length : Int) := of_decide_eq_true (by first | (with_reducible assumption) | assumption)
                        obtain ⟨ad412, A412_0, c412_0, e412, hx412_0, hl412_0, hi412_0⟩ := at_L1 (Kd.C_kept_now HR0.out HK.out) a1 p412 q412
                        obtain rfl : ad411 = ad412 := (by injection e412)
                        have HR412_0 := Aside0.mk hi412_0
                        have HC412_0 := Aside0.mk hl412_0
                        clear hi412_0 hl412_0
                        replace p412 := eq_true p412
                        replace q412 := eq_true q412
                        have ea_ := Option.some.inj (hx411_0.symm.trans hx412_0)
                        injection ea_ with ea_ en_ ec_
                        subst ea_
                        subst ec_
                        clear en_
                        have p413 : 0 ≤ (x9_1 : Int) := of_decide_eq_true (by first | (with_reducible assumption) | assumption)
                        have q413 : x9_1 < ((rd_L1 l0 a1).length : Int) := of_decide_eq_true (by first | (with_reducible assumption) | assumption)
                        obtain ⟨ad413, e413, hx413_0⟩ := Kd.at_int (by repeat (first | (with_reducible exact HR412_0.out) | (with_reducible refine Kd.C_alloc ?_ _) | (with_reducible refine Kd.C_drewN ?_ _) | (with_reducible refine Kd.C_drew ?_) | exact HR412_0.out)) x9_1 p413 q413
                        cases e413
                        replace p413 := eq_true p413
                        replace q413 := eq_true q413
                        have p414 : 0 ≤ ((rd (rd_L1 l0 a1) x9_1) : Int) := of_decide_eq_true (by first | (with_reducible assumption) | assumption)
                        have q414 : (rd (rd_L1 l0 a1) x9_1) < (x2_1.length : Int) := of_decide_eq_true (by first | (with_reducible assumption) | assumption)
                        obtain ⟨ad414, e414, hx414_0⟩ := Kd.at_bool (Kd.R_reads' HO_2.out).2.2 (rd (rd_L1 l0 a1) x9_1) p414 q414
                        (try rw [← Nbq16.out] at hx414_0)
                        obtain rfl : (⟨go7, 0, none⟩ : Addr) = ad414 := (by injection e414)
                        (first | simp only [add_plain] at hx414_0 | simp only [add_at] at hx414_0 | simp only [Addr.add, Nat.zero_add] at hx414_0 | skip)
                        replace p414 := eq_true p414
                        replace q414 := eq_true q414
                        go_wp2
                        (try simp only [← hl2_1])
                        go_roundg k1
                        case measure => have := HK1.out; omega
                        case rel => exact ⟨(x2_1), (x3_1), (wrap64 (x9_1 + 1)), (by first | rfl | (simp; done) | (simp [*]; done)), H', ⟨by have := HK1.out; omega⟩, ⟨by (try simp only [hl2_1]); (with_reducible repeat (first | apply Kd.R_alloc | apply Kd.R_drewN | apply Kd.R_drew)); exact HO_2.out⟩, ⟨by (try simp only [hl2_1]); (with_reducible repeat (first | apply Kd.V_alloc | apply Kd.V_drewN | apply Kd.V_drew)); exact HO_3.out⟩, ⟨by repeat (first | (with_reducible first | exact HK.out | apply Kept.alloc | apply Kept.drewN | apply Kept.drew) | exact HK.out)⟩, ⟨by repeat (first | (with_reducible first | exact HB.out | apply below_alloc | apply pw_below_drewN | apply below_drew1) | exact HB.out)⟩⟩
                      · replace c17 := Bool.eq_false_iff.mpr c17
                        subst c17
                        have H1 : ((ratlineref10_leave.f k1 l0 (rd (rd_L1 l0 a1) x9_1) x2_1 x3_1).bind fun bt417 => (ratlineref10_leave.l0 k1 l0 a1 bt417.2 bt417.1 (wrap64 (x9_1 + 1)))) = some (r1, r2) := by rw [if_neg (show ¬ (false = true) by decide)] at H; exact H
                        clear H
                        have H := H1
                        clear H1
                        replace H := Option.bind_eq_some_iff.mp H
                        obtain ⟨⟨t417, t420⟩, A180, H⟩ := H
                        replace H : (ratlineref10_leave.l0 k1 l0 a1 t420 t417 (wrap64 (x9_1 + 1))) = some (r1, r2) := H
                        have A18 := Aside0.mk A180
                        clear A180
                        have H' := Aside0.mk H
                        clear H
                        have p411 : 0 ≤ (a1 : Int) := of_decide_eq_true (by first | (with_reducible assumption) | assumption)
                        have q411 : a1 < (l0.length : Int) := of_decide_eq_true (by first | (with_reducible assumption) | assumption)
                        obtain ⟨ad411, A411_0, c411_0, e411, hx411_0, hl411_0, hi411_0⟩ := at_L1 (Kd.C_kept_now HR0.out HK.out) a1 p411 q411
                        cases e411
                        have HR411_0 := Aside0.mk hi411_0
                        have HC411_0 := Aside0.mk hl411_0
                        clear hi411_0 hl411_0
                        replace p411 := eq_true p411
                        replace q411 := eq_true q411
                        have p412 : 0 ≤ (a1 : Int) := of_decide_eq_true (by first | (with_reducible assumption) | assumption)
                        have q412 : a1 < (l0.length : Int) := of_decide_eq_true (by first | (with_reducible assumption) | assumption)
                        obtain ⟨ad412, A412_0, c412_0, e412, hx412_0, hl412_0, hi412_0⟩ := at_L1 (Kd.C_kept_now HR0.out HK.out) a1 p412 q412
                        obtain rfl : ad411 = ad412 := (by injection e412)
                        have HR412_0 := Aside0.mk hi412_0
                        have HC412_0 := Aside0.mk hl412_0
                        clear hi412_0 hl412_0
                        replace p412 := eq_true p412
                        replace q412 := eq_true q412
                        have ea_ := Option.some.inj (hx411_0.symm.trans hx412_0)
                        injection ea_ with ea_ en_ ec_
                        subst ea_
                        subst ec_
                        clear en_
                        have p413 : 0 ≤ (x9_1 : Int) := of_decide_eq_true (by first | (with_reducible assumption) | assumption)
                        have q413 : x9_1 < ((rd_L1 l0 a1).length : Int) := of_decide_eq_true (by first | (with_reducible assumption) | assumption)
                        obtain ⟨ad413, e413, hx413_0⟩ := Kd.at_int (by repeat (first | (with_reducible exact HR412_0.out) | (with_reducible refine Kd.C_alloc ?_ _) | (with_reducible refine Kd.C_drewN ?_ _) | (with_reducible refine Kd.C_drew ?_) | exact HR412_0.out)) x9_1 p413 q413
                        cases e413
                        replace p413 := eq_true p413
                        replace q413 := eq_true q413
                        have p414 : 0 ≤ ((rd (rd_L1 l0 a1) x9_1) : Int) := of_decide_eq_true (by first | (with_reducible assumption) | assumption)
                        have q414 : (rd (rd_L1 l0 a1) x9_1) < (x2_1.length : Int) := of_decide_eq_true (by first | (with_reducible assumption) | assumption)
                        obtain ⟨ad414, e414, hx414_0⟩ := Kd.at_bool (Kd.R_reads' HO_2.out).2.2 (rd (rd_L1 l0 a1) x9_1) p414 q414
                        (try rw [← Nbq16.out] at hx414_0)
                        obtain rfl : (⟨go7, 0, none⟩ : Addr) = ad414 := (by injection e414)
                        (first | simp only [add_plain] at hx414_0 | simp only [add_at] at hx414_0 | simp only [Addr.add, Nat.zero_add] at hx414_0 | skip)
                        replace p414 := eq_true p414
                        replace q414 := eq_true q414
                        have p415 : 0 ≤ (a1 : Int) := of_decide_eq_true (by first | (with_reducible assumption) | assumption)
                        have q415 : a1 < (l0.length : Int) := of_decide_eq_true (by first | (with_reducible assumption) | assumption)
                        obtain ⟨ad415, A415_0, c415_0, e415, hx415_0, hl415_0, hi415_0⟩ := at_L1 (Kd.C_kept_now HR0.out HK.out) a1 p415 q415
                        obtain rfl : ad411 = ad415 := (by injection e415)
                        have HR415_0 := Aside0.mk hi415_0
                        have HC415_0 := Aside0.mk hl415_0
                        clear hi415_0 hl415_0
                        replace p415 := eq_true p415
                        replace q415 := eq_true q415
                        have ea_ := Option.some.inj (hx411_0.symm.trans hx415_0)
                        injection ea_ with ea_ en_ ec_
                        subst ea_
                        subst ec_
                        clear en_
                        have p416 : 0 ≤ (x9_1 : Int) := of_decide_eq_true (by first | (with_reducible assumption) | assumption)
                        have q416 : x9_1 < ((rd_L1 l0 a1).length : Int) := of_decide_eq_true (by first | (with_reducible assumption) | assumption)
                        obtain ⟨ad416, e416, hx416_0⟩ := Kd.at_int (by repeat (first | (with_reducible exact HR415_0.out) | (with_reducible refine Kd.C_alloc ?_ _) | (with_reducible refine Kd.C_drewN ?_ _) | (with_reducible refine Kd.C_drew ?_) | exact HR415_0.out)) x9_1 p416 q416
                        cases e416
                        replace p416 := eq_true p416
                        replace q416 := eq_true q416
                        obtain ⟨Ao19, co19, eo19⟩ := Kd.V_slice HO_3.out
                        subst eo19
                        go_wp2_with (first | ((with_reducible refine gate_callee (f := 37) rfl ?_); refine goesL_ (some 43) rfl rfl Try.func37 (by kernel_rfl) rfl #[.slice (some ad411) l0.length c0, .int .i64 (rd (rd_L1 l0 a1) x9_1), .slice (some ⟨go7, 0, none⟩) x2_1.length co7, .slice Ao19 x3_1.length co19] rfl (by (try simp only [List.map_toArray, List.map_cons, List.map_nil]); first | done | rfl | (simp only [List.length_drop, List.length_take]; rfl)) ?_; (with_reducible refine (ih k1 (by have := HK1.out; omega) _ _ l0 (rd (rd_L1 l0 a1) x9_1) (fun k_ => some k_ = (.slice (some ⟨go7, 0, none⟩) x2_1.length co7 : Value).ownBlock) (.slice (some ⟨go7, 0, none⟩) x2_1.length co7) x2_1 (fun k_ => (((P2_ k_ ∨ P3_ k_) ∨ w.heap.size ≤ k_) ∧ some k_ ≠ (.slice (some ⟨go7, 0, none⟩) x2_1.length co7 : Value).ownBlock)) _ _ x3_1 t417 t420 w0 _ ?side1 ?side2 ?side3 ?side4 ?side5 A18.out).mono ?_); (case side1 => repeat (first | (with_reducible first | exact HB.out | apply below_alloc | apply pw_below_drewN | apply below_drew1) | exact HB.out)); (case side2 => exact Kd.C_kept_call HR0.out (by repeat (first | (with_reducible first | exact HK.out | apply Kept.alloc | apply Kept.drewN | apply Kept.drew) | exact HK.out)) (fun k_ hs_ => (fun e_ => (HO_2.out.1 k_ e_.symm)) hs_)); (case side3 => exact HC0.out); (case side4 => exact Kd.R_tight rfl HO_2.out); (case side5 => exact Kd.V_mono (HO_3.out) (fun k_ hk_ => ⟨hk_, hk_.2⟩)); rintro e w20 ⟨v418, rfl, ho0, hy0, hb, hkp⟩; refine ⟨_, rfl, ?_⟩; have n0_ := Aside0.mk (Kd.R_reok rfl hy0 (fun k_ e_ => HO_2.out.1 k_ e_)); have n1_ := Aside0.mk (Kd.V_mono (ok' := fun k_ => ((P2_ k_ ∨ P3_ k_) ∨ w.heap.size ≤ k_) ∧ some k_ ≠ (.slice (some ⟨go7, 0, none⟩) x2_1.length co7 : Value).ownBlock ∧ some k_ ≠ (v418 : Value).ownBlock) (Kd.V_keptB (HO_3.out) hkp (fun k_ hk_ hs_ => (hk_.2) hs_)) (fun k_ hk_ => ⟨hk_.1.1, hk_.1.2, fun e_ => Or.elim (ho0.1 k_ e_.symm) (fun hs_ => hk_.2.1 hs_) (fun hn_ => Nat.not_le.2 hk_.2.2 hn_)⟩)); have n2_ := Aside0.mk (Kd.R_mono (ok' := fun k_ => (P2_ k_ ∨ w.heap.size ≤ k_)) ho0 (fun k_ hk_ => Or.elim hk_ (fun hs_ => (HO_2.out.1 k_ (hs_).symm)) (fun hn_ => (.inr (Nat.le_trans (by first | exact HK.out.1 | exact (show Kept w _ (fun k_ => P2_ k_) from by repeat (first | (with_reducible first | exact HK.out | apply Kept.alloc | apply Kept.drewN | apply Kept.drew) | exact HK.out)).1) hn_))))); have n3_ := Aside0.mk (Kept.then_ (S := (fun k_ => P2_ k_)) (by repeat (first | (with_reducible first | exact HK.out | apply Kept.alloc | apply Kept.drewN | apply Kept.drew) | exact HK.out)) hkp (fun k_ hs_ => (fun e_ => (HO_2.out.1 k_ e_.symm)) hs_)); have n4_ := Aside0.mk (hb); clear HO_2; clear HO_3; clear HK; clear HB; have HO_2 := n0_; have HO_3 := n1_; have HO419 := n2_; have HK := n3_; have HB := n4_; clear n0_ n1_ n2_ n3_ n4_; (try clear hb); (try clear hkp); (try clear ho0); (try clear hy0)))
                        (try simp only [← hl2_1])
                        go_roundg k1
                        case measure => have := HK1.out; omega
                        case rel => exact ⟨(t420), (t417), (wrap64 (x9_1 + 1)), (by first | rfl | (simp; done) | (simp [*]; done)), H', ⟨by have := HK1.out; omega⟩, ⟨by (try simp only [hl2_1]); (with_reducible repeat (first | apply Kd.R_alloc | apply Kd.R_drewN | apply Kd.R_drew)); exact HO_2.out⟩, ⟨Kd.V_mono (Kd.R_V (by (try simp only [hl2_1]); (with_reducible repeat (first | apply Kd.R_alloc | apply Kd.R_drewN | apply Kd.R_drew)); exact (Kd.R_apart' HO419.out (Kd.R_typed HO_2.out) (by decide)))) (fun k_ hk => by first | exact ⟨(Or.imp_left (fun h_ => (.inl h_)) (hk.1)), hk.2⟩ | exact (Or.imp_left (fun h_ => (.inl h_)) (hk)))⟩, ⟨by repeat (first | (with_reducible first | exact HK.out | apply Kept.alloc | apply Kept.drewN | apply Kept.drew) | exact HK.out)⟩, ⟨by repeat (first | (with_reducible first | exact HB.out | apply below_alloc | apply pw_below_drewN | apply below_drew1) | exact HB.out)⟩⟩
                    · rw [if_neg c15] at H
                      exact absurd H (by simp)
                  · rw [if_neg c14] at H
                    exact absurd H (by simp)
                · rw [if_neg c13] at H
                  exact absurd H (by simp)
              · rw [if_neg c12] at H
                have c12b0 : decide (x9_1 < ((rd_L1 l0 a1).length : Int)) = false := decide_eq_false c12
                clear c12
                obtain ⟨y421, hy421⟩ : ∃ y_ : List Int, y_ = (([a1] : List Int)) := ⟨_, rfl⟩
                replace H : (if y421.length + x3_1.length < 17592186044416 then (some ((y421 ++ x3_1), x2_1)) else (none)) = some (r1, r2) := by first | (rw [hy421]; with_reducible exact H) | (have H2_ := (Option.bind_some _ _).symm.trans H; rw [hy421]; with_reducible exact H2_) | (have H2_ := (Option.bind_some _ _).symm.trans H; with_reducible exact H2_) | with_reducible exact H | (rw [hy421]; exact H) | exact H
                have Ny421 := Aside0.mk hy421
                clear hy421
                by_cases c21 : y421.length + x3_1.length < 17592186044416
                · rw [if_pos c21] at H
                  have LMc21 := Aside0.mk c21
                  clear c21
                  obtain ⟨y424, hy424⟩ : ∃ y_ : List Int, y_ = (y421 ++ x3_1) := ⟨_, rfl⟩
                  replace H : (some (y424, x2_1)) = some (r1, r2) := by first | (rw [hy424]; with_reducible exact H) | (have H2_ := (Option.bind_some _ _).symm.trans H; rw [hy424]; with_reducible exact H2_) | (have H2_ := (Option.bind_some _ _).symm.trans H; with_reducible exact H2_) | with_reducible exact H | (rw [hy424]; exact H) | exact H
                  have Ny424 := Aside0.mk hy424
                  clear hy424
                  simp only [Option.some.injEq, Prod.mk.injEq] at H
                  obtain ⟨rfl, rfl⟩ := H
                  have p411 : 0 ≤ (a1 : Int) := of_decide_eq_true (by first | (with_reducible assumption) | assumption)
                  have q411 : a1 < (l0.length : Int) := of_decide_eq_true (by first | (with_reducible assumption) | assumption)
                  obtain ⟨ad411, A411_0, c411_0, e411, hx411_0, hl411_0, hi411_0⟩ := at_L1 (Kd.C_kept_now HR0.out HK.out) a1 p411 q411
                  cases e411
                  have HR411_0 := Aside0.mk hi411_0
                  have HC411_0 := Aside0.mk hl411_0
                  clear hi411_0 hl411_0
                  replace p411 := eq_true p411
                  replace q411 := eq_true q411
                  go_wp2_with (first | ((with_reducible refine gate_dst (N := 45) rfl ?_); refine Kd.R_lit (Kd.int .i64) _ 3 ?hg (N := 45) ?hd (xs := ([a1] : List Int)) (inner := [.int .i64 a1]) (ok := fun _ => True) (okp := fun _ => True) ?hr ?hp (fun _ hk => hk) trivial (Below.refl _ _) (Nat.le_refl _) (by simp) ?_; (case hd => rfl); (case hg => rfl); (case hr => first | (go_simp; done) | (go_simp; rfl)); (case hp => exact (Reps.one (show Kd.M (Kd.int .i64) _ _ _ a1 [.int .i64 a1] from rfl) (Reps.none _ _))); intro v422 w22 ho23 hb hg_ hnew_; clear hg_ hnew_; (first | rw [← Ny421.out] at ho23 | (simp only [Int.reduceToNat] at ho23; rw [← Ny421.out] at ho23)); have n0_ := Aside0.mk (Kd.R_below (by (with_reducible repeat (first | apply Kd.R_alloc | apply Kd.R_drewN | apply Kd.R_drew)); exact HO_2.out) hb); have n1_ := Aside0.mk (Kd.V_elder' (by (with_reducible repeat (first | apply Kd.V_alloc | apply Kd.V_drewN | apply Kd.V_drew)); exact HO_3.out) (Kd.R_base ho23) hb); have n2_ := Aside0.mk (Kd.R_lower (Kd.R_newM (M := fun k_ => (P2_ k_ ∨ w.heap.size ≤ k_)) ho23 (by first | exact HK.out.1 | exact (show Kept w _ (fun k_ => P2_ k_) from by repeat (first | (with_reducible first | exact HK.out | apply Kept.alloc | apply Kept.drewN | apply Kept.drew) | exact HK.out)).1) (fun k_ h_ => .inr h_)) (below_size (by repeat (first | (with_reducible first | exact HB.out | apply below_alloc | apply pw_below_drewN | apply below_drew1) | exact HB.out)))); have n3_ := Aside0.mk (Kd.C_below (by repeat (first | (with_reducible exact HR411_0.out) | (with_reducible refine Kd.C_alloc ?_ _) | (with_reducible refine Kd.C_drewN ?_ _) | (with_reducible refine Kd.C_drew ?_) | exact HR411_0.out)) hb); have n4_ := Aside0.mk (Kept.below (S := (fun k_ => P2_ k_)) (by repeat (first | (with_reducible first | exact HK.out | apply Kept.alloc | apply Kept.drewN | apply Kept.drew) | exact HK.out)) hb); have n5_ := Aside0.mk (below_step (by repeat (first | (with_reducible first | exact HB.out | apply below_alloc | apply pw_below_drewN | apply below_drew1) | exact HB.out)) hb); clear HO_2; clear HO_3; clear HR411_0; clear HK; clear HB; have HO_2 := n0_; have HO_3 := n1_; have HO423 := n2_; have HR411_0 := n3_; have HK := n4_; have HB := n5_; clear n0_ n1_ n2_ n3_ n4_ n5_; clear hb ho23; obtain ⟨Ao25, co25, eo25⟩ := Kd.V_slice HO_3.out; subst eo25) | ((with_reducible refine gate_builtin (b := .append) (xs := #[.tmp 45, .tmp 46]) rfl ?_); at_builtin; refine Kd.R_append_rows (Kd.int .i64) (w0 := w0) w0.heap.size rfl (.tmp 45) (.tmp 46) 25 3 (.int .i64 0) 8 rfl Try.underlying25 info3 rfl (by decide) (by omega) v422 y421 x3_1 _ _ _ (fun k_ => (P2_ k_ ∨ w.heap.size ≤ k_)) (fun _ => False) rfl rfl ?aO ?aR (fun _ _ h => h) (fun _ h => h.elim) ?aF ?aB ?aS ?aL ?_; (case aR => repeat (first | exact (Kd.V_reads' HO_3.out).2.2 | (with_reducible refine Kd.C_alloc ?_ _) | (with_reducible refine Kd.C_drewN ?_ _) | (with_reducible refine Kd.C_drew ?_))); (case aB => exact (by repeat (first | (with_reducible first | exact HB.out | apply below_alloc | apply pw_below_drewN | apply below_drew1) | exact HB.out))); (case aF => exact (fun k_ hk => (.inr (Nat.le_trans (by first | exact HK.out.1 | exact (show Kept w _ (fun k_ => P2_ k_) from by repeat (first | (with_reducible first | exact HK.out | apply Kept.alloc | apply Kept.drewN | apply Kept.drew) | exact HK.out)).1) hk)))); (case aO => exact (by (with_reducible repeat (first | apply Kd.R_alloc | apply Kd.R_drewN | apply Kd.R_drew)); exact Kd.R_mono HO423.out (fun _ hk => hk.1))); (case aS => exact (below_size (by repeat (first | (with_reducible first | exact HB.out | apply below_alloc | apply pw_below_drewN | apply below_drew1) | exact HB.out)))); (case aL => have := LMc21.out; omega); intro v425 w24 ho hb hg hat; rw [← Ny424.out] at ho; have n0_ := Aside0.mk (Kd.R_over' (by (with_reducible repeat (first | apply Kd.R_alloc | apply Kd.R_drewN | apply Kd.R_drew)); exact HO_2.out) (Kd.R_typed (by (with_reducible repeat (first | apply Kd.R_alloc | apply Kd.R_drewN | apply Kd.R_drew)); exact HO423.out)) (by decide) hg); have n1_ := Aside0.mk (Kd.V_afterv (ok := (fun k_ => ((P2_ k_ ∨ P3_ k_) ∨ w.heap.size ≤ k_) ∧ some k_ ≠ (.slice (some ⟨go7, 0, none⟩) x2_1.length co7 : Value).ownBlock)) (by (with_reducible repeat (first | apply Kd.V_alloc | apply Kd.V_drewN | apply Kd.V_drew)); exact HO_3.out) hg hat); have n2_ := Aside0.mk (hb); have n3_ := Aside0.mk (Kept.of_grown (S := (fun k_ => P2_ k_)) hg (by repeat (first | (with_reducible first | exact HK.out | apply Kept.alloc | apply Kept.drewN | apply Kept.drew) | exact HK.out)) (fun k_ e_ => (HO423.out.1 k_ e_).1)); have n4_ := Aside0.mk (ho); clear HO_2; clear HO_3; clear HB; clear HK; clear HO423; have HO_2 := n0_; have HO_3 := n1_; have HB := n2_; have HK := n3_; have HO426 := n4_; clear n0_ n1_ n2_ n3_ n4_; clear ho hb hg hat))
                  go_ret
                  exact ⟨_, by first | rfl | (simp [errW_none, errW_some] <;> rfl) | (simp [*, errW_none, errW_some] <;> rfl), by (with_reducible repeat (first | apply Kd.R_alloc | apply Kd.R_drewN | apply Kd.R_drew)); exact HO426.out, (by first | exact (by (with_reducible repeat (first | apply Kd.R_alloc | apply Kd.R_drewN | apply Kd.R_drew)); exact HO_2.out) | (simp only [hl2_1]; exact (by (with_reducible repeat (first | apply Kd.R_alloc | apply Kd.R_drewN | apply Kd.R_drew)); exact HO_2.out))), by repeat (first | (with_reducible first | exact HB.out | apply below_alloc | apply pw_below_drewN | apply below_drew1) | exact HB.out), by repeat (first | (with_reducible first | exact HK.out | apply Kept.alloc | apply Kept.drewN | apply Kept.drew) | exact HK.out)⟩
                · rw [if_neg c21] at H
                  exact absurd H (by simp)
            · rw [if_neg c11] at H
              exact absurd H (by simp)
          · rw [if_neg c10] at H
            exact absurd H (by simp)
    · rw [if_neg c6] at H
      exact absurd H (by simp)
  · rw [if_neg c5] at H
    exact absurd H (by simp)

end Go.Proofs.Ytjflddnmkajleaa.PG
