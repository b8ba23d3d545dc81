/- Function 30: which nodes a walk from the entry reaches. -/
-- The general walk of graph.reach of this session's own, turned to this translation.
import Derived.Test.YtdndnjpfpelimaaPGx0
import Derived.Test.YtdndnjpfpelimaaFinal
namespace Go.Proofs.Ytdndnjpfpelimaa.PG
open Go.RowKit Go.Proofs.YtdndnjpfpelimaaW.PrintWords Go.Proofs.YtdndnjpfpelimaaW.PrintLast Go.Proofs.YtdndnjpfpelimaaW.PrintMore
attribute [local go_sem] max2_int min2_int max_two min_two max_three min_three max_four min_four
set_option linter.unusedVariables false
set_option linter.unusedSimpArgs false
/-! ### graph_reach: function 30 -/
mutual
def graph_reach.j0 : Nat → List (List Int) → Int → Int → List Bool → Bool → Option (List Bool)
  | 0, _, _, _, _, _ => none
  | k + 1, x0, x1, x2, x7, x23 => if x23 = true then (some x7) else (if 0 ≤ x1 then (if x1 < (x7.length : Int) then (graph_reach.l0 k x0 x2 (x7.set (x1 : Int).toNat true) (([x1] : List Int))) else (none)) else (none))
def graph_reach.l0 : Nat → List (List Int) → Int → List Bool → List Int → Option (List Bool)
  | 0, _, _, _, _ => none
  | k + 1, x0, x2, x7, x8 => if (x8.length : Int) > 0 then (if 0 ≤ (wrap64 ((x8.length : Int) - 1)) then (if (wrap64 ((x8.length : Int) - 1)) < (x8.length : Int) then (if (wrap64 ((x8.length : Int) - 1)) ≤ (x8.length : Int) then (if 0 ≤ (rd x8 (wrap64 ((x8.length : Int) - 1))) then (if (rd x8 (wrap64 ((x8.length : Int) - 1))) < (x0.length : Int) then (graph_reach.l1 k x0 x2 x7 (x8.take ((wrap64 ((x8.length : Int) - 1)) : Int).toNat) (rd_L7 x0 (rd x8 (wrap64 ((x8.length : Int) - 1)))) ((rd_L7 x0 (rd x8 (wrap64 ((x8.length : Int) - 1)))).length : Int) 0) else (none)) else (none)) else (none)) else (none)) else (none)) else (some x7)
def graph_reach.l1 : Nat → List (List Int) → Int → List Bool → List Int → List Int → Int → Int → Option (List Bool)
  | 0, _, _, _, _, _, _, _ => none
  | k + 1, x0, x2, x7, x8, x47, x48, x49 => if x49 < x48 then (if 0 ≤ x49 then (if x49 < (x47.length : Int) then (if 0 ≤ (rd x47 x49) then (if (rd x47 x49) < (x7.length : Int) then (if (rdOf false x7 (rd x47 x49) = true) then (graph_reach.l1 k x0 x2 x7 x8 x47 x48 (wrap64 (x49 + 1))) else (if (rd x47 x49) = x2 then (graph_reach.l1 k x0 x2 x7 x8 x47 x48 (wrap64 (x49 + 1))) else (if x8.length < 17592186044416 then (graph_reach.l1 k x0 x2 (x7.set ((rd x47 x49) : Int).toNat true) (x8 ++ [rd x47 x49]) x47 x48 (wrap64 (x49 + 1))) else (none)))) else (none)) else (none)) else (none)) else (none)) else (graph_reach.l0 k x0 x2 x7 x8)
end
def graph_reach.f (k : Nat) (l0 : List (List Int)) (a1 : Int) (a2 : Int) : Option (List Bool) := if 0 ≤ (l0.length : Int) then (if ((l0.length : Int) : Int).toNat ≤ 281474976710656 then ((some (List.replicate ((l0.length : Int) : Int).toNat false : List Bool)).bind fun y193 => (if a1 ≥ (l0.length : Int) then (graph_reach.j0 k l0 a1 a2 y193 true) else (graph_reach.j0 k l0 a1 a2 y193 (a1 == a2)))) else (none)) else (none)
theorem graph_reach.mono_l : ∀ k, (∀ y0 y1 y2 y3 y4, LeO (graph_reach.j0 k y0 y1 y2 y3 y4) (graph_reach.j0 (k + 1) y0 y1 y2 y3 y4)) ∧ (∀ y0 y1 y2 y3, LeO (graph_reach.l0 k y0 y1 y2 y3) (graph_reach.l0 (k + 1) y0 y1 y2 y3)) ∧ (∀ y0 y1 y2 y3 y4 y5 y6, LeO (graph_reach.l1 k y0 y1 y2 y3 y4 y5 y6) (graph_reach.l1 (k + 1) y0 y1 y2 y3 y4 y5 y6))
  | 0 => ⟨fun _ _ _ _ _ r h => by simp [graph_reach.j0] at h, fun _ _ _ _ r h => by simp [graph_reach.l0] at h, fun _ _ _ _ _ _ _ r h => by simp [graph_reach.l1] at h⟩
  | k + 1 => by
    obtain ⟨ih0, ih1, ih2⟩ := graph_reach.mono_l k
    refine ⟨?_, ?_, ?_⟩
    · intro y0 y1 y2 y3 y4
      unfold graph_reach.j0
      repeat' first
      | (with_reducible exact ih0 _ _ _ _ _)
      | (with_reducible exact ih1 _ _ _ _)
      | (with_reducible exact ih2 _ _ _ _ _ _ _)
      | (with_reducible exact LeO.refl _)
      | (with_reducible exact LeO.none _)
      | (with_reducible refine LeO.ite ?_ ?_)
      | (with_reducible refine LeO.bind ?_ (fun _ => ?_))
      | exact ih0 _ _ _ _ _
      | exact ih1 _ _ _ _
      | exact ih2 _ _ _ _ _ _ _
      | exact LeO.none _
      | refine LeO.ite ?_ ?_
      | refine LeO.bind ?_ (fun _ => ?_)
    · intro y0 y1 y2 y3
      unfold graph_reach.l0
      repeat' first
      | (with_reducible exact ih0 _ _ _ _ _)
      | (with_reducible exact ih1 _ _ _ _)
      | (with_reducible exact ih2 _ _ _ _ _ _ _)
      | (with_reducible exact LeO.refl _)
      | (with_reducible exact LeO.none _)
      | (with_reducible refine LeO.ite ?_ ?_)
      | (with_reducible refine LeO.bind ?_ (fun _ => ?_))
      | exact ih0 _ _ _ _ _
      | exact ih1 _ _ _ _
      | exact ih2 _ _ _ _ _ _ _
      | exact LeO.none _
      | refine LeO.ite ?_ ?_
      | refine LeO.bind ?_ (fun _ => ?_)
    · intro y0 y1 y2 y3 y4 y5 y6
      unfold graph_reach.l1
      repeat' first
      | (with_reducible exact ih0 _ _ _ _ _)
      | (with_reducible exact ih1 _ _ _ _)
      | (with_reducible exact ih2 _ _ _ _ _ _ _)
      | (with_reducible exact LeO.refl _)
      | (with_reducible exact LeO.none _)
      | (with_reducible refine LeO.ite ?_ ?_)
      | (with_reducible refine LeO.bind ?_ (fun _ => ?_))
      | exact ih0 _ _ _ _ _
      | exact ih1 _ _ _ _
      | exact ih2 _ _ _ _ _ _ _
      | exact LeO.none _
      | refine LeO.ite ?_ ?_
      | refine LeO.bind ?_ (fun _ => ?_)
theorem graph_reach.mono : ∀ a0 a1 a2 k, LeO (graph_reach.f k a0 a1 a2) (graph_reach.f (k + 1) a0 a1 a2) := by
  intro a0 a1 a2 k
  obtain ⟨ih0, ih1, ih2⟩ := graph_reach.mono_l k
  unfold graph_reach.f
  repeat' first
      | (with_reducible exact ih0 _ _ _ _ _)
      | (with_reducible exact ih1 _ _ _ _)
      | (with_reducible exact ih2 _ _ _ _ _ _ _)
      | (with_reducible exact LeO.refl _)
      | (with_reducible exact LeO.none _)
      | (with_reducible refine LeO.ite ?_ ?_)
      | (with_reducible refine LeO.bind ?_ (fun _ => ?_))
      | exact ih0 _ _ _ _ _
      | exact ih1 _ _ _ _
      | exact ih2 _ _ _ _ _ _ _
      | exact LeO.none _
      | refine LeO.ite ?_ ?_
      | refine LeO.bind ?_ (fun _ => ?_)
set_option maxHeartbeats 8000000 in
set_option maxRecDepth 100000 in
theorem graph_reach.calls (k : Nat) (A0 : Option Addr) (c0 : Nat) (l0 : List (List Int)) (a1 : Int) (a2 : Int) (r : List Bool) (w : World) (hr0 : Kd.C (Kd.slice 3 (Kd.int .i64)) w A0 l0.length l0) (hc0 : l0.length ≤ c0) (h : graph_reach.f k l0 a1 a2 = some r) :
    Calls Try.prog 30 #[.slice A0 l0.length c0, .int .i64 a1, .int .i64 a2] w fun e w' => ∃ v0_ : Value, e = .returned (v0_) ∧ Kd.R Kd.bool 4 w' w.heap.size (fun _ => True) v0_ r ∧ Below w.heap.size w w' := by
  have HR0 := Aside0.mk hr0
  have HC0 := Aside0.mk hc0
  clear hr0 hc0
  have HJ5 := Aside0.mk (Nat.le_refl k)
  have H0 := Aside0.mk h
  clear h
  go_enter Try.func30, Try.ntmps30
  go_wp2
  refine wp_scope_ghost 0 rfl (fun n a' w' => ∃ (x7 : List Bool) (x8 : List Int) (go13 co13 : Nat) (v8 : Value) (u : Nat → Value), Aside0 (graph_reach.l0 n l0 a2 x7 x8 = some r) ∧ Aside0 (n ≤ k) ∧ Aside0 (w.heap.size ≤ go13) ∧ Aside0 (Kd.R Kd.bool 4 w' w.heap.size (fun _ => True) (.slice (some ⟨go13, 0, none⟩) x7.length co13) x7) ∧ Aside0 (Kd.R (Kd.int .i64) 3 w' w.heap.size (fun _ => True) v8 x8) ∧ Aside0 (Below w.heap.size w w') ∧ a' = { tmps := #[.slice A0 l0.length c0, .int .i64 a1, .int .i64 a2, u 0, u 1, u 2, u 3, .slice (some ⟨go13, 0, none⟩) x7.length co13, v8, u 4, u 5, u 6, u 7, u 8, u 9, u 10, u 11, u 12, u 13, u 14, u 15, u 16, u 17, u 18, u 19, u 20, u 21, u 22, u 23, u 24, u 25, u 26, u 27, u 28, u 29, u 30, u 31, u 32, u 33, u 34, u 35, u 36, u 37, u 38, u 39, u 40, u 41, u 42, u 43, u 44, u 45, u 46, u 47, u 48, u 49, u 50, u 51, u 52, u 53, u 54, u 55, u 56, u 57, u 58, u 59, u 60, u 61, u 62, u 63, u 64, u 65, u 66], defers := [] }) ?_ ?_
  · rintro n _ wr ⟨x7_2, x8_2, go13, co13, v8, u, HA, HK2, GB13, HO_7, HO_8, HB, rfl⟩ J K hJ hK
    cases n with
    | zero => exact absurd HA.out (by simp [graph_reach.l0])
    | succ k2 =>
      have H := HA.out
      clear HA
      simp only [graph_reach.l0] at H
      by_cases c18 : (x8_2.length : Int) > 0
      · rw [if_pos c18] at H
        have c18b0 : decide (0 < (x8_2.length : Int)) = true := decide_eq_true c18
        have c18b1 : decide (0 < x8_2.length) = true := decide_eq_true (by omega)
        have c18b2 : ((x8_2.length : Int) == 0) = false := beq_eq_false_iff_ne.mpr (by omega)
        clear c18
        obtain ⟨ji19, hji19⟩ : ∃ j_ : Int, (wrap64 ((x8_2.length : Int) - 1)) = j_ := ⟨_, rfl⟩
        replace H : (if 0 ≤ (ji19) then (if (ji19) < (x8_2.length : Int) then (if (ji19) ≤ (x8_2.length : Int) then (if 0 ≤ (rd x8_2 (ji19)) then (if (rd x8_2 (ji19)) < (l0.length : Int) then (graph_reach.l1 k2 l0 a2 x7_2 (x8_2.take ((ji19) : Int).toNat) (rd_L7 l0 (rd x8_2 (ji19))) ((rd_L7 l0 (rd x8_2 (ji19))).length : Int) 0) else (none)) else (none)) else (none)) else (none)) else (none)) = some r := by first | (rw [hji19] at H; exact H) | (simp only [hji19] at H ⊢; exact H)
        have hji19w : (IntKind.i64.wrap ((x8_2.length : Int) - 1)) = ji19 := (i64_w _).trans hji19
        by_cases c20 : 0 ≤ (ji19)
        · rw [if_pos c20] at H
          have c20b0 : decide (0 ≤ (ji19)) = true := decide_eq_true c20
          clear c20
          by_cases c21 : (ji19) < (x8_2.length : Int)
          · rw [if_pos c21] at H
            have c21b0 : decide ((ji19) < (x8_2.length : Int)) = true := decide_eq_true c21
            clear c21
            by_cases c22 : (ji19) ≤ (x8_2.length : Int)
            · rw [if_pos c22] at H
              have c22b0 := eq_true c22
              have c22b1 : decide ((ji19) ≤ (x8_2.length : Int)) = true := decide_eq_true c22
              clear c22
              obtain ⟨y201, hy201⟩ : ∃ y_ : List Int, y_ = (x8_2.take ((ji19) : Int).toNat) := ⟨_, rfl⟩
              replace H : (if 0 ≤ (rd x8_2 (ji19)) then (if (rd x8_2 (ji19)) < (l0.length : Int) then (graph_reach.l1 k2 l0 a2 x7_2 y201 (rd_L7 l0 (rd x8_2 (ji19))) ((rd_L7 l0 (rd x8_2 (ji19))).length : Int) 0) else (none)) else (none)) = some r := by first | (rw [hy201]; with_reducible exact H) | (have H2_ := (Option.bind_some _ _).symm.trans H; rw [hy201]; with_reducible exact H2_) | (have H2_ := (Option.bind_some _ _).symm.trans H; with_reducible exact H2_) | with_reducible exact H | (rw [hy201]; exact H) | exact H
              have Ny201 := Aside0.mk hy201
              clear hy201
              by_cases c23 : 0 ≤ (rd x8_2 (ji19))
              · rw [if_pos c23] at H
                have c23b0 : decide (0 ≤ (rd x8_2 (ji19))) = true := decide_eq_true c23
                clear c23
                by_cases c24 : (rd x8_2 (ji19)) < (l0.length : Int)
                · rw [if_pos c24] at H
                  have c24b0 : decide ((rd x8_2 (ji19)) < (l0.length : Int)) = true := decide_eq_true c24
                  clear c24
                  have H' := Aside0.mk H
                  clear H
                  obtain ⟨Ao25, co25, eo25⟩ := Kd.R_slice HO_8.out
                  subst eo25
                  have p200 : 0 ≤ ((ji19) : Int) := of_decide_eq_true (by first | (with_reducible assumption) | assumption)
                  have q200 : (ji19) < (x8_2.length : Int) := of_decide_eq_true (by first | (with_reducible assumption) | assumption)
                  obtain ⟨ad200, e200, hx200_0⟩ := Kd.at_int (Kd.R_reads' HO_8.out).2.2 (ji19) p200 q200
                  cases e200
                  replace p200 := eq_true p200
                  replace q200 := eq_true q200
                  have q26 : ((ji19) : Int) ≤ ((x8_2.length : Int) : Int) := of_decide_eq_true (by first | (with_reducible assumption) | assumption)
                  obtain ⟨i026, hi026, _, hsz26, _⟩ := info_parts info3
                  have hcut26 := cut_to (P := Try.prog) 30 3 .i64 Try.underlying30 hi026 (some ad200) x8_2.length co25 (ji19) (of_decide_eq_true (by first | (with_reducible assumption) | assumption)) q26 (Kd.R_reads' HO_8.out).2.1
                  have hr26 := Kd.R_take (m := ((ji19) : Int).toNat) HO_8.out (by omega)
                  have hy26 : y201.length = ((ji19) : Int).toNat := (by rw [Ny201.out, List.length_take]; omega)
                  rw [← Ny201.out] at hr26
                  rw [← hy26] at hr26 hcut26
                  clear hy26 hi026 hsz26 HO_8
                  have HO203 := Aside0.mk hr26
                  clear hr26
                  replace q26 := eq_true q26
                  have p204 : 0 ≤ ((rd x8_2 (ji19)) : Int) := of_decide_eq_true (by first | (with_reducible assumption) | assumption)
                  have q204 : (rd x8_2 (ji19)) < (l0.length : Int) := of_decide_eq_true (by first | (with_reducible assumption) | assumption)
                  obtain ⟨ad204, A204_0, c204_0, e204, hx204_0, hl204_0, hi204_0⟩ := at_L7 HR0.out (rd x8_2 (ji19)) p204 q204
                  cases e204
                  replace hx204_0 := (HB.out.cell (World.block_lt_of_cell? w _ hx204_0)).trans hx204_0
                  have HR204_0 := Aside0.mk hi204_0
                  have HC204_0 := Aside0.mk hl204_0
                  clear hi204_0 hl204_0
                  replace p204 := eq_true p204
                  replace q204 := eq_true q204
                  go_wp2
                  go_loopg [8, 50] k2 (fun kq v8 v50 w' => ∃ (x7_3 : List Bool) (x8_3 : List Int) (x49_3 : Int), v50 = .int .i64 x49_3 ∧ Aside0 (graph_reach.l1 kq l0 a2 x7_3 x8_3 (rd_L7 l0 (rd x8_2 (ji19))) ((rd_L7 l0 (rd x8_2 (ji19))).length : Int) x49_3 = some r) ∧ Aside0 (kq ≤ k2) ∧ Aside0 (Kd.R Kd.bool 4 w' w.heap.size (fun _ => True) (.slice (some ⟨go13, 0, none⟩) x7_2.length co13) x7_3) ∧ Aside0 (Kd.R (Kd.int .i64) 3 w' w.heap.size (fun _ => True) v8 x8_3) ∧ Aside0 (Below w.heap.size w w'))
                  case atStart => exact ⟨(x7_2), (y201), (0), (by first | rfl | (simp; done) | (simp [*]; done)), H', ⟨Nat.le_refl _⟩, ⟨by (with_reducible repeat (first | apply Kd.R_alloc | apply Kd.R_drewN | apply Kd.R_drew)); exact HO_7.out⟩, ⟨by (with_reducible repeat (first | apply Kd.R_alloc | apply Kd.R_drewN | apply Kd.R_drew)); exact HO203.out⟩, ⟨by repeat (first | (with_reducible first | exact HB.out | apply below_alloc | apply pw_below_drewN | apply below_drew1) | exact HB.out)⟩⟩
                  case round =>
                    clear H'
                    obtain ⟨x7_3, x8_3, x49_3, rfl, HA, HK3, HO_7, HO_8, HB⟩ := hrel
                    have hl7_3 := (Kd.R_reads' HO_7.out).1
                    rw [hl7_3] at HO_7
                    (try simp only [hl7_3])
                    (try simp only [hl7_3] at HO_8)
                    cases gk with
                    | zero => exact absurd HA.out (by simp [graph_reach.l1])
                    | succ k3 =>
                      have H := HA.out
                      clear HA
                      simp only [graph_reach.l1] at H
                      by_cases c27 : x49_3 < ((rd_L7 l0 (rd x8_2 (ji19))).length : Int)
                      · rw [if_pos c27] at H
                        have c27b0 : decide (x49_3 < ((rd_L7 l0 (rd x8_2 (ji19))).length : Int)) = true := decide_eq_true c27
                        clear c27
                        by_cases c28 : 0 ≤ x49_3
                        · rw [if_pos c28] at H
                          have c28b0 : decide (0 ≤ x49_3) = true := decide_eq_true c28
                          clear c28
                          by_cases c29 : x49_3 < ((rd_L7 l0 (rd x8_2 (ji19))).length : Int)
                          · rw [if_pos c29] at H
                            have c29b0 : decide (x49_3 < ((rd_L7 l0 (rd x8_2 (ji19))).length : Int)) = true := decide_eq_true c29
                            clear c29
                            by_cases c30 : 0 ≤ (rd (rd_L7 l0 (rd x8_2 (ji19))) x49_3)
                            · rw [if_pos c30] at H
                              have c30b0 : decide (0 ≤ (rd (rd_L7 l0 (rd x8_2 (ji19))) x49_3)) = true := decide_eq_true c30
                              clear c30
                              by_cases c31 : (rd (rd_L7 l0 (rd x8_2 (ji19))) x49_3) < (x7_3.length : Int)
                              · rw [if_pos c31] at H
                                have c31b0 : decide ((rd (rd_L7 l0 (rd x8_2 (ji19))) x49_3) < (x7_3.length : Int)) = true := decide_eq_true c31
                                clear c31
                                obtain ⟨bq32, hbq32⟩ : ∃ b_ : Bool, b_ = (rdOf false x7_3 (rd (rd_L7 l0 (rd x8_2 (ji19))) x49_3)) := ⟨_, rfl⟩
                                replace H : (if (bq32 = true) then (graph_reach.l1 k3 l0 a2 x7_3 x8_3 (rd_L7 l0 (rd x8_2 (ji19))) ((rd_L7 l0 (rd x8_2 (ji19))).length : Int) (wrap64 (x49_3 + 1))) else (if (rd (rd_L7 l0 (rd x8_2 (ji19))) x49_3) = a2 then (graph_reach.l1 k3 l0 a2 x7_3 x8_3 (rd_L7 l0 (rd x8_2 (ji19))) ((rd_L7 l0 (rd x8_2 (ji19))).length : Int) (wrap64 (x49_3 + 1))) else (if x8_3.length < 17592186044416 then (graph_reach.l1 k3 l0 a2 (x7_3.set ((rd (rd_L7 l0 (rd x8_2 (ji19))) x49_3) : Int).toNat true) (x8_3 ++ [rd (rd_L7 l0 (rd x8_2 (ji19))) x49_3]) (rd_L7 l0 (rd x8_2 (ji19))) ((rd_L7 l0 (rd x8_2 (ji19))).length : Int) (wrap64 (x49_3 + 1))) else (none)))) = some r := by rw [← hbq32] at H; exact H
                                have Nbq32 := Aside0.mk hbq32
                                clear hbq32
                                by_cases c33 : (bq32 = true)
                                · subst c33
                                  have H1 : (graph_reach.l1 k3 l0 a2 x7_3 x8_3 (rd_L7 l0 (rd x8_2 (ji19))) ((rd_L7 l0 (rd x8_2 (ji19))).length : Int) (wrap64 (x49_3 + 1))) = some r := by rw [if_pos rfl] at H; exact H
                                  clear H
                                  have H := H1
                                  clear H1
                                  have H' := Aside0.mk H
                                  clear H
                                  have p205 : 0 ≤ (x49_3 : Int) := of_decide_eq_true (by first | (with_reducible assumption) | assumption)
                                  have q205 : x49_3 < ((rd_L7 l0 (rd x8_2 (ji19))).length : Int) := of_decide_eq_true (by first | (with_reducible assumption) | assumption)
                                  obtain ⟨ad205, e205, hx205_0⟩ := Kd.at_int HR204_0.out x49_3 p205 q205
                                  cases e205
                                  replace hx205_0 := (HB.out.cell (World.block_lt_of_cell? w _ hx205_0)).trans hx205_0
                                  replace p205 := eq_true p205
                                  replace q205 := eq_true q205
                                  have p206 : 0 ≤ ((rd (rd_L7 l0 (rd x8_2 (ji19))) x49_3) : Int) := of_decide_eq_true (by first | (with_reducible assumption) | assumption)
                                  have q206 : (rd (rd_L7 l0 (rd x8_2 (ji19))) x49_3) < (x7_3.length : Int) := of_decide_eq_true (by first | (with_reducible assumption) | assumption)
                                  obtain ⟨ad206, e206, hx206_0⟩ := Kd.at_bool (Kd.R_reads' HO_7.out).2.2 (rd (rd_L7 l0 (rd x8_2 (ji19))) x49_3) p206 q206
                                  (try rw [← Nbq32.out] at hx206_0)
                                  obtain rfl : (⟨go13, 0, none⟩ : Addr) = ad206 := (by injection e206)
                                  (first | simp only [add_plain] at hx206_0 | simp only [add_at] at hx206_0 | simp only [Addr.add, Nat.zero_add] at hx206_0 | skip)
                                  replace p206 := eq_true p206
                                  replace q206 := eq_true q206
                                  go_wp2
                                  (try simp only [← hl7_3])
                                  go_roundg k3
                                  case measure => have := HJ5.out; have := HK2.out; have := HK3.out; omega
                                  case rel => exact ⟨(x7_3), (x8_3), (wrap64 (x49_3 + 1)), (by first | rfl | (simp; done) | (simp [*]; done)), H', ⟨by have := HJ5.out; have := HK2.out; have := HK3.out; omega⟩, ⟨by (try simp only [hl7_3]); (with_reducible repeat (first | apply Kd.R_alloc | apply Kd.R_drewN | apply Kd.R_drew)); exact HO_7.out⟩, ⟨by (try simp only [hl7_3]); (with_reducible repeat (first | apply Kd.R_alloc | apply Kd.R_drewN | apply Kd.R_drew)); exact HO_8.out⟩, ⟨by repeat (first | (with_reducible first | exact HB.out | apply below_alloc | apply pw_below_drewN | apply below_drew1) | exact HB.out)⟩⟩
                                · replace c33 := Bool.eq_false_iff.mpr c33
                                  subst c33
                                  have H1 : (if (rd (rd_L7 l0 (rd x8_2 (ji19))) x49_3) = a2 then (graph_reach.l1 k3 l0 a2 x7_3 x8_3 (rd_L7 l0 (rd x8_2 (ji19))) ((rd_L7 l0 (rd x8_2 (ji19))).length : Int) (wrap64 (x49_3 + 1))) else (if x8_3.length < 17592186044416 then (graph_reach.l1 k3 l0 a2 (x7_3.set ((rd (rd_L7 l0 (rd x8_2 (ji19))) x49_3) : Int).toNat true) (x8_3 ++ [rd (rd_L7 l0 (rd x8_2 (ji19))) x49_3]) (rd_L7 l0 (rd x8_2 (ji19))) ((rd_L7 l0 (rd x8_2 (ji19))).length : Int) (wrap64 (x49_3 + 1))) else (none))) = some r := by rw [if_neg (show ¬ (false = true) by decide)] at H; exact H
                                  clear H
                                  have H := H1
                                  clear H1
                                  by_cases c34 : (rd (rd_L7 l0 (rd x8_2 (ji19))) x49_3) = a2
                                  · rw [if_pos c34] at H
                                    have c34b0 : ((rd (rd_L7 l0 (rd x8_2 (ji19))) x49_3) == a2) = true := beq_iff_eq.mpr c34
                                    have c34b1 : ((rd (rd_L7 l0 (rd x8_2 (ji19))) x49_3) != a2) = false := bne_eq_false_iff_eq.mpr c34
                                    clear c34
                                    have H' := Aside0.mk H
                                    clear H
                                    have p205 : 0 ≤ (x49_3 : Int) := of_decide_eq_true (by first | (with_reducible assumption) | assumption)
                                    have q205 : x49_3 < ((rd_L7 l0 (rd x8_2 (ji19))).length : Int) := of_decide_eq_true (by first | (with_reducible assumption) | assumption)
                                    obtain ⟨ad205, e205, hx205_0⟩ := Kd.at_int HR204_0.out x49_3 p205 q205
                                    cases e205
                                    replace hx205_0 := (HB.out.cell (World.block_lt_of_cell? w _ hx205_0)).trans hx205_0
                                    replace p205 := eq_true p205
                                    replace q205 := eq_true q205
                                    have p206 : 0 ≤ ((rd (rd_L7 l0 (rd x8_2 (ji19))) x49_3) : Int) := of_decide_eq_true (by first | (with_reducible assumption) | assumption)
                                    have q206 : (rd (rd_L7 l0 (rd x8_2 (ji19))) x49_3) < (x7_3.length : Int) := of_decide_eq_true (by first | (with_reducible assumption) | assumption)
                                    obtain ⟨ad206, e206, hx206_0⟩ := Kd.at_bool (Kd.R_reads' HO_7.out).2.2 (rd (rd_L7 l0 (rd x8_2 (ji19))) x49_3) p206 q206
                                    (try rw [← Nbq32.out] at hx206_0)
                                    obtain rfl : (⟨go13, 0, none⟩ : Addr) = ad206 := (by injection e206)
                                    (first | simp only [add_plain] at hx206_0 | simp only [add_at] at hx206_0 | simp only [Addr.add, Nat.zero_add] at hx206_0 | skip)
                                    replace p206 := eq_true p206
                                    replace q206 := eq_true q206
                                    go_wp2
                                    (try simp only [← hl7_3])
                                    go_roundg k3
                                    case measure => have := HJ5.out; have := HK2.out; have := HK3.out; omega
                                    case rel => exact ⟨(x7_3), (x8_3), (wrap64 (x49_3 + 1)), (by first | rfl | (simp; done) | (simp [*]; done)), H', ⟨by have := HJ5.out; have := HK2.out; have := HK3.out; omega⟩, ⟨by (try simp only [hl7_3]); (with_reducible repeat (first | apply Kd.R_alloc | apply Kd.R_drewN | apply Kd.R_drew)); exact HO_7.out⟩, ⟨by (try simp only [hl7_3]); (with_reducible repeat (first | apply Kd.R_alloc | apply Kd.R_drewN | apply Kd.R_drew)); exact HO_8.out⟩, ⟨by repeat (first | (with_reducible first | exact HB.out | apply below_alloc | apply pw_below_drewN | apply below_drew1) | exact HB.out)⟩⟩
                                  · rw [if_neg c34] at H
                                    have c34b0 : ((rd (rd_L7 l0 (rd x8_2 (ji19))) x49_3) == a2) = false := beq_eq_false_iff_ne.mpr c34
                                    have c34b1 : ((rd (rd_L7 l0 (rd x8_2 (ji19))) x49_3) != a2) = true := bne_iff_ne.mpr c34
                                    obtain ⟨y207, hy207⟩ : ∃ y_ : List Bool, y_ = (x7_3.set ((rd (rd_L7 l0 (rd x8_2 (ji19))) x49_3) : Int).toNat true) := ⟨_, rfl⟩
                                    replace H : (if x8_3.length < 17592186044416 then (graph_reach.l1 k3 l0 a2 y207 (x8_3 ++ [rd (rd_L7 l0 (rd x8_2 (ji19))) x49_3]) (rd_L7 l0 (rd x8_2 (ji19))) ((rd_L7 l0 (rd x8_2 (ji19))).length : Int) (wrap64 (x49_3 + 1))) else (none)) = some r := by first | (rw [hy207]; with_reducible exact H) | (have H2_ := (Option.bind_some _ _).symm.trans H; rw [hy207]; with_reducible exact H2_) | (have H2_ := (Option.bind_some _ _).symm.trans H; with_reducible exact H2_) | with_reducible exact H | (rw [hy207]; exact H) | exact H
                                    have Ny207 := Aside0.mk hy207
                                    clear hy207
                                    by_cases c36 : x8_3.length < 17592186044416
                                    · rw [if_pos c36] at H
                                      have LMc36 := Aside0.mk c36
                                      clear c36
                                      obtain ⟨y208, hy208⟩ : ∃ y_ : List Int, y_ = (x8_3 ++ [rd (rd_L7 l0 (rd x8_2 (ji19))) x49_3]) := ⟨_, rfl⟩
                                      replace H : (graph_reach.l1 k3 l0 a2 y207 y208 (rd_L7 l0 (rd x8_2 (ji19))) ((rd_L7 l0 (rd x8_2 (ji19))).length : Int) (wrap64 (x49_3 + 1))) = some r := by first | (rw [hy208]; with_reducible exact H) | (have H2_ := (Option.bind_some _ _).symm.trans H; rw [hy208]; with_reducible exact H2_) | (have H2_ := (Option.bind_some _ _).symm.trans H; with_reducible exact H2_) | with_reducible exact H | (rw [hy208]; exact H) | exact H
                                      have Ny208 := Aside0.mk hy208
                                      clear hy208
                                      have H' := Aside0.mk H
                                      clear H
                                      have p205 : 0 ≤ (x49_3 : Int) := of_decide_eq_true (by first | (with_reducible assumption) | assumption)
                                      have q205 : x49_3 < ((rd_L7 l0 (rd x8_2 (ji19))).length : Int) := of_decide_eq_true (by first | (with_reducible assumption) | assumption)
                                      obtain ⟨ad205, e205, hx205_0⟩ := Kd.at_int HR204_0.out x49_3 p205 q205
                                      cases e205
                                      replace hx205_0 := (HB.out.cell (World.block_lt_of_cell? w _ hx205_0)).trans hx205_0
                                      replace p205 := eq_true p205
                                      replace q205 := eq_true q205
                                      have p206 : 0 ≤ ((rd (rd_L7 l0 (rd x8_2 (ji19))) x49_3) : Int) := of_decide_eq_true (by first | (with_reducible assumption) | assumption)
                                      have q206 : (rd (rd_L7 l0 (rd x8_2 (ji19))) x49_3) < (x7_3.length : Int) := of_decide_eq_true (by first | (with_reducible assumption) | assumption)
                                      obtain ⟨ad206, e206, hx206_0⟩ := Kd.at_bool (Kd.R_reads' HO_7.out).2.2 (rd (rd_L7 l0 (rd x8_2 (ji19))) x49_3) p206 q206
                                      (try rw [← Nbq32.out] at hx206_0)
                                      obtain rfl : (⟨go13, 0, none⟩ : Addr) = ad206 := (by injection e206)
                                      (first | simp only [add_plain] at hx206_0 | simp only [add_at] at hx206_0 | simp only [Addr.add, Nat.zero_add] at hx206_0 | skip)
                                      replace p206 := eq_true p206
                                      replace q206 := eq_true q206
                                      have p35 : 0 ≤ ((rd (rd_L7 l0 (rd x8_2 (ji19))) x49_3) : Int) := of_decide_eq_true (by first | (with_reducible assumption) | assumption)
                                      have q35 : ((rd (rd_L7 l0 (rd x8_2 (ji19))) x49_3) : Int) < ((x7_3.length : Int) : Int) := of_decide_eq_true (by first | (with_reducible assumption) | assumption)
                                      obtain ⟨hx35_0, hf35_0⟩ := Kd.R_celln false HO_7.out ((rd (rd_L7 l0 (rd x8_2 (ji19))) x49_3) : Int) p35 q35
                                      replace p35 := eq_true p35
                                      replace q35 := eq_true q35
                                      have HP37 := Kd.R_putg HO_7.out ((rd (rd_L7 l0 (rd x8_2 (ji19))) x49_3) : Int) true
                                      go_wp2_with (first | ((with_reducible refine gate_store (t := 4) (p := 66) rfl ?_); refine store_event (t := 4) (p := 66) (v := ?vo_w38) (w1 := (wr.setCell ⟨go13, ((rd (rd_L7 l0 (rd x8_2 (ji19))) x49_3) : Int).toNat, none⟩ (.bool true))) ?hg ?ho ?hn ?hr ?_; (case ho => rfl); (case hg => rfl); (case hn => rfl); (case hr => first | (go_simp; done) | (go_simp; rfl)); intro w38 hw; have hg : wr.grownBy w38 (some go13) := (by rw [hw]; exact HP37.2); have hp_ : Kd.R Kd.bool 4 w38 w.heap.size (fun _ => True) (.slice (some ⟨go13, 0, none⟩) x7_3.length co13) y207 := (by rw [hw, Ny207.out]; exact HP37.1); clear HP37; have n0_ := Aside0.mk (hp_); have n1_ := Aside0.mk (Kd.R_over' (v := (.slice (some ⟨go13, 0, none⟩) x7_3.length co13)) (by (with_reducible repeat (first | apply Kd.R_alloc | apply Kd.R_drewN | apply Kd.R_drew)); exact HO_8.out) (Kd.R_typed HO_7.out) (by decide) hg); have n2_ := Aside0.mk ((by rw [hw]; exact below_set (HB.out) GB13.out : Below w.heap.size w w38)); clear HO_7; clear HO_8; clear HB; have HO_7 := n0_; have HO_8 := n1_; have HB := n2_; clear n0_ n1_ n2_; clear hg hw hp_) | ((with_reducible refine gate_builtin (b := .append) (xs := #[.tmp 67, .tmp 69]) rfl ?_); at_builtin; refine Kd.R_append (Kd.int .i64) (w0 := w) w.heap.size rfl (.tmp 67) (.tmp 69) 30 3 (.int .i64 0) 8 rfl Try.underlying30 info3 rfl (by decide) (by omega) u8 x8_3 (rd (rd_L7 l0 (rd x8_2 (ji19))) x49_3) [.int .i64 (rd (rd_L7 l0 (rd x8_2 (ji19))) x49_3)] (fun _ => True) (fun _ => False) rfl rfl ?aP (fun _ hk => hk.elim) ?aF ?aO ?aB ?aS ?aL ?_; (case aP => exact rfl); (case aB => exact (by repeat (first | (with_reducible first | exact HB.out | apply below_alloc | apply pw_below_drewN | apply below_drew1) | exact HB.out))); (case aF => exact (fun _ _ => trivial)); (case aO => exact (by (with_reducible repeat (first | apply Kd.R_alloc | apply Kd.R_drewN | apply Kd.R_drew)); exact HO_8.out)); (case aS => exact (below_size (by repeat (first | (with_reducible first | exact HB.out | apply below_alloc | apply pw_below_drewN | apply below_drew1) | exact HB.out)))); (case aL => have := LMc36.out; omega); intro v209 w39 ho hb hg hat; rw [← Ny208.out] at ho; have n0_ := Aside0.mk (Kd.R_over' (by (with_reducible repeat (first | apply Kd.R_alloc | apply Kd.R_drewN | apply Kd.R_drew)); exact HO_7.out) (Kd.R_typed (by (with_reducible repeat (first | apply Kd.R_alloc | apply Kd.R_drewN | apply Kd.R_drew)); exact HO_8.out)) (by decide) hg); have n1_ := Aside0.mk (hb); have n2_ := Aside0.mk (ho); clear HO_7; clear HB; clear HO_8; have HO_7 := n0_; have HB := n1_; have HO210 := n2_; clear n0_ n1_ n2_; clear ho hb hg hat))
                                      (try simp only [← hl7_3])
                                      go_roundg k3
                                      case measure => have := HJ5.out; have := HK2.out; have := HK3.out; omega
                                      case rel => exact ⟨(y207), (y208), (wrap64 (x49_3 + 1)), (by first | rfl | (simp; done) | (simp [*]; done)), H', ⟨by have := HJ5.out; have := HK2.out; have := HK3.out; omega⟩, ⟨by (try simp only [hl7_3]); (with_reducible repeat (first | apply Kd.R_alloc | apply Kd.R_drewN | apply Kd.R_drew)); exact HO_7.out⟩, ⟨by (try simp only [hl7_3]); (with_reducible repeat (first | apply Kd.R_alloc | apply Kd.R_drewN | apply Kd.R_drew)); exact HO210.out⟩, ⟨by repeat (first | (with_reducible first | exact HB.out | apply below_alloc | apply pw_below_drewN | apply below_drew1) | exact HB.out)⟩⟩
                                    · rw [if_neg c36] at H
                                      exact absurd H (by simp)
                              · rw [if_neg c31] at H
                                exact absurd H (by simp)
                            · rw [if_neg c30] at H
                              exact absurd H (by simp)
                          · rw [if_neg c29] at H
                            exact absurd H (by simp)
                        · rw [if_neg c28] at H
                          exact absurd H (by simp)
                      · rw [if_neg c27] at H
                        have c27b0 : decide (x49_3 < ((rd_L7 l0 (rd x8_2 (ji19))).length : Int)) = false := decide_eq_false c27
                        clear c27
                        have H' := Aside0.mk H
                        clear H
                        go_wp2
                        go_step3
                        exact ⟨rfl, hK _ _ (Handed.intro k3 (by have := HJ5.out; have := HK2.out; have := HK3.out; omega) (hJ _ _ _ ⟨x7_3, x8_3, go13, co13, _, pickV [_, _, _, _, _, _, _, _, _, _, _, _, _, _, _, _, _, _, _, _, _, _, _, _, _, _, _, _, _, _, _, _, _, _, _, _, _, _, _, _, _, _, _, _, _, _, _, _, _, _, _, _, _, _, _, _, _, _, _, _, _, _, _, _, _, _, _], H', ⟨by have := HJ5.out; have := HK2.out; have := HK3.out; omega⟩, GB13, HO_7, HO_8, HB, rfl⟩))⟩
                · rw [if_neg c24] at H
                  exact absurd H (by simp)
              · rw [if_neg c23] at H
                exact absurd H (by simp)
            · rw [if_neg c22] at H
              exact absurd H (by simp)
          · rw [if_neg c21] at H
            exact absurd H (by simp)
        · rw [if_neg c20] at H
          exact absurd H (by simp)
      · rw [if_neg c18] at H
        have c18b0 : decide (0 < (x8_2.length : Int)) = false := decide_eq_false c18
        have c18b1 : decide (0 < x8_2.length) = false := decide_eq_false (by omega)
        have c18b2 : ((x8_2.length : Int) == 0) = true := beq_iff_eq.mpr (by omega)
        clear c18
        obtain rfl := Option.some.inj H
        obtain ⟨Ao40, co40, eo40⟩ := Kd.R_slice HO_8.out
        subst eo40
        go_wp2
        (try simp only [Exit.jump])
        go_ret
        exact ⟨_, by first | rfl | (simp [errW_none, errW_some] <;> rfl) | (simp [*, errW_none, errW_some] <;> rfl), by (with_reducible repeat (first | apply Kd.R_alloc | apply Kd.R_drewN | apply Kd.R_drew)); exact HO_7.out, by repeat (first | (with_reducible first | exact HB.out | apply below_alloc | apply pw_below_drewN | apply below_drew1) | exact HB.out)⟩
  · intro L K hL hrest
    have HB := Aside0.mk (Below.refl w.heap.size w)
    have H : (if 0 ≤ (l0.length : Int) then (if ((l0.length : Int) : Int).toNat ≤ 281474976710656 then ((some (List.replicate ((l0.length : Int) : Int).toNat false : List Bool)).bind fun y193 => (if a1 ≥ (l0.length : Int) then (graph_reach.j0 k l0 a1 a2 y193 true) else (graph_reach.j0 k l0 a1 a2 y193 (a1 == a2)))) else (none)) else (none)) = some r := H0.out
    clear H0
    by_cases c4 : 0 ≤ (l0.length : Int)
    · rw [if_pos c4] at H
      have c4b0 := eq_true c4
      have c4b1 : decide (0 ≤ (l0.length : Int)) = true := decide_eq_true c4
      clear c4
      by_cases c5 : ((l0.length : Int) : Int).toNat ≤ 281474976710656
      · rw [if_pos c5] at H
        have c5b0 := eq_true c5
        have c5b1 : decide (((l0.length : Int) : Int).toNat ≤ 281474976710656) = true := decide_eq_true c5
        clear c5
        obtain ⟨y193, hy193⟩ : ∃ y_ : List Bool, y_ = (List.replicate ((l0.length : Int) : Int).toNat false) := ⟨_, rfl⟩
        replace H : (if a1 ≥ (l0.length : Int) then (graph_reach.j0 k l0 a1 a2 y193 true) else (graph_reach.j0 k l0 a1 a2 y193 (a1 == a2))) = some r := by first | (rw [hy193]; with_reducible exact H) | (have H2_ := (Option.bind_some _ _).symm.trans H; rw [hy193]; with_reducible exact H2_) | (have H2_ := (Option.bind_some _ _).symm.trans H; with_reducible exact H2_) | with_reducible exact H | (rw [hy193]; exact H) | exact H
        have Ny193 := Aside0.mk hy193
        clear hy193
        have HC6 := Aside0.mk H
        clear H
        go_upto_region 2 with (first | ((with_reducible refine gate_dst (N := 14) rfl ?_); refine Kd.R_make Kd.bool _ 4 rfl (N := 14) rfl 50 _ _ rfl (l0.length : Int) rfl rfl Try.underlying50 (.bool false) 1 info4 rfl (by decide) (by omega) false (ok := fun _ => True) (okp := fun _ => True) rfl (fun _ hk => hk) trivial (of_decide_eq_true (by first | (with_reducible assumption) | assumption)) (Nat.le_trans (Nat.mul_le_mul_right _ (of_decide_eq_true (by first | (with_reducible assumption) | assumption) : (l0.length : Int).toNat ≤ 281474976710656)) (by omega)) (Below.refl _ _) (Nat.le_refl _) ?_; intro v194 w7 ho8 hb hg_ hnew_; clear hg_ hnew_; (first | rw [← Ny193.out] at ho8 | (simp only [Int.reduceToNat] at ho8; rw [← Ny193.out] at ho8)); have n0_ := Aside0.mk (Kd.R_lower ho8 (below_size (by repeat (first | (with_reducible first | exact HB.out | apply below_alloc | apply pw_below_drewN | apply below_drew1) | exact HB.out)))); have n1_ := Aside0.mk (below_step (by repeat (first | (with_reducible first | exact HB.out | apply below_alloc | apply pw_below_drewN | apply below_drew1) | exact HB.out)) hb); clear HB; have HO195 := n0_; have HB := n1_; clear n0_ n1_; clear hb ho8))
        (try simp only [Act.put, List.setIfInBounds_toArray, List.set_cons_zero, List.set_cons_succ])
        go_cut [23] (fun v23 wc => ∃ (kq : Nat) (x23_5 : Bool), v23 = .bool x23_5 ∧ Aside0 (graph_reach.j0 kq l0 a1 a2 y193 x23_5 = some r) ∧ Aside0 (kq ≤ k) ∧ Aside0 (Kd.R Kd.bool 4 wc w.heap.size (fun _ => True) v194 y193) ∧ Aside0 (Below w.heap.size w wc))
        case first =>
          have H := HC6.out
          clear HC6
          by_cases c9 : a1 ≥ (l0.length : Int)
          · rw [if_pos c9] at H
            have c9b0 : decide ((l0.length : Int) ≤ a1) = true := decide_eq_true c9
            clear c9
            (first | rw [c9b0] | (simp only [i64_w, i32_w]; rw [c9b0]) | skip)
            have H' := Aside0.mk H
            clear H
            go_wp2
            go_meet
            case rel => exact ⟨_, (true), (by first | rfl | (simp; done) | (simp [*]; done)), H', ⟨by first | omega | exact Nat.le_refl _⟩, ⟨by (with_reducible repeat (first | apply Kd.R_alloc | apply Kd.R_drewN | apply Kd.R_drew)); exact HO195.out⟩, ⟨by repeat (first | (with_reducible first | exact HB.out | apply below_alloc | apply pw_below_drewN | apply below_drew1) | exact HB.out)⟩⟩
          · rw [if_neg c9] at H
            have c9b0 : decide ((l0.length : Int) ≤ a1) = false := decide_eq_false c9
            clear c9
            (first | rw [c9b0] | (simp only [i64_w, i32_w]; rw [c9b0]) | skip)
            have H' := Aside0.mk H
            clear H
            go_wp2
            go_meet
            case rel => exact ⟨_, ((a1 == a2)), (by first | rfl | (simp; done) | (simp [*]; done)), H', ⟨by first | omega | exact Nat.le_refl _⟩, ⟨by (with_reducible repeat (first | apply Kd.R_alloc | apply Kd.R_drewN | apply Kd.R_drew)); exact HO195.out⟩, ⟨by repeat (first | (with_reducible first | exact HB.out | apply below_alloc | apply pw_below_drewN | apply below_drew1) | exact HB.out)⟩⟩
        case rest =>
          clear HC6
          obtain ⟨kq, x23_5, rfl, HA, HJ5, HO_7, HB⟩ := hcut
          cases kq with
          | zero => exact absurd HA.out (by simp [graph_reach.j0])
          | succ kj5 =>
            have H := HA.out
            clear HA
            simp only [graph_reach.j0] at H
            by_cases c10 : x23_5 = true
            · subst c10
              have H1 : (some y193) = some r := by rw [if_pos rfl] at H; exact H
              clear H
              have H := H1
              clear H1
              obtain rfl := Option.some.inj H
              go_wp2
              (try simp only [Exit.jump])
              go_ret
              exact ⟨_, by first | rfl | (simp [errW_none, errW_some] <;> rfl) | (simp [*, errW_none, errW_some] <;> rfl), by (with_reducible repeat (first | apply Kd.R_alloc | apply Kd.R_drewN | apply Kd.R_drew)); exact HO_7.out, by repeat (first | (with_reducible first | exact HB.out | apply below_alloc | apply pw_below_drewN | apply below_drew1) | exact HB.out)⟩
            · replace c10 := Bool.eq_false_iff.mpr c10
              subst c10
              have H1 : (if 0 ≤ a1 then (if a1 < (y193.length : Int) then (graph_reach.l0 kj5 l0 a2 (y193.set (a1 : Int).toNat true) (([a1] : List Int))) else (none)) else (none)) = some r := by rw [if_neg (show ¬ (false = true) by decide)] at H; exact H
              clear H
              have H := H1
              clear H1
              by_cases c11 : 0 ≤ a1
              · rw [if_pos c11] at H
                have c11b0 : decide (0 ≤ a1) = true := decide_eq_true c11
                clear c11
                by_cases c12 : a1 < (y193.length : Int)
                · rw [if_pos c12] at H
                  have c12b0 : decide (a1 < (y193.length : Int)) = true := decide_eq_true c12
                  clear c12
                  obtain ⟨y196, hy196⟩ : ∃ y_ : List Bool, y_ = (y193.set (a1 : Int).toNat true) := ⟨_, rfl⟩
                  replace H : (graph_reach.l0 kj5 l0 a2 y196 (([a1] : List Int))) = some r := by first | (rw [hy196]; with_reducible exact H) | (have H2_ := (Option.bind_some _ _).symm.trans H; rw [hy196]; with_reducible exact H2_) | (have H2_ := (Option.bind_some _ _).symm.trans H; with_reducible exact H2_) | with_reducible exact H | (rw [hy196]; exact H) | exact H
                  have Ny196 := Aside0.mk hy196
                  clear hy196
                  obtain ⟨y197, hy197⟩ : ∃ y_ : List Int, y_ = (([a1] : List Int)) := ⟨_, rfl⟩
                  replace H : (graph_reach.l0 kj5 l0 a2 y196 y197) = some r := by first | (rw [hy197]; with_reducible exact H) | (have H2_ := (Option.bind_some _ _).symm.trans H; rw [hy197]; with_reducible exact H2_) | (have H2_ := (Option.bind_some _ _).symm.trans H; with_reducible exact H2_) | with_reducible exact H | (rw [hy197]; exact H) | exact H
                  have Ny197 := Aside0.mk hy197
                  clear hy197
                  have H' := Aside0.mk H
                  clear H
                  have p13 : 0 ≤ (a1 : Int) := of_decide_eq_true (by first | (with_reducible assumption) | assumption)
                  have q13 : (a1 : Int) < ((y193.length : Int) : Int) := of_decide_eq_true (by first | (with_reducible assumption) | assumption)
                  obtain ⟨go13, co13, eo13, gb13, gl13, cl13, HG13⟩ := Kd.R_form HO_7.out (by omega)
                  (first | cases eo13 | (injection eo13 with ea_ en_ ec_; (first | subst ea_ | (injection ea_ with ea_; subst ea_)); subst ec_; clear en_))
                  have GB13 := Aside0.mk gb13
                  have GG13 := Aside0.mk HG13
                  clear gb13 gl13 HG13
                  obtain ⟨hx13_0, hf13_0⟩ := Kd.R_celln false HO_7.out (a1 : Int) p13 q13
                  replace p13 := eq_true p13
                  replace q13 := eq_true q13
                  have HP14 := Kd.R_putg HO_7.out (a1 : Int) true
                  go_wp2_with (first | ((with_reducible refine gate_store (t := 4) (p := 27) rfl ?_); refine store_event (t := 4) (p := 27) (v := ?vo_w15) (w1 := (wc.setCell ⟨go13, (a1 : Int).toNat, none⟩ (.bool true))) ?hg ?ho ?hn ?hr ?_; (case ho => rfl); (case hg => rfl); (case hn => rfl); (case hr => first | (go_simp; done) | (go_simp; rfl)); intro w15 hw; have hg : wc.grownBy w15 (some go13) := (by rw [hw]; exact HP14.2); have hp_ : Kd.R Kd.bool 4 w15 w.heap.size (fun _ => True) (.slice (some ⟨go13, 0, none⟩) y193.length co13) y196 := (by rw [hw, Ny196.out]; exact HP14.1); clear HP14; have n0_ := Aside0.mk (hp_); have n1_ := Aside0.mk ((by rw [hw]; exact below_set (HB.out) GB13.out : Below w.heap.size w w15)); clear HO_7; clear HB; have HO_7 := n0_; have HB := n1_; clear n0_ n1_; clear hg hw hp_) | ((with_reducible refine gate_dst (N := 29) rfl ?_); refine Kd.R_lit (Kd.int .i64) _ 3 ?hg (N := 29) ?hd (xs := ([a1] : List Int)) (inner := [.int .i64 a1]) (ok := fun _ => True) (okp := fun _ => True) ?hr ?hp (fun _ hk => hk) trivial (Below.refl _ _) (Nat.le_refl _) (by simp) ?_; (case hd => rfl); (case hg => rfl); (case hr => first | (go_simp; done) | (go_simp; rfl)); (case hp => exact (Reps.one (show Kd.M (Kd.int .i64) _ _ _ a1 [.int .i64 a1] from rfl) (Reps.none _ _))); intro v198 w16 ho17 hb hg_ hnew_; clear hg_ hnew_; (first | rw [← Ny197.out] at ho17 | (simp only [Int.reduceToNat] at ho17; rw [← Ny197.out] at ho17)); have n0_ := Aside0.mk (Kd.R_below (by (with_reducible repeat (first | apply Kd.R_alloc | apply Kd.R_drewN | apply Kd.R_drew)); exact HO_7.out) hb); have n1_ := Aside0.mk (Kd.R_lower ho17 (below_size (by repeat (first | (with_reducible first | exact HB.out | apply below_alloc | apply pw_below_drewN | apply below_drew1) | exact HB.out)))); have n2_ := Aside0.mk (below_step (by repeat (first | (with_reducible first | exact HB.out | apply below_alloc | apply pw_below_drewN | apply below_drew1) | exact HB.out)) hb); clear HO_7; clear HB; have HO_7 := n0_; have HO199 := n1_; have HB := n2_; clear n0_ n1_ n2_; clear hb ho17))
                  have hl13 : y193.length = y196.length := by rw [Ny196.out, List.length_set]
                  rw [hl13] at HO_7
                  (try simp only [hl13])
                  have HL' := Aside0.mk hl13
                  clear hl13
                  go_step3
                  go_step
                  go_step
                  exact hrest _ _ (hL kj5 _ _ ⟨y196, y197, go13, co13, _, pickV [_, _, _, _, _, _, _, _, _, _, _, _, _, _, _, _, _, _, _, _, _, _, _, _, _, _, _, _, _, _, _, _, _, _, _, _, _, _, _, _, _, _, _, _, _, _, _, _, _, _, _, _, _, _, _, _, _, _, _, _, _, _, _, _, _, _, _], H', ⟨by have := HJ5.out; omega⟩, GB13, HO_7, HO199, HB, rfl⟩)
                · rw [if_neg c12] at H
                  exact absurd H (by simp)
              · rw [if_neg c11] at H
                exact absurd H (by simp)
      · rw [if_neg c5] at H
        exact absurd H (by simp)
    · rw [if_neg c4] at H
      exact absurd H (by simp)
end Go.Proofs.Ytdndnjpfpelimaa.PG
