-- By the session's own program out of the kit's print, with texts of the session's own for the functions that the print does not take.
import Derived.Test.YtjflddnmkajleaaPGx0
import Derived.Test.YtjflddnmkajleaaPGx24
import Derived.Test.YtjflddnmkajleaaPGx25
namespace Go.Proofs.Ytjflddnmkajleaa.PG
open Go.RowKit Go.Proofs.YtjflddnmkajleaaW.PrintWords Go.Proofs.YtjflddnmkajleaaW.PrintLast Go.Proofs.YtjflddnmkajleaaW.PrintMore
attribute [local go_sem] max2_int min2_int max_two min_two max_three min_three max_four min_four   -- for this text's walks alone
set_option linter.unusedVariables false
set_option linter.unusedSimpArgs false

/-! ### ratlineref10_Cyclic: function 25 -/
mutual
def ratlineref10_Cyclic.l0 : Nat → List Bool → List (List Int) → List Bool → List (List Int) → Int → Option (Bool)
  | 0, _, _, _, _, _ => none
  | k + 1, x1, x5, x6, x7, x8 => if x8 < (x5.length : Int) then (ratlineref10_Cyclic.l1 k x1 x5 x6 x7 x8 ([] : List Int) 0) else (ratlineref10_Cyclic.l2 k x7 0)
def ratlineref10_Cyclic.l1 : Nat → List Bool → List (List Int) → List Bool → List (List Int) → Int → List Int → Int → Option (Bool)
  | 0, _, _, _, _, _, _, _ => none
  | k + 1, x1, x5, x6, x7, x8, x9, x10 => if 0 ≤ x8 then (if x8 < (x5.length : Int) then (if x10 < ((rd_L1 x5 x8).length : Int) then (if 0 ≤ x10 then (if (rd (rd_L1 x5 x8) x10) ≥ (x1.length : Int) then (if x9.length < 17592186044416 then (ratlineref10_Cyclic.l1 k x1 x5 x6 x7 x8 (x9 ++ [rd (rd_L1 x5 x8) x10]) (wrap64 (x10 + 1))) else (none)) else (if 0 ≤ (rd (rd_L1 x5 x8) x10) then (if (rd (rd_L1 x5 x8) x10) < (x1.length : Int) then (if (rdOf false x1 (rd (rd_L1 x5 x8) x10) = true) then (ratlineref10_Cyclic.l1 k x1 x5 x6 x7 x8 x9 (wrap64 (x10 + 1))) else (if x9.length < 17592186044416 then (ratlineref10_Cyclic.l1 k x1 x5 x6 x7 x8 (x9 ++ [rd (rd_L1 x5 x8) x10]) (wrap64 (x10 + 1))) else (none))) else (none)) else (none))) else (none)) else (if x8 < (x1.length : Int) then (if rdOf false x1 x8 = true then (if x7.length < 5864062014805 then (ratlineref10_Cyclic.l0 k x1 x5 x6 (x7 ++ [([] : List Int)]) (wrap64 (x8 + 1))) else (none)) else (if x8 < (x6.length : Int) then (if rdOf false x6 x8 = true then (if x7.length < 5864062014805 then (ratlineref10_Cyclic.l0 k x1 x5 x6 (x7 ++ [x9]) (wrap64 (x8 + 1))) else (none)) else (if x7.length < 5864062014805 then (ratlineref10_Cyclic.l0 k x1 x5 x6 (x7 ++ [([] : List Int)]) (wrap64 (x8 + 1))) else (none))) else (none))) else (if x8 < (x6.length : Int) then (if rdOf false x6 x8 = true then (if x7.length < 5864062014805 then (ratlineref10_Cyclic.l0 k x1 x5 x6 (x7 ++ [x9]) (wrap64 (x8 + 1))) else (none)) else (if x7.length < 5864062014805 then (ratlineref10_Cyclic.l0 k x1 x5 x6 (x7 ++ [([] : List Int)]) (wrap64 (x8 + 1))) else (none))) else (none)))) else (none)) else (none)
def ratlineref10_Cyclic.l2 : Nat → List (List Int) → Int → Option (Bool)
  | 0, _, _ => none
  | k + 1, x7, x12 => if x12 < (x7.length : Int) then (ratlineref10_Cyclic.l3 k x7 x12 0) else (some false)
def ratlineref10_Cyclic.l3 : Nat → List (List Int) → Int → Int → Option (Bool)
  | 0, _, _, _ => none
  | k + 1, x7, x12, x13 => if 0 ≤ x12 then (if x12 < (x7.length : Int) then (if x13 < ((rd_L1 x7 x12).length : Int) then (if 0 ≤ x13 then ((ratlineref10_from.f k x7 (rd (rd_L1 x7 x12) x13) (-1)).bind fun t583 => (if x12 < (t583.length : Int) then (if rdOf false t583 x12 = true then (some true) else (ratlineref10_Cyclic.l3 k x7 x12 (wrap64 (x13 + 1)))) else (none))) else (none)) else (ratlineref10_Cyclic.l2 k x7 (wrap64 (x12 + 1)))) else (none)) else (none)
end
def ratlineref10_Cyclic.f (k : Nat) (l0 : List (List Int)) (l1 : List Bool) : Option (Bool) := (ratlineref10_Norm.f k l0).bind fun t546 => ((ratlineref10_from.f k t546 0 (-1)).bind fun t549 => (ratlineref10_Cyclic.l0 k l1 t546 t549 ([] : List (List Int)) 0))
theorem ratlineref10_Cyclic.mono_l : ∀ k, (∀ y0 y1 y2 y3 y4, LeO (ratlineref10_Cyclic.l0 k y0 y1 y2 y3 y4) (ratlineref10_Cyclic.l0 (k + 1) y0 y1 y2 y3 y4)) ∧ (∀ y0 y1 y2 y3 y4 y5 y6, LeO (ratlineref10_Cyclic.l1 k y0 y1 y2 y3 y4 y5 y6) (ratlineref10_Cyclic.l1 (k + 1) y0 y1 y2 y3 y4 y5 y6)) ∧ (∀ y0 y1, LeO (ratlineref10_Cyclic.l2 k y0 y1) (ratlineref10_Cyclic.l2 (k + 1) y0 y1)) ∧ (∀ y0 y1 y2, LeO (ratlineref10_Cyclic.l3 k y0 y1 y2) (ratlineref10_Cyclic.l3 (k + 1) y0 y1 y2))
  | 0 => ⟨fun _ _ _ _ _ r h => by simp [ratlineref10_Cyclic.l0] at h, fun _ _ _ _ _ _ _ r h => by simp [ratlineref10_Cyclic.l1] at h, fun _ _ r h => by simp [ratlineref10_Cyclic.l2] at h, fun _ _ _ r h => by simp [ratlineref10_Cyclic.l3] at h⟩
  | k + 1 => by
    obtain ⟨ih0, ih1, ih2, ih3⟩ := ratlineref10_Cyclic.mono_l k
    refine ⟨?_, ?_, ?_, ?_⟩
    · intro y0 y1 y2 y3 y4
      unfold ratlineref10_Cyclic.l0
      repeat' first
      | (with_reducible exact ih0 _ _ _ _ _)
      | (with_reducible exact ih1 _ _ _ _ _ _ _)
      | (with_reducible exact ih2 _ _)
      | (with_reducible exact ih3 _ _ _)
      | (with_reducible exact ratlineref10_Norm.mono _ _)
      | (with_reducible exact ratlineref10_from.mono _ _ _ _)
      | (with_reducible exact LeO.refl _)
      | (with_reducible exact LeO.none _)
      | (with_reducible refine LeO.ite ?_ ?_)
      | (with_reducible refine LeO.bind ?_ (fun _ => ?_))
      | exact ih0 _ _ _ _ _
      | exact ih1 _ _ _ _ _ _ _
      | exact ih2 _ _
      | exact ih3 _ _ _
      | exact ratlineref10_Norm.mono _ _
      | exact ratlineref10_from.mono _ _ _ _
      | exact LeO.none _
      | refine LeO.ite ?_ ?_
      | refine LeO.bind ?_ (fun _ => ?_)
    · intro y0 y1 y2 y3 y4 y5 y6
      unfold ratlineref10_Cyclic.l1
      repeat' first
      | (with_reducible exact ih0 _ _ _ _ _)
      | (with_reducible exact ih1 _ _ _ _ _ _ _)
      | (with_reducible exact ih2 _ _)
      | (with_reducible exact ih3 _ _ _)
      | (with_reducible exact ratlineref10_Norm.mono _ _)
      | (with_reducible exact ratlineref10_from.mono _ _ _ _)
      | (with_reducible exact LeO.refl _)
      | (with_reducible exact LeO.none _)
      | (with_reducible refine LeO.ite ?_ ?_)
      | (with_reducible refine LeO.bind ?_ (fun _ => ?_))
      | exact ih0 _ _ _ _ _
      | exact ih1 _ _ _ _ _ _ _
      | exact ih2 _ _
      | exact ih3 _ _ _
      | exact ratlineref10_Norm.mono _ _
      | exact ratlineref10_from.mono _ _ _ _
      | exact LeO.none _
      | refine LeO.ite ?_ ?_
      | refine LeO.bind ?_ (fun _ => ?_)
    · intro y0 y1
      unfold ratlineref10_Cyclic.l2
      repeat' first
      | (with_reducible exact ih0 _ _ _ _ _)
      | (with_reducible exact ih1 _ _ _ _ _ _ _)
      | (with_reducible exact ih2 _ _)
      | (with_reducible exact ih3 _ _ _)
      | (with_reducible exact ratlineref10_Norm.mono _ _)
      | (with_reducible exact ratlineref10_from.mono _ _ _ _)
      | (with_reducible exact LeO.refl _)
      | (with_reducible exact LeO.none _)
      | (with_reducible refine LeO.ite ?_ ?_)
      | (with_reducible refine LeO.bind ?_ (fun _ => ?_))
      | exact ih0 _ _ _ _ _
      | exact ih1 _ _ _ _ _ _ _
      | exact ih2 _ _
      | exact ih3 _ _ _
      | exact ratlineref10_Norm.mono _ _
      | exact ratlineref10_from.mono _ _ _ _
      | exact LeO.none _
      | refine LeO.ite ?_ ?_
      | refine LeO.bind ?_ (fun _ => ?_)
    · intro y0 y1 y2
      unfold ratlineref10_Cyclic.l3
      repeat' first
      | (with_reducible exact ih0 _ _ _ _ _)
      | (with_reducible exact ih1 _ _ _ _ _ _ _)
      | (with_reducible exact ih2 _ _)
      | (with_reducible exact ih3 _ _ _)
      | (with_reducible exact ratlineref10_Norm.mono _ _)
      | (with_reducible exact ratlineref10_from.mono _ _ _ _)
      | (with_reducible exact LeO.refl _)
      | (with_reducible exact LeO.none _)
      | (with_reducible refine LeO.ite ?_ ?_)
      | (with_reducible refine LeO.bind ?_ (fun _ => ?_))
      | exact ih0 _ _ _ _ _
      | exact ih1 _ _ _ _ _ _ _
      | exact ih2 _ _
      | exact ih3 _ _ _
      | exact ratlineref10_Norm.mono _ _
      | exact ratlineref10_from.mono _ _ _ _
      | exact LeO.none _
      | refine LeO.ite ?_ ?_
      | refine LeO.bind ?_ (fun _ => ?_)
theorem ratlineref10_Cyclic.mono : ∀ a0 a1 k, LeO (ratlineref10_Cyclic.f k a0 a1) (ratlineref10_Cyclic.f (k + 1) a0 a1) := by
  intro a0 a1 k
  obtain ⟨ih0, ih1, ih2, ih3⟩ := ratlineref10_Cyclic.mono_l k
  unfold ratlineref10_Cyclic.f
  repeat' first
      | (with_reducible exact ih0 _ _ _ _ _)
      | (with_reducible exact ih1 _ _ _ _ _ _ _)
      | (with_reducible exact ih2 _ _)
      | (with_reducible exact ih3 _ _ _)
      | (with_reducible exact ratlineref10_Norm.mono _ _)
      | (with_reducible exact ratlineref10_from.mono _ _ _ _)
      | (with_reducible exact LeO.refl _)
      | (with_reducible exact LeO.none _)
      | (with_reducible refine LeO.ite ?_ ?_)
      | (with_reducible refine LeO.bind ?_ (fun _ => ?_))
      | exact ih0 _ _ _ _ _
      | exact ih1 _ _ _ _ _ _ _
      | exact ih2 _ _
      | exact ih3 _ _ _
      | exact ratlineref10_Norm.mono _ _
      | exact ratlineref10_from.mono _ _ _ _
      | exact LeO.none _
      | refine LeO.ite ?_ ?_
      | refine LeO.bind ?_ (fun _ => ?_)
set_option maxHeartbeats 8000000 in
set_option maxRecDepth 100000 in
theorem ratlineref10_Cyclic.calls (k : Nat) (A0 : Option Addr) (c0 : Nat) (l0 : List (List Int)) (A1 : Option Addr) (c1 : Nat) (l1 : List Bool) (r : Bool) (w : World) (hr0 : Kd.C (Kd.slice 3 (Kd.int .i64)) w A0 l0.length l0) (hc0 : l0.length ≤ c0) (hr1 : Kd.C Kd.bool w A1 l1.length l1) (hc1 : l1.length ≤ c1) (h : ratlineref10_Cyclic.f k l0 l1 = some r) :
    Calls Try.prog 25 #[.slice A0 l0.length c0, .slice A1 l1.length c1] w fun e w' => e = .returned (.bool r) ∧ Below w.heap.size w w' := by
  have HR0 := Aside0.mk hr0
  have HC0 := Aside0.mk hc0
  clear hr0 hc0
  have HR1 := Aside0.mk hr1
  have HC1 := Aside0.mk hc1
  clear hr1 hc1
  have HB := Aside0.mk (Below.refl w.heap.size w)
  have H : ((ratlineref10_Norm.f k l0).bind fun t546 => ((ratlineref10_from.f k t546 0 (-1)).bind fun t549 => (ratlineref10_Cyclic.l0 k l1 t546 t549 ([] : List (List Int)) 0))) = some r := h
  clear h
  replace H := Option.bind_eq_some_iff.mp H
  obtain ⟨t546, A30, H⟩ := H
  replace H : ((ratlineref10_from.f k t546 0 (-1)).bind fun t549 => (ratlineref10_Cyclic.l0 k l1 t546 t549 ([] : List (List Int)) 0)) = some r := H
  have A3 := Aside0.mk A30
  clear A30
  replace H := Option.bind_eq_some_iff.mp H
  obtain ⟨t549, A40, H⟩ := H
  replace H : (ratlineref10_Cyclic.l0 k l1 t546 t549 ([] : List (List Int)) 0) = some r := H
  have A4 := Aside0.mk A40
  clear A40
  have H' := Aside0.mk H
  clear H
  go_enter Try.func25, Try.ntmps25
  go_wp2_with (first | ((with_reducible refine gate_callee (f := 28) rfl ?_); refine goesL_ (some 15) rfl rfl Try.func28 (by kernel_rfl) rfl #[.slice A0 l0.length c0] rfl (by (try simp only [List.map_toArray, List.map_cons, List.map_nil]); first | done | rfl | (simp only [List.length_drop, List.length_take]; rfl)) ?_; (with_reducible refine (ratlineref10_Norm.calls k _ _ l0 t546 _ ?side1 ?side2 A3.out).mono ?_); (case side1 => repeat (first | exact HR0.out | (with_reducible refine Kd.C_alloc ?_ _) | (with_reducible refine Kd.C_drewN ?_ _) | (with_reducible refine Kd.C_drew ?_))); (case side2 => exact HC0.out); rintro e w5 ⟨v547, rfl, ho0, hb⟩; refine ⟨_, rfl, ?_⟩; have n0_ := Aside0.mk (Kd.S_lower ho0 (below_size (by repeat (first | (with_reducible first | exact HB.out | apply below_alloc | apply pw_below_drewN | apply below_drew1) | exact HB.out)))); have n1_ := Aside0.mk (below_step (by repeat (first | (with_reducible first | exact HB.out | apply below_alloc | apply pw_below_drewN | apply below_drew1) | exact HB.out)) hb); clear HB; have HO548 := n0_; have HB := n1_; clear n0_ n1_; (try clear hb); (try clear hb2); (try clear hk); (try clear hi); (try clear ho0); obtain ⟨Ao6, co6, eo6⟩ := Kd.S_slice HO548.out; subst eo6) | ((with_reducible refine gate_callee (f := 29) rfl ?_); refine goesL_ (some 17) rfl rfl Try.func29 (by kernel_rfl) rfl #[.slice Ao6 t546.length co6, .int .i64 0, .int .i64 (-1)] rfl (by (try simp only [List.map_toArray, List.map_cons, List.map_nil]); first | done | rfl | (simp only [List.length_drop, List.length_take]; rfl)) ?_; (with_reducible refine (ratlineref10_from.calls k _ _ t546 0 (-1) t549 _ ?side1 ?side2 A4.out).mono ?_); (case side1 => repeat (first | exact (Kd.S_reads' HO548.out).2.2 | (with_reducible refine Kd.C_alloc ?_ _) | (with_reducible refine Kd.C_drewN ?_ _) | (with_reducible refine Kd.C_drew ?_))); (case side2 => exact (Kd.S_reads' HO548.out).2.1); rintro e w7 ⟨v550, rfl, ho0, hb⟩; refine ⟨_, rfl, ?_⟩; have n0_ := Aside0.mk (Kd.S_below (by (with_reducible repeat (first | apply Kd.S_alloc | apply Kd.S_drewN | apply Kd.S_drew)); exact HO548.out) hb); have n1_ := Aside0.mk (Kd.R_lower ho0 (below_size (by repeat (first | (with_reducible first | exact HB.out | apply below_alloc | apply pw_below_drewN | apply below_drew1) | exact HB.out)))); have n2_ := Aside0.mk (below_step (by repeat (first | (with_reducible first | exact HB.out | apply below_alloc | apply pw_below_drewN | apply below_drew1) | exact HB.out)) hb); clear HO548; clear HB; have HO548 := n0_; have HO551 := n1_; have HB := n2_; clear n0_ n1_ n2_; (try clear hb); (try clear hb2); (try clear hk); (try clear hi); (try clear ho0)))
  go_loopg [7, 8] k (fun kq v7 v8 w' => ∃ (x7_1 : List (List Int)) (x8_1 : Int), v8 = .int .i64 x8_1 ∧ Aside0 (ratlineref10_Cyclic.l0 kq l1 t546 t549 x7_1 x8_1 = some r) ∧ Aside0 (kq ≤ k) ∧ Aside0 (Kd.S (Kd.slice 3 (Kd.int .i64)) 25 w' w.heap.size (fun k_ => some k_ ≠ (v7 : Value).ownBlock) (.slice Ao6 t546.length co6) t546) ∧ Aside0 (Kd.R Kd.bool 4 w' w.heap.size (fun _ => True) v550 t549) ∧ Aside0 (Kd.S (Kd.slice 3 (Kd.int .i64)) 25 w' w.heap.size (fun k_ => some k_ ≠ ((.slice Ao6 t546.length co6) : Value).ownBlock) v7 x7_1) ∧ Aside0 (Below w.heap.size w w'))
  case atStart => exact ⟨(([] : List (List Int))), (0), (by first | rfl | (simp; done) | (simp [*]; done)), H', ⟨Nat.le_refl _⟩, ⟨by (with_reducible repeat (first | apply Kd.S_alloc | apply Kd.S_drewN | apply Kd.S_drew)); exact Kd.S_mono HO548.out (fun _ hk => (by simp [Value.ownBlock]))⟩, ⟨by (with_reducible repeat (first | apply Kd.R_alloc | apply Kd.R_drewN | apply Kd.R_drew)); exact HO551.out⟩, ⟨by first | exact Kd.S_nil _ _ _ _ _ | exact Kd.N_nil _ _ _ _ _ | exact Kd.V_nil _ _ _ _ _ | exact Kd.Q_nil _ _ _ _ _ | exact Kd.R_nil _ _ _ _ _⟩, ⟨by repeat (first | (with_reducible first | exact HB.out | apply below_alloc | apply pw_below_drewN | apply below_drew1) | exact HB.out)⟩⟩
  case round =>
    clear H'
    try clear c1
    try clear c2
    try clear p2
    obtain ⟨x7_1, x8_1, rfl, HA, HK1, HO_5, HO_6, HO_7, HB⟩ := hrel
    cases gk with
    | zero => exact absurd HA.out (by simp [ratlineref10_Cyclic.l0])
    | succ k1 =>
      have H := HA.out
      clear HA
      simp only [ratlineref10_Cyclic.l0] at H
      by_cases c8 : x8_1 < (t546.length : Int)
      · rw [if_pos c8] at H
        have c8b0 : decide (x8_1 < (t546.length : Int)) = true := decide_eq_true c8
        clear c8
        have H' := Aside0.mk H
        clear H
        go_wp2
        go_loopg [9, 10] k1 (fun kq v9 v10 w' => ∃ (x9_2 : List Int) (x10_2 : Int), v10 = .int .i64 x10_2 ∧ Aside0 (ratlineref10_Cyclic.l1 kq l1 t546 t549 x7_1 x8_1 x9_2 x10_2 = some r) ∧ Aside0 (kq ≤ k1) ∧ Aside0 (Kd.S (Kd.slice 3 (Kd.int .i64)) 25 w' w.heap.size (fun k_ => some k_ ≠ (u7 : Value).ownBlock ∧ some k_ ≠ (v9 : Value).ownBlock) (.slice Ao6 t546.length co6) t546) ∧ Aside0 (Kd.R Kd.bool 4 w' w.heap.size (fun _ => True) v550 t549) ∧ Aside0 (Kd.S (Kd.slice 3 (Kd.int .i64)) 25 w' w.heap.size (fun k_ => some k_ ≠ ((.slice Ao6 t546.length co6) : Value).ownBlock ∧ some k_ ≠ (v9 : Value).ownBlock) u7 x7_1) ∧ Aside0 (Kd.R (Kd.int .i64) 3 w' w.heap.size (fun _ => True) v9 x9_2) ∧ Aside0 (Below w.heap.size w w'))
        case atStart => exact ⟨(([] : List Int)), (0), (by first | rfl | (simp; done) | (simp [*]; done)), H', ⟨Nat.le_refl _⟩, ⟨by (with_reducible repeat (first | apply Kd.S_alloc | apply Kd.S_drewN | apply Kd.S_drew)); exact Kd.S_mono HO_5.out (fun _ hk => ⟨hk, (by simp [Value.ownBlock])⟩)⟩, ⟨by (with_reducible repeat (first | apply Kd.R_alloc | apply Kd.R_drewN | apply Kd.R_drew)); exact HO_6.out⟩, ⟨by (with_reducible repeat (first | apply Kd.S_alloc | apply Kd.S_drewN | apply Kd.S_drew)); exact Kd.S_mono HO_7.out (fun _ hk => ⟨hk, (by simp [Value.ownBlock])⟩)⟩, ⟨by first | exact Kd.R_nil _ _ _ _ _ | exact Kd.N_nil _ _ _ _ _ | exact Kd.V_nil _ _ _ _ _ | exact Kd.Q_nil _ _ _ _ _ | exact Kd.S_nil _ _ _ _ _⟩, ⟨by repeat (first | (with_reducible first | exact HB.out | apply below_alloc | apply pw_below_drewN | apply below_drew1) | exact HB.out)⟩⟩
        case round =>
          clear H'
          try clear c1
          try clear c2
          try clear p2
          try clear c8
          try clear c8b0
          try clear p2
          obtain ⟨x9_2, x10_2, rfl, HA, HK2, HO_5, HO_6, HO_7, HO_9, HB⟩ := hrel
          cases gk with
          | zero => exact absurd HA.out (by simp [ratlineref10_Cyclic.l1])
          | succ k2 =>
            have H := HA.out
            clear HA
            simp only [ratlineref10_Cyclic.l1] at H
            by_cases c9 : 0 ≤ x8_1
            · rw [if_pos c9] at H
              have c9b0 : decide (0 ≤ x8_1) = true := decide_eq_true c9
              clear c9
              by_cases c10 : x8_1 < (t546.length : Int)
              · rw [if_pos c10] at H
                have c10b0 : decide (x8_1 < (t546.length : Int)) = true := decide_eq_true c10
                clear c10
                by_cases c11 : x10_2 < ((rd_L1 t546 x8_1).length : Int)
                · rw [if_pos c11] at H
                  have c11b0 : decide (x10_2 < ((rd_L1 t546 x8_1).length : Int)) = true := decide_eq_true c11
                  clear c11
                  by_cases c12 : 0 ≤ x10_2
                  · rw [if_pos c12] at H
                    have c12b0 : decide (0 ≤ x10_2) = true := decide_eq_true c12
                    clear c12
                    by_cases c13 : (rd (rd_L1 t546 x8_1) x10_2) ≥ (l1.length : Int)
                    · rw [if_pos c13] at H
                      have c13b0 : decide ((l1.length : Int) ≤ (rd (rd_L1 t546 x8_1) x10_2)) = true := decide_eq_true c13
                      clear c13
                      by_cases c14 : x9_2.length < 17592186044416
                      · rw [if_pos c14] at H
                        have LMc14 := Aside0.mk c14
                        clear c14
                        obtain ⟨y555, hy555⟩ : ∃ y_ : List Int, y_ = (x9_2 ++ [rd (rd_L1 t546 x8_1) x10_2]) := ⟨_, rfl⟩
                        replace H : (ratlineref10_Cyclic.l1 k2 l1 t546 t549 x7_1 x8_1 y555 (wrap64 (x10_2 + 1))) = some r := by first | (rw [hy555]; with_reducible exact H) | (have H2_ := (Option.bind_some _ _).symm.trans H; rw [hy555]; with_reducible exact H2_) | (have H2_ := (Option.bind_some _ _).symm.trans H; with_reducible exact H2_) | with_reducible exact H | (rw [hy555]; exact H) | exact H
                        have Ny555 := Aside0.mk hy555
                        clear hy555
                        have H' := Aside0.mk H
                        clear H
                        have p552 : 0 ≤ (x8_1 : Int) := of_decide_eq_true (by first | (with_reducible assumption) | assumption)
                        have q552 : x8_1 < (t546.length : Int) := of_decide_eq_true (by first | (with_reducible assumption) | assumption)
                        obtain ⟨ad552, A552_0, c552_0, e552, hx552_0, hl552_0, hi552_0⟩ := at_L1 (Kd.S_reads' HO_5.out).2.2 x8_1 p552 q552
                        cases e552
                        obtain ⟨ce552, hce552, hMe552, hcc552⟩ := Kd.S_get HO_5.out [] x8_1 p552 (by first | exact q552 | exact of_decide_eq_true (by first | (with_reducible assumption) | assumption) | (have e_ := (Kd.S_reads' HO_5.out).1; omega))
                        obtain ⟨ve552_0, rfl, ge552_0⟩ := hMe552
                        have hv552_0 := hcc552 0 _ rfl
                        rw [Nat.add_zero, show ((Kd.slice 3 (Kd.int .i64))).sz = 1 from rfl, Nat.mul_one] at hv552_0
                        replace hv552_0 := Option.some.inj (hv552_0.symm.trans hx552_0)
                        rw [hv552_0] at ge552_0
                        have HL552_0 := Aside0.mk (show Kd.R (Kd.int .i64) 3 _ _ _ _ (rd_L1 t546 x8_1) from ge552_0)
                        clear hv552_0 ge552_0
                        clear hcc552 hce552
                        have HR552_0 := Aside0.mk hi552_0
                        have HC552_0 := Aside0.mk hl552_0
                        clear hi552_0 hl552_0
                        replace p552 := eq_true p552
                        replace q552 := eq_true q552
                        have p553 : 0 ≤ (x8_1 : Int) := of_decide_eq_true (by first | (with_reducible assumption) | assumption)
                        have q553 : x8_1 < (t546.length : Int) := of_decide_eq_true (by first | (with_reducible assumption) | assumption)
                        obtain ⟨ad553, A553_0, c553_0, e553, hx553_0, hl553_0, hi553_0⟩ := at_L1 (Kd.S_reads' HO_5.out).2.2 x8_1 p553 q553
                        obtain rfl : ad552 = ad553 := (by injection e553)
                        obtain ⟨ce553, hce553, hMe553, hcc553⟩ := Kd.S_get HO_5.out [] x8_1 p553 (by first | exact q553 | exact of_decide_eq_true (by first | (with_reducible assumption) | assumption) | (have e_ := (Kd.S_reads' HO_5.out).1; omega))
                        obtain ⟨ve553_0, rfl, ge553_0⟩ := hMe553
                        have hv553_0 := hcc553 0 _ rfl
                        rw [Nat.add_zero, show ((Kd.slice 3 (Kd.int .i64))).sz = 1 from rfl, Nat.mul_one] at hv553_0
                        replace hv553_0 := Option.some.inj (hv553_0.symm.trans hx553_0)
                        rw [hv553_0] at ge553_0
                        have HL553_0 := Aside0.mk (show Kd.R (Kd.int .i64) 3 _ _ _ _ (rd_L1 t546 x8_1) from ge553_0)
                        clear hv553_0 ge553_0
                        clear hcc553 hce553
                        have HR553_0 := Aside0.mk hi553_0
                        have HC553_0 := Aside0.mk hl553_0
                        clear hi553_0 hl553_0
                        replace p553 := eq_true p553
                        replace q553 := eq_true q553
                        have ea_ := Option.some.inj (hx552_0.symm.trans hx553_0)
                        injection ea_ with ea_ en_ ec_
                        subst ea_
                        subst ec_
                        clear en_
                        have p554 : 0 ≤ (x10_2 : Int) := of_decide_eq_true (by first | (with_reducible assumption) | assumption)
                        have q554 : x10_2 < ((rd_L1 t546 x8_1).length : Int) := of_decide_eq_true (by first | (with_reducible assumption) | assumption)
                        obtain ⟨ad554, e554, hx554_0⟩ := Kd.at_int (by repeat (first | (with_reducible exact HR553_0.out) | (with_reducible refine Kd.C_alloc ?_ _) | (with_reducible refine Kd.C_drewN ?_ _) | (with_reducible refine Kd.C_drew ?_) | exact HR553_0.out)) x10_2 p554 q554
                        cases e554
                        replace p554 := eq_true p554
                        replace q554 := eq_true q554
                        go_wp2_with (first | ((with_reducible refine gate_builtin (b := .append) (xs := #[.tmp 51, .tmp 53]) rfl ?_); at_builtin; refine Kd.R_append (Kd.int .i64) (w0 := w) w.heap.size rfl (.tmp 51) (.tmp 53) 25 3 (.int .i64 0) 8 rfl Try.underlying25 info3 rfl (by decide) (by omega) u9 x9_2 (rd (rd_L1 t546 x8_1) x10_2) [.int .i64 (rd (rd_L1 t546 x8_1) x10_2)] (fun _ => True) (fun _ => False) rfl rfl ?aP (fun _ hk => hk.elim) ?aF ?aO ?aB ?aS ?aL ?_; (case aP => exact rfl); (case aB => exact (by repeat (first | (with_reducible first | exact HB.out | apply below_alloc | apply pw_below_drewN | apply below_drew1) | exact HB.out))); (case aF => exact (fun _ _ => trivial)); (case aO => exact (by (with_reducible repeat (first | apply Kd.R_alloc | apply Kd.R_drewN | apply Kd.R_drew)); exact HO_9.out)); (case aS => exact (below_size (by repeat (first | (with_reducible first | exact HB.out | apply below_alloc | apply pw_below_drewN | apply below_drew1) | exact HB.out)))); (case aL => have := LMc14.out; omega); intro v556 w15 ho hb hg hat; rw [← Ny555.out] at ho; have n0_ := Aside0.mk (Kd.S_after (ok := (fun k_ => some k_ ≠ (u7 : Value).ownBlock)) (by (with_reducible repeat (first | apply Kd.S_alloc | apply Kd.S_drewN | apply Kd.S_drew)); exact HO_5.out) hg hat); have n1_ := Aside0.mk (Kd.R_over' (by (with_reducible repeat (first | apply Kd.R_alloc | apply Kd.R_drewN | apply Kd.R_drew)); exact HO_6.out) (Kd.R_typed (by (with_reducible repeat (first | apply Kd.R_alloc | apply Kd.R_drewN | apply Kd.R_drew)); exact HO_9.out)) (by decide) hg); have n2_ := Aside0.mk (Kd.S_after (ok := (fun k_ => some k_ ≠ (.slice (some ad552) t546.length co6 : Value).ownBlock)) (by (with_reducible repeat (first | apply Kd.S_alloc | apply Kd.S_drewN | apply Kd.S_drew)); exact HO_7.out) hg hat); have n3_ := Aside0.mk (Kd.R_after (ok := (fun k_ => some k_ ≠ (.slice (some ad552) t546.length co6 : Value).ownBlock ∧ some k_ ≠ (u7 : Value).ownBlock)) (by (with_reducible repeat (first | apply Kd.R_alloc | apply Kd.R_drewN | apply Kd.R_drew)); exact Kd.R_mono HL552_0.out (fun _ hk => ⟨⟨hk.2, hk.1.1⟩, hk.1.2⟩)) hg hat); have n4_ := Aside0.mk (Kd.R_after (ok := (fun k_ => some k_ ≠ (.slice (some ad552) t546.length co6 : Value).ownBlock ∧ some k_ ≠ (u7 : Value).ownBlock)) (by (with_reducible repeat (first | apply Kd.R_alloc | apply Kd.R_drewN | apply Kd.R_drew)); exact Kd.R_mono HL553_0.out (fun _ hk => ⟨⟨hk.2, hk.1.1⟩, hk.1.2⟩)) hg hat); have n5_ := Aside0.mk (hb); have n6_ := Aside0.mk (ho); clear HO_5; clear HO_6; clear HO_7; clear HL552_0; clear HL553_0; clear HB; clear HO_9; have HO_5 := n0_; have HO_6 := n1_; have HO_7 := n2_; have HL552_0 := n3_; have HL553_0 := n4_; have HB := n5_; have HO557 := n6_; clear n0_ n1_ n2_ n3_ n4_ n5_ n6_; clear ho hb hg hat))
                        go_roundg k2
                        case measure => have := HK1.out; have := HK2.out; omega
                        case rel => exact ⟨(y555), (wrap64 (x10_2 + 1)), (by first | rfl | (simp; done) | (simp [*]; done)), H', ⟨by have := HK1.out; have := HK2.out; omega⟩, ⟨by (with_reducible repeat (first | apply Kd.S_alloc | apply Kd.S_drewN | apply Kd.S_drew)); exact HO_5.out⟩, ⟨by (with_reducible repeat (first | apply Kd.R_alloc | apply Kd.R_drewN | apply Kd.R_drew)); exact HO_6.out⟩, ⟨by (with_reducible repeat (first | apply Kd.S_alloc | apply Kd.S_drewN | apply Kd.S_drew)); exact HO_7.out⟩, ⟨by (with_reducible repeat (first | apply Kd.R_alloc | apply Kd.R_drewN | apply Kd.R_drew)); exact HO557.out⟩, ⟨by repeat (first | (with_reducible first | exact HB.out | apply below_alloc | apply pw_below_drewN | apply below_drew1) | exact HB.out)⟩⟩
                      · rw [if_neg c14] at H
                        exact absurd H (by simp)
                    · rw [if_neg c13] at H
                      have c13b0 : decide ((l1.length : Int) ≤ (rd (rd_L1 t546 x8_1) x10_2)) = false := decide_eq_false c13
                      clear c13
                      by_cases c16 : 0 ≤ (rd (rd_L1 t546 x8_1) x10_2)
                      · rw [if_pos c16] at H
                        have c16b0 : decide (0 ≤ (rd (rd_L1 t546 x8_1) x10_2)) = true := decide_eq_true c16
                        clear c16
                        by_cases c17 : (rd (rd_L1 t546 x8_1) x10_2) < (l1.length : Int)
                        · rw [if_pos c17] at H
                          have c17b0 : decide ((rd (rd_L1 t546 x8_1) x10_2) < (l1.length : Int)) = true := decide_eq_true c17
                          clear c17
                          obtain ⟨bq18, hbq18⟩ : ∃ b_ : Bool, b_ = (rdOf false l1 (rd (rd_L1 t546 x8_1) x10_2)) := ⟨_, rfl⟩
                          replace H : (if (bq18 = true) then (ratlineref10_Cyclic.l1 k2 l1 t546 t549 x7_1 x8_1 x9_2 (wrap64 (x10_2 + 1))) else (if x9_2.length < 17592186044416 then (ratlineref10_Cyclic.l1 k2 l1 t546 t549 x7_1 x8_1 (x9_2 ++ [rd (rd_L1 t546 x8_1) x10_2]) (wrap64 (x10_2 + 1))) else (none))) = some r := by rw [← hbq18] at H; exact H
                          have Nbq18 := Aside0.mk hbq18
                          clear hbq18
                          by_cases c19 : (bq18 = true)
                          · subst c19
                            have H1 : (ratlineref10_Cyclic.l1 k2 l1 t546 t549 x7_1 x8_1 x9_2 (wrap64 (x10_2 + 1))) = some r := by rw [if_pos rfl] at H; exact H
                            clear H
                            have H := H1
                            clear H1
                            have H' := Aside0.mk H
                            clear H
                            have p552 : 0 ≤ (x8_1 : Int) := of_decide_eq_true (by first | (with_reducible assumption) | assumption)
                            have q552 : x8_1 < (t546.length : Int) := of_decide_eq_true (by first | (with_reducible assumption) | assumption)
                            obtain ⟨ad552, A552_0, c552_0, e552, hx552_0, hl552_0, hi552_0⟩ := at_L1 (Kd.S_reads' HO_5.out).2.2 x8_1 p552 q552
                            cases e552
                            obtain ⟨ce552, hce552, hMe552, hcc552⟩ := Kd.S_get HO_5.out [] x8_1 p552 (by first | exact q552 | exact of_decide_eq_true (by first | (with_reducible assumption) | assumption) | (have e_ := (Kd.S_reads' HO_5.out).1; omega))
                            obtain ⟨ve552_0, rfl, ge552_0⟩ := hMe552
                            have hv552_0 := hcc552 0 _ rfl
                            rw [Nat.add_zero, show ((Kd.slice 3 (Kd.int .i64))).sz = 1 from rfl, Nat.mul_one] at hv552_0
                            replace hv552_0 := Option.some.inj (hv552_0.symm.trans hx552_0)
                            rw [hv552_0] at ge552_0
                            have HL552_0 := Aside0.mk (show Kd.R (Kd.int .i64) 3 _ _ _ _ (rd_L1 t546 x8_1) from ge552_0)
                            clear hv552_0 ge552_0
                            clear hcc552 hce552
                            have HR552_0 := Aside0.mk hi552_0
                            have HC552_0 := Aside0.mk hl552_0
                            clear hi552_0 hl552_0
                            replace p552 := eq_true p552
                            replace q552 := eq_true q552
                            have p553 : 0 ≤ (x8_1 : Int) := of_decide_eq_true (by first | (with_reducible assumption) | assumption)
                            have q553 : x8_1 < (t546.length : Int) := of_decide_eq_true (by first | (with_reducible assumption) | assumption)
                            obtain ⟨ad553, A553_0, c553_0, e553, hx553_0, hl553_0, hi553_0⟩ := at_L1 (Kd.S_reads' HO_5.out).2.2 x8_1 p553 q553
                            obtain rfl : ad552 = ad553 := (by injection e553)
                            obtain ⟨ce553, hce553, hMe553, hcc553⟩ := Kd.S_get HO_5.out [] x8_1 p553 (by first | exact q553 | exact of_decide_eq_true (by first | (with_reducible assumption) | assumption) | (have e_ := (Kd.S_reads' HO_5.out).1; omega))
                            obtain ⟨ve553_0, rfl, ge553_0⟩ := hMe553
                            have hv553_0 := hcc553 0 _ rfl
                            rw [Nat.add_zero, show ((Kd.slice 3 (Kd.int .i64))).sz = 1 from rfl, Nat.mul_one] at hv553_0
                            replace hv553_0 := Option.some.inj (hv553_0.symm.trans hx553_0)
                            rw [hv553_0] at ge553_0
                            have HL553_0 := Aside0.mk (show Kd.R (Kd.int .i64) 3 _ _ _ _ (rd_L1 t546 x8_1) from ge553_0)
                            clear hv553_0 ge553_0
                            clear hcc553 hce553
                            have HR553_0 := Aside0.mk hi553_0
                            have HC553_0 := Aside0.mk hl553_0
                            clear hi553_0 hl553_0
                            replace p553 := eq_true p553
                            replace q553 := eq_true q553
                            have ea_ := Option.some.inj (hx552_0.symm.trans hx553_0)
                            injection ea_ with ea_ en_ ec_
                            subst ea_
                            subst ec_
                            clear en_
                            have p554 : 0 ≤ (x10_2 : Int) := of_decide_eq_true (by first | (with_reducible assumption) | assumption)
                            have q554 : x10_2 < ((rd_L1 t546 x8_1).length : Int) := of_decide_eq_true (by first | (with_reducible assumption) | assumption)
                            obtain ⟨ad554, e554, hx554_0⟩ := Kd.at_int (by repeat (first | (with_reducible exact HR553_0.out) | (with_reducible refine Kd.C_alloc ?_ _) | (with_reducible refine Kd.C_drewN ?_ _) | (with_reducible refine Kd.C_drew ?_) | exact HR553_0.out)) x10_2 p554 q554
                            cases e554
                            replace p554 := eq_true p554
                            replace q554 := eq_true q554
                            have p558 : 0 ≤ ((rd (rd_L1 t546 x8_1) x10_2) : Int) := of_decide_eq_true (by first | (with_reducible assumption) | assumption)
                            have q558 : (rd (rd_L1 t546 x8_1) x10_2) < (l1.length : Int) := of_decide_eq_true (by first | (with_reducible assumption) | assumption)
                            obtain ⟨ad558, e558, hx558_0⟩ := Kd.at_bool HR1.out (rd (rd_L1 t546 x8_1) x10_2) p558 q558
                            (try rw [← Nbq18.out] at hx558_0)
                            cases e558
                            replace hx558_0 := (HB.out.cell (World.block_lt_of_cell? w _ hx558_0)).trans hx558_0
                            replace p558 := eq_true p558
                            replace q558 := eq_true q558
                            go_wp2
                            go_roundg k2
                            case measure => have := HK1.out; have := HK2.out; omega
                            case rel => exact ⟨(x9_2), (wrap64 (x10_2 + 1)), (by first | rfl | (simp; done) | (simp [*]; done)), H', ⟨by have := HK1.out; have := HK2.out; omega⟩, ⟨by (with_reducible repeat (first | apply Kd.S_alloc | apply Kd.S_drewN | apply Kd.S_drew)); exact HO_5.out⟩, ⟨by (with_reducible repeat (first | apply Kd.R_alloc | apply Kd.R_drewN | apply Kd.R_drew)); exact HO_6.out⟩, ⟨by (with_reducible repeat (first | apply Kd.S_alloc | apply Kd.S_drewN | apply Kd.S_drew)); exact HO_7.out⟩, ⟨by (with_reducible repeat (first | apply Kd.R_alloc | apply Kd.R_drewN | apply Kd.R_drew)); exact HO_9.out⟩, ⟨by repeat (first | (with_reducible first | exact HB.out | apply below_alloc | apply pw_below_drewN | apply below_drew1) | exact HB.out)⟩⟩
                          · replace c19 := Bool.eq_false_iff.mpr c19
                            subst c19
                            have H1 : (if x9_2.length < 17592186044416 then (ratlineref10_Cyclic.l1 k2 l1 t546 t549 x7_1 x8_1 (x9_2 ++ [rd (rd_L1 t546 x8_1) x10_2]) (wrap64 (x10_2 + 1))) else (none)) = some r := by rw [if_neg (show ¬ (false = true) by decide)] at H; exact H
                            clear H
                            have H := H1
                            clear H1
                            by_cases c20 : x9_2.length < 17592186044416
                            · rw [if_pos c20] at H
                              have LMc20 := Aside0.mk c20
                              clear c20
                              obtain ⟨y559, hy559⟩ : ∃ y_ : List Int, y_ = (x9_2 ++ [rd (rd_L1 t546 x8_1) x10_2]) := ⟨_, rfl⟩
                              replace H : (ratlineref10_Cyclic.l1 k2 l1 t546 t549 x7_1 x8_1 y559 (wrap64 (x10_2 + 1))) = some r := by first | (rw [hy559]; with_reducible exact H) | (have H2_ := (Option.bind_some _ _).symm.trans H; rw [hy559]; with_reducible exact H2_) | (have H2_ := (Option.bind_some _ _).symm.trans H; with_reducible exact H2_) | with_reducible exact H | (rw [hy559]; exact H) | exact H
                              have Ny559 := Aside0.mk hy559
                              clear hy559
                              have H' := Aside0.mk H
                              clear H
                              have p552 : 0 ≤ (x8_1 : Int) := of_decide_eq_true (by first | (with_reducible assumption) | assumption)
                              have q552 : x8_1 < (t546.length : Int) := of_decide_eq_true (by first | (with_reducible assumption) | assumption)
                              obtain ⟨ad552, A552_0, c552_0, e552, hx552_0, hl552_0, hi552_0⟩ := at_L1 (Kd.S_reads' HO_5.out).2.2 x8_1 p552 q552
                              cases e552
                              obtain ⟨ce552, hce552, hMe552, hcc552⟩ := Kd.S_get HO_5.out [] x8_1 p552 (by first | exact q552 | exact of_decide_eq_true (by first | (with_reducible assumption) | assumption) | (have e_ := (Kd.S_reads' HO_5.out).1; omega))
                              obtain ⟨ve552_0, rfl, ge552_0⟩ := hMe552
                              have hv552_0 := hcc552 0 _ rfl
                              rw [Nat.add_zero, show ((Kd.slice 3 (Kd.int .i64))).sz = 1 from rfl, Nat.mul_one] at hv552_0
                              replace hv552_0 := Option.some.inj (hv552_0.symm.trans hx552_0)
                              rw [hv552_0] at ge552_0
                              have HL552_0 := Aside0.mk (show Kd.R (Kd.int .i64) 3 _ _ _ _ (rd_L1 t546 x8_1) from ge552_0)
                              clear hv552_0 ge552_0
                              clear hcc552 hce552
                              have HR552_0 := Aside0.mk hi552_0
                              have HC552_0 := Aside0.mk hl552_0
                              clear hi552_0 hl552_0
                              replace p552 := eq_true p552
                              replace q552 := eq_true q552
                              have p553 : 0 ≤ (x8_1 : Int) := of_decide_eq_true (by first | (with_reducible assumption) | assumption)
                              have q553 : x8_1 < (t546.length : Int) := of_decide_eq_true (by first | (with_reducible assumption) | assumption)
                              obtain ⟨ad553, A553_0, c553_0, e553, hx553_0, hl553_0, hi553_0⟩ := at_L1 (Kd.S_reads' HO_5.out).2.2 x8_1 p553 q553
                              obtain rfl : ad552 = ad553 := (by injection e553)
                              obtain ⟨ce553, hce553, hMe553, hcc553⟩ := Kd.S_get HO_5.out [] x8_1 p553 (by first | exact q553 | exact of_decide_eq_true (by first | (with_reducible assumption) | assumption) | (have e_ := (Kd.S_reads' HO_5.out).1; omega))
                              obtain ⟨ve553_0, rfl, ge553_0⟩ := hMe553
                              have hv553_0 := hcc553 0 _ rfl
                              rw [Nat.add_zero, show ((Kd.slice 3 (Kd.int .i64))).sz = 1 from rfl, Nat.mul_one] at hv553_0
                              replace hv553_0 := Option.some.inj (hv553_0.symm.trans hx553_0)
                              rw [hv553_0] at ge553_0
                              have HL553_0 := Aside0.mk (show Kd.R (Kd.int .i64) 3 _ _ _ _ (rd_L1 t546 x8_1) from ge553_0)
                              clear hv553_0 ge553_0
                              clear hcc553 hce553
                              have HR553_0 := Aside0.mk hi553_0
                              have HC553_0 := Aside0.mk hl553_0
                              clear hi553_0 hl553_0
                              replace p553 := eq_true p553
                              replace q553 := eq_true q553
                              have ea_ := Option.some.inj (hx552_0.symm.trans hx553_0)
                              injection ea_ with ea_ en_ ec_
                              subst ea_
                              subst ec_
                              clear en_
                              have p554 : 0 ≤ (x10_2 : Int) := of_decide_eq_true (by first | (with_reducible assumption) | assumption)
                              have q554 : x10_2 < ((rd_L1 t546 x8_1).length : Int) := of_decide_eq_true (by first | (with_reducible assumption) | assumption)
                              obtain ⟨ad554, e554, hx554_0⟩ := Kd.at_int (by repeat (first | (with_reducible exact HR553_0.out) | (with_reducible refine Kd.C_alloc ?_ _) | (with_reducible refine Kd.C_drewN ?_ _) | (with_reducible refine Kd.C_drew ?_) | exact HR553_0.out)) x10_2 p554 q554
                              cases e554
                              replace p554 := eq_true p554
                              replace q554 := eq_true q554
                              have p558 : 0 ≤ ((rd (rd_L1 t546 x8_1) x10_2) : Int) := of_decide_eq_true (by first | (with_reducible assumption) | assumption)
                              have q558 : (rd (rd_L1 t546 x8_1) x10_2) < (l1.length : Int) := of_decide_eq_true (by first | (with_reducible assumption) | assumption)
                              obtain ⟨ad558, e558, hx558_0⟩ := Kd.at_bool HR1.out (rd (rd_L1 t546 x8_1) x10_2) p558 q558
                              (try rw [← Nbq18.out] at hx558_0)
                              cases e558
                              replace hx558_0 := (HB.out.cell (World.block_lt_of_cell? w _ hx558_0)).trans hx558_0
                              replace p558 := eq_true p558
                              replace q558 := eq_true q558
                              go_wp2_with (first | ((with_reducible refine gate_builtin (b := .append) (xs := #[.tmp 51, .tmp 53]) rfl ?_); at_builtin; refine Kd.R_append (Kd.int .i64) (w0 := w) w.heap.size rfl (.tmp 51) (.tmp 53) 25 3 (.int .i64 0) 8 rfl Try.underlying25 info3 rfl (by decide) (by omega) u9 x9_2 (rd (rd_L1 t546 x8_1) x10_2) [.int .i64 (rd (rd_L1 t546 x8_1) x10_2)] (fun _ => True) (fun _ => False) rfl rfl ?aP (fun _ hk => hk.elim) ?aF ?aO ?aB ?aS ?aL ?_; (case aP => exact rfl); (case aB => exact (by repeat (first | (with_reducible first | exact HB.out | apply below_alloc | apply pw_below_drewN | apply below_drew1) | exact HB.out))); (case aF => exact (fun _ _ => trivial)); (case aO => exact (by (with_reducible repeat (first | apply Kd.R_alloc | apply Kd.R_drewN | apply Kd.R_drew)); exact HO_9.out)); (case aS => exact (below_size (by repeat (first | (with_reducible first | exact HB.out | apply below_alloc | apply pw_below_drewN | apply below_drew1) | exact HB.out)))); (case aL => have := LMc20.out; omega); intro v560 w21 ho hb hg hat; rw [← Ny559.out] at ho; have n0_ := Aside0.mk (Kd.S_after (ok := (fun k_ => some k_ ≠ (u7 : Value).ownBlock)) (by (with_reducible repeat (first | apply Kd.S_alloc | apply Kd.S_drewN | apply Kd.S_drew)); exact HO_5.out) hg hat); have n1_ := Aside0.mk (Kd.R_over' (by (with_reducible repeat (first | apply Kd.R_alloc | apply Kd.R_drewN | apply Kd.R_drew)); exact HO_6.out) (Kd.R_typed (by (with_reducible repeat (first | apply Kd.R_alloc | apply Kd.R_drewN | apply Kd.R_drew)); exact HO_9.out)) (by decide) hg); have n2_ := Aside0.mk (Kd.S_after (ok := (fun k_ => some k_ ≠ (.slice (some ad552) t546.length co6 : Value).ownBlock)) (by (with_reducible repeat (first | apply Kd.S_alloc | apply Kd.S_drewN | apply Kd.S_drew)); exact HO_7.out) hg hat); have n3_ := Aside0.mk (Kd.R_after (ok := (fun k_ => some k_ ≠ (.slice (some ad552) t546.length co6 : Value).ownBlock ∧ some k_ ≠ (u7 : Value).ownBlock)) (by (with_reducible repeat (first | apply Kd.R_alloc | apply Kd.R_drewN | apply Kd.R_drew)); exact Kd.R_mono HL552_0.out (fun _ hk => ⟨⟨hk.2, hk.1.1⟩, hk.1.2⟩)) hg hat); have n4_ := Aside0.mk (Kd.R_after (ok := (fun k_ => some k_ ≠ (.slice (some ad552) t546.length co6 : Value).ownBlock ∧ some k_ ≠ (u7 : Value).ownBlock)) (by (with_reducible repeat (first | apply Kd.R_alloc | apply Kd.R_drewN | apply Kd.R_drew)); exact Kd.R_mono HL553_0.out (fun _ hk => ⟨⟨hk.2, hk.1.1⟩, hk.1.2⟩)) hg hat); have n5_ := Aside0.mk (hb); have n6_ := Aside0.mk (ho); clear HO_5; clear HO_6; clear HO_7; clear HL552_0; clear HL553_0; clear HB; clear HO_9; have HO_5 := n0_; have HO_6 := n1_; have HO_7 := n2_; have HL552_0 := n3_; have HL553_0 := n4_; have HB := n5_; have HO561 := n6_; clear n0_ n1_ n2_ n3_ n4_ n5_ n6_; clear ho hb hg hat))
                              go_roundg k2
                              case measure => have := HK1.out; have := HK2.out; omega
                              case rel => exact ⟨(y559), (wrap64 (x10_2 + 1)), (by first | rfl | (simp; done) | (simp [*]; done)), H', ⟨by have := HK1.out; have := HK2.out; omega⟩, ⟨by (with_reducible repeat (first | apply Kd.S_alloc | apply Kd.S_drewN | apply Kd.S_drew)); exact HO_5.out⟩, ⟨by (with_reducible repeat (first | apply Kd.R_alloc | apply Kd.R_drewN | apply Kd.R_drew)); exact HO_6.out⟩, ⟨by (with_reducible repeat (first | apply Kd.S_alloc | apply Kd.S_drewN | apply Kd.S_drew)); exact HO_7.out⟩, ⟨by (with_reducible repeat (first | apply Kd.R_alloc | apply Kd.R_drewN | apply Kd.R_drew)); exact HO561.out⟩, ⟨by repeat (first | (with_reducible first | exact HB.out | apply below_alloc | apply pw_below_drewN | apply below_drew1) | exact HB.out)⟩⟩
                            · rw [if_neg c20] at H
                              exact absurd H (by simp)
                        · rw [if_neg c17] at H
                          exact absurd H (by simp)
                      · rw [if_neg c16] at H
                        exact absurd H (by simp)
                  · rw [if_neg c12] at H
                    exact absurd H (by simp)
                · rw [if_neg c11] at H
                  have c11b0 : decide (x10_2 < ((rd_L1 t546 x8_1).length : Int)) = false := decide_eq_false c11
                  clear c11
                  by_cases c22 : x8_1 < (l1.length : Int)
                  · rw [if_pos c22] at H
                    have c22b0 : decide (x8_1 < (l1.length : Int)) = true := decide_eq_true c22
                    clear c22
                    obtain ⟨bq23, hbq23⟩ : ∃ b_ : Bool, b_ = (rdOf false l1 x8_1) := ⟨_, rfl⟩
                    replace H : (if bq23 = true then (if x7_1.length < 5864062014805 then (ratlineref10_Cyclic.l0 k2 l1 t546 t549 (x7_1 ++ [([] : List Int)]) (wrap64 (x8_1 + 1))) else (none)) else (if x8_1 < (t549.length : Int) then (if rdOf false t549 x8_1 = true then (if x7_1.length < 5864062014805 then (ratlineref10_Cyclic.l0 k2 l1 t546 t549 (x7_1 ++ [x9_2]) (wrap64 (x8_1 + 1))) else (none)) else (if x7_1.length < 5864062014805 then (ratlineref10_Cyclic.l0 k2 l1 t546 t549 (x7_1 ++ [([] : List Int)]) (wrap64 (x8_1 + 1))) else (none))) else (none))) = some r := by rw [← hbq23] at H; exact H
                    have Nbq23 := Aside0.mk hbq23
                    clear hbq23
                    by_cases c24 : bq23 = true
                    · subst c24
                      have H1 : (if x7_1.length < 5864062014805 then (ratlineref10_Cyclic.l0 k2 l1 t546 t549 (x7_1 ++ [([] : List Int)]) (wrap64 (x8_1 + 1))) else (none)) = some r := by rw [if_pos rfl] at H; exact H
                      clear H
                      have H := H1
                      clear H1
                      by_cases c25 : x7_1.length < 5864062014805
                      · rw [if_pos c25] at H
                        have LMc25 := Aside0.mk c25
                        clear c25
                        obtain ⟨y563, hy563⟩ : ∃ y_ : List (List Int), y_ = (x7_1 ++ [([] : List Int)]) := ⟨_, rfl⟩
                        replace H : (ratlineref10_Cyclic.l0 k2 l1 t546 t549 y563 (wrap64 (x8_1 + 1))) = some r := by first | (rw [hy563]; with_reducible exact H) | (have H2_ := (Option.bind_some _ _).symm.trans H; rw [hy563]; with_reducible exact H2_) | (have H2_ := (Option.bind_some _ _).symm.trans H; with_reducible exact H2_) | with_reducible exact H | (rw [hy563]; exact H) | exact H
                        have Ny563 := Aside0.mk hy563
                        clear hy563
                        have H' := Aside0.mk H
                        clear H
                        have p552 : 0 ≤ (x8_1 : Int) := of_decide_eq_true (by first | (with_reducible assumption) | assumption)
                        have q552 : x8_1 < (t546.length : Int) := of_decide_eq_true (by first | (with_reducible assumption) | assumption)
                        obtain ⟨ad552, A552_0, c552_0, e552, hx552_0, hl552_0, hi552_0⟩ := at_L1 (Kd.S_reads' HO_5.out).2.2 x8_1 p552 q552
                        cases e552
                        obtain ⟨ce552, hce552, hMe552, hcc552⟩ := Kd.S_get HO_5.out [] x8_1 p552 (by first | exact q552 | exact of_decide_eq_true (by first | (with_reducible assumption) | assumption) | (have e_ := (Kd.S_reads' HO_5.out).1; omega))
                        obtain ⟨ve552_0, rfl, ge552_0⟩ := hMe552
                        have hv552_0 := hcc552 0 _ rfl
                        rw [Nat.add_zero, show ((Kd.slice 3 (Kd.int .i64))).sz = 1 from rfl, Nat.mul_one] at hv552_0
                        replace hv552_0 := Option.some.inj (hv552_0.symm.trans hx552_0)
                        rw [hv552_0] at ge552_0
                        have HL552_0 := Aside0.mk (show Kd.R (Kd.int .i64) 3 _ _ _ _ (rd_L1 t546 x8_1) from ge552_0)
                        clear hv552_0 ge552_0
                        clear hcc552 hce552
                        have HR552_0 := Aside0.mk hi552_0
                        have HC552_0 := Aside0.mk hl552_0
                        clear hi552_0 hl552_0
                        replace p552 := eq_true p552
                        replace q552 := eq_true q552
                        have p562 : 0 ≤ (x8_1 : Int) := of_decide_eq_true (by first | (with_reducible assumption) | assumption)
                        have q562 : x8_1 < (l1.length : Int) := of_decide_eq_true (by first | (with_reducible assumption) | assumption)
                        obtain ⟨ad562, e562, hx562_0⟩ := Kd.at_bool HR1.out x8_1 p562 q562
                        (try rw [← Nbq23.out] at hx562_0)
                        cases e562
                        replace hx562_0 := (HB.out.cell (World.block_lt_of_cell? w _ hx562_0)).trans hx562_0
                        replace p562 := eq_true p562
                        replace q562 := eq_true q562
                        go_wp2_with (first | ((with_reducible refine gate_builtin (b := .append) (xs := #[.tmp 72, .tmp 74]) rfl ?_); at_builtin; refine Kd.S_append (Kd.slice 3 (Kd.int .i64)) (w0 := w) w.heap.size rfl (.tmp 72) (.tmp 74) 22 25 (.slice none 0 0) 24 rfl Try.underlying22 info25 rfl (by decide) (by omega) u7 x7_1 ([] : List Int) [.slice none 0 0] (fun k_ => some k_ ≠ (.slice (some ad552) t546.length co6 : Value).ownBlock ∧ some k_ ≠ (u9 : Value).ownBlock) (fun _ => False) rfl rfl ?aP (fun k_ hk_ => hk_.elim) ?aF ?aO ?aB ?aS ?aL ?_; (case aP => exact Kd.M_row (Kd.R_nil _ _ _ _ _)); (case aB => exact (by repeat (first | (with_reducible first | exact HB.out | apply below_alloc | apply pw_below_drewN | apply below_drew1) | exact HB.out))); (case aF => exact (fun k_ hk => ⟨Kd.fresh' (Kd.S_lt (by (with_reducible repeat (first | apply Kd.S_alloc | apply Kd.S_drewN | apply Kd.S_drew)); exact HO_5.out)) k_ hk, Kd.fresh' (Kd.R_lt (by (with_reducible repeat (first | apply Kd.R_alloc | apply Kd.R_drewN | apply Kd.R_drew)); exact HO_9.out)) k_ hk⟩)); (case aO => exact (by (with_reducible repeat (first | apply Kd.S_alloc | apply Kd.S_drewN | apply Kd.S_drew)); exact Kd.S_mono HO_7.out (fun k_ hk => ⟨⟨hk.1, hk.2⟩, fun e_ => e_⟩))); (case aS => exact (below_size (by repeat (first | (with_reducible first | exact HB.out | apply below_alloc | apply pw_below_drewN | apply below_drew1) | exact HB.out)))); (case aL => have := LMc25.out; omega); intro v564 w26 ho hb hg hat; rw [← Ny563.out] at ho; have n0_ := Aside0.mk (Kd.S_after (ok := (fun k_ => some k_ ≠ (u9 : Value).ownBlock)) (by (with_reducible repeat (first | apply Kd.S_alloc | apply Kd.S_drewN | apply Kd.S_drew)); exact Kd.S_mono HO_5.out (fun _ hk => ⟨hk.2, hk.1⟩)) hg hat); have n1_ := Aside0.mk (Kd.R_over' (by (with_reducible repeat (first | apply Kd.R_alloc | apply Kd.R_drewN | apply Kd.R_drew)); exact HO_6.out) (Kd.S_typed (by (with_reducible repeat (first | apply Kd.S_alloc | apply Kd.S_drewN | apply Kd.S_drew)); exact HO_7.out)) (by decide) hg); have n2_ := Aside0.mk (Kd.R_over' (by (with_reducible repeat (first | apply Kd.R_alloc | apply Kd.R_drewN | apply Kd.R_drew)); exact HO_9.out) (Kd.S_typed (by (with_reducible repeat (first | apply Kd.S_alloc | apply Kd.S_drewN | apply Kd.S_drew)); exact HO_7.out)) (by decide) hg); have n3_ := Aside0.mk (Kd.R_after (ok := (fun k_ => some k_ ≠ (.slice (some ad552) t546.length co6 : Value).ownBlock ∧ some k_ ≠ (u9 : Value).ownBlock)) (by (with_reducible repeat (first | apply Kd.R_alloc | apply Kd.R_drewN | apply Kd.R_drew)); exact Kd.R_mono HL552_0.out (fun _ hk => ⟨⟨hk.2, hk.1.2⟩, hk.1.1⟩)) hg hat); have n4_ := Aside0.mk (hb); have n5_ := Aside0.mk (ho); clear HO_5; clear HO_6; clear HO_9; clear HL552_0; clear HB; clear HO_7; have HO_5 := n0_; have HO_6 := n1_; have HO_9 := n2_; have HL552_0 := n3_; have HB := n4_; have HO565 := n5_; clear n0_ n1_ n2_ n3_ n4_ n5_; clear ho hb hg hat))
                        go_roundg k2
                        case measure => have := HK1.out; have := HK2.out; omega
                        case rel => exact ⟨(y563), (wrap64 (x8_1 + 1)), (by first | rfl | (simp; done) | (simp [*]; done)), H', ⟨by have := HK1.out; have := HK2.out; omega⟩, ⟨by (with_reducible repeat (first | apply Kd.S_alloc | apply Kd.S_drewN | apply Kd.S_drew)); exact Kd.S_mono HO_5.out (fun _ hk => hk.2)⟩, ⟨by (with_reducible repeat (first | apply Kd.R_alloc | apply Kd.R_drewN | apply Kd.R_drew)); exact HO_6.out⟩, ⟨by (with_reducible repeat (first | apply Kd.S_alloc | apply Kd.S_drewN | apply Kd.S_drew)); exact Kd.S_mono HO565.out (fun _ hk => hk.1)⟩, ⟨by repeat (first | (with_reducible first | exact HB.out | apply below_alloc | apply pw_below_drewN | apply below_drew1) | exact HB.out)⟩⟩
                      · rw [if_neg c25] at H
                        exact absurd H (by simp)
                    · replace c24 := Bool.eq_false_iff.mpr c24
                      subst c24
                      have H1 : (if x8_1 < (t549.length : Int) then (if rdOf false t549 x8_1 = true then (if x7_1.length < 5864062014805 then (ratlineref10_Cyclic.l0 k2 l1 t546 t549 (x7_1 ++ [x9_2]) (wrap64 (x8_1 + 1))) else (none)) else (if x7_1.length < 5864062014805 then (ratlineref10_Cyclic.l0 k2 l1 t546 t549 (x7_1 ++ [([] : List Int)]) (wrap64 (x8_1 + 1))) else (none))) else (none)) = some r := by rw [if_neg (show ¬ (false = true) by decide)] at H; exact H
                      clear H
                      have H := H1
                      clear H1
                      by_cases c27 : x8_1 < (t549.length : Int)
                      · rw [if_pos c27] at H
                        have c27b0 : decide (x8_1 < (t549.length : Int)) = true := decide_eq_true c27
                        clear c27
                        obtain ⟨bq28, hbq28⟩ : ∃ b_ : Bool, b_ = (rdOf false t549 x8_1) := ⟨_, rfl⟩
                        replace H : (if bq28 = true then (if x7_1.length < 5864062014805 then (ratlineref10_Cyclic.l0 k2 l1 t546 t549 (x7_1 ++ [x9_2]) (wrap64 (x8_1 + 1))) else (none)) else (if x7_1.length < 5864062014805 then (ratlineref10_Cyclic.l0 k2 l1 t546 t549 (x7_1 ++ [([] : List Int)]) (wrap64 (x8_1 + 1))) else (none))) = some r := by rw [← hbq28] at H; exact H
                        have Nbq28 := Aside0.mk hbq28
                        clear hbq28
                        by_cases c29 : bq28 = true
                        · subst c29
                          have H1 : (if x7_1.length < 5864062014805 then (ratlineref10_Cyclic.l0 k2 l1 t546 t549 (x7_1 ++ [x9_2]) (wrap64 (x8_1 + 1))) else (none)) = some r := by rw [if_pos rfl] at H; exact H
                          clear H
                          have H := H1
                          clear H1
                          by_cases c30 : x7_1.length < 5864062014805
                          · rw [if_pos c30] at H
                            have LMc30 := Aside0.mk c30
                            clear c30
                            obtain ⟨y567, hy567⟩ : ∃ y_ : List (List Int), y_ = (x7_1 ++ [x9_2]) := ⟨_, rfl⟩
                            replace H : (ratlineref10_Cyclic.l0 k2 l1 t546 t549 y567 (wrap64 (x8_1 + 1))) = some r := by first | (rw [hy567]; with_reducible exact H) | (have H2_ := (Option.bind_some _ _).symm.trans H; rw [hy567]; with_reducible exact H2_) | (have H2_ := (Option.bind_some _ _).symm.trans H; with_reducible exact H2_) | with_reducible exact H | (rw [hy567]; exact H) | exact H
                            have Ny567 := Aside0.mk hy567
                            clear hy567
                            have H' := Aside0.mk H
                            clear H
                            have p552 : 0 ≤ (x8_1 : Int) := of_decide_eq_true (by first | (with_reducible assumption) | assumption)
                            have q552 : x8_1 < (t546.length : Int) := of_decide_eq_true (by first | (with_reducible assumption) | assumption)
                            obtain ⟨ad552, A552_0, c552_0, e552, hx552_0, hl552_0, hi552_0⟩ := at_L1 (Kd.S_reads' HO_5.out).2.2 x8_1 p552 q552
                            cases e552
                            obtain ⟨ce552, hce552, hMe552, hcc552⟩ := Kd.S_get HO_5.out [] x8_1 p552 (by first | exact q552 | exact of_decide_eq_true (by first | (with_reducible assumption) | assumption) | (have e_ := (Kd.S_reads' HO_5.out).1; omega))
                            obtain ⟨ve552_0, rfl, ge552_0⟩ := hMe552
                            have hv552_0 := hcc552 0 _ rfl
                            rw [Nat.add_zero, show ((Kd.slice 3 (Kd.int .i64))).sz = 1 from rfl, Nat.mul_one] at hv552_0
                            replace hv552_0 := Option.some.inj (hv552_0.symm.trans hx552_0)
                            rw [hv552_0] at ge552_0
                            have HL552_0 := Aside0.mk (show Kd.R (Kd.int .i64) 3 _ _ _ _ (rd_L1 t546 x8_1) from ge552_0)
                            clear hv552_0 ge552_0
                            clear hcc552 hce552
                            have HR552_0 := Aside0.mk hi552_0
                            have HC552_0 := Aside0.mk hl552_0
                            clear hi552_0 hl552_0
                            replace p552 := eq_true p552
                            replace q552 := eq_true q552
                            have p562 : 0 ≤ (x8_1 : Int) := of_decide_eq_true (by first | (with_reducible assumption) | assumption)
                            have q562 : x8_1 < (l1.length : Int) := of_decide_eq_true (by first | (with_reducible assumption) | assumption)
                            obtain ⟨ad562, e562, hx562_0⟩ := Kd.at_bool HR1.out x8_1 p562 q562
                            (try rw [← Nbq23.out] at hx562_0)
                            (try rw [← Nbq28.out] at hx562_0)
                            cases e562
                            replace hx562_0 := (HB.out.cell (World.block_lt_of_cell? w _ hx562_0)).trans hx562_0
                            replace p562 := eq_true p562
                            replace q562 := eq_true q562
                            obtain ⟨Ao31, co31, eo31⟩ := Kd.R_slice HO_6.out
                            subst eo31
                            have p566 : 0 ≤ (x8_1 : Int) := of_decide_eq_true (by first | (with_reducible assumption) | assumption)
                            have q566 : x8_1 < (t549.length : Int) := of_decide_eq_true (by first | (with_reducible assumption) | assumption)
                            obtain ⟨ad566, e566, hx566_0⟩ := Kd.at_bool (Kd.R_reads' HO_6.out).2.2 x8_1 p566 q566
                            (try rw [← Nbq23.out] at hx566_0)
                            (try rw [← Nbq28.out] at hx566_0)
                            cases e566
                            replace p566 := eq_true p566
                            replace q566 := eq_true q566
                            obtain ⟨Ao33, co33, eo33⟩ := Kd.R_slice HO_9.out
                            subst eo33
                            go_wp2_with (first | ((with_reducible refine gate_builtin (b := .append) (xs := #[.tmp 72, .tmp 74]) rfl ?_); at_builtin; refine Kd.S_append (Kd.slice 3 (Kd.int .i64)) (w0 := w) w.heap.size rfl (.tmp 72) (.tmp 74) 22 25 (.slice none 0 0) 24 rfl Try.underlying22 info25 rfl (by decide) (by omega) u7 x7_1 x9_2 [.slice Ao33 x9_2.length co33] (fun k_ => some k_ ≠ (.slice (some ad552) t546.length co6 : Value).ownBlock) (fun k_ => some k_ = (.slice Ao33 x9_2.length co33 : Value).ownBlock) rfl rfl ?aP (fun k_ hk_ => ((Kd.R_mono (ok' := fun k_ => ((fun k_ => some k_ ≠ (.slice (some ad552) t546.length co6 : Value).ownBlock)) k_ ∧ some k_ ≠ (u7 : Value).ownBlock) (Kd.R_apart' (Kd.R_apart' (HO_9.out) (Kd.S_typed HO_5.out) (by decide)) (Kd.S_typed HO_7.out) (by decide)) (fun k_ hk => ⟨hk.1.2, hk.2⟩))).1 k_ hk_.symm) ?aF ?aO ?aB ?aS ?aL ?_; (case aP => exact Kd.M_row (Kd.R_mono (Kd.R_tight rfl (Kd.R_mono (ok' := fun k_ => ((fun k_ => some k_ ≠ (.slice (some ad552) t546.length co6 : Value).ownBlock)) k_ ∧ some k_ ≠ (u7 : Value).ownBlock) (Kd.R_apart' (Kd.R_apart' (HO_9.out) (Kd.S_typed HO_5.out) (by decide)) (Kd.S_typed HO_7.out) (by decide)) (fun k_ hk => ⟨hk.1.2, hk.2⟩))) (fun _ h_ => h_))); (case aB => exact (by repeat (first | (with_reducible first | exact HB.out | apply below_alloc | apply pw_below_drewN | apply below_drew1) | exact HB.out))); (case aF => exact (fun k_ hk => Kd.fresh' (Kd.S_lt (by (with_reducible repeat (first | apply Kd.S_alloc | apply Kd.S_drewN | apply Kd.S_drew)); exact HO_5.out)) k_ hk)); (case aO => exact (by (with_reducible repeat (first | apply Kd.S_alloc | apply Kd.S_drewN | apply Kd.S_drew)); exact Kd.S_mono HO_7.out (fun k_ hk => ⟨hk.1, fun e_ => hk.2 e_⟩))); (case aS => exact (below_size (by repeat (first | (with_reducible first | exact HB.out | apply below_alloc | apply pw_below_drewN | apply below_drew1) | exact HB.out)))); (case aL => have := LMc30.out; omega); intro v568 w32 ho hb hg hat; rw [← Ny567.out] at ho; have n0_ := Aside0.mk (Kd.S_after (ok := (fun k_ => some k_ ≠ (.slice Ao33 x9_2.length co33 : Value).ownBlock)) (by (with_reducible repeat (first | apply Kd.S_alloc | apply Kd.S_drewN | apply Kd.S_drew)); exact Kd.S_mono HO_5.out (fun _ hk => ⟨hk.2, hk.1⟩)) hg hat); have n1_ := Aside0.mk (Kd.R_over' (by (with_reducible repeat (first | apply Kd.R_alloc | apply Kd.R_drewN | apply Kd.R_drew)); exact HO_6.out) (Kd.S_typed (by (with_reducible repeat (first | apply Kd.S_alloc | apply Kd.S_drewN | apply Kd.S_drew)); exact HO_7.out)) (by decide) hg); have n2_ := Aside0.mk (Kd.R_after (ok := (fun k_ => some k_ ≠ (.slice (some ad552) t546.length co6 : Value).ownBlock ∧ some k_ ≠ (.slice Ao33 x9_2.length co33 : Value).ownBlock)) (by (with_reducible repeat (first | apply Kd.R_alloc | apply Kd.R_drewN | apply Kd.R_drew)); exact Kd.R_mono HL552_0.out (fun _ hk => ⟨⟨hk.2, hk.1.2⟩, hk.1.1⟩)) hg hat); have n3_ := Aside0.mk (hb); have n4_ := Aside0.mk (ho); clear HO_5; clear HO_6; clear HL552_0; clear HB; clear HO_7; clear HO_9; have HO_5 := n0_; have HO_6 := n1_; have HL552_0 := n2_; have HB := n3_; have HO569 := n4_; clear n0_ n1_ n2_ n3_ n4_; clear ho hb hg hat))
                            go_roundg k2
                            case measure => have := HK1.out; have := HK2.out; omega
                            case rel => exact ⟨(y567), (wrap64 (x8_1 + 1)), (by first | rfl | (simp; done) | (simp [*]; done)), H', ⟨by have := HK1.out; have := HK2.out; omega⟩, ⟨by (with_reducible repeat (first | apply Kd.S_alloc | apply Kd.S_drewN | apply Kd.S_drew)); exact Kd.S_mono HO_5.out (fun _ hk => hk.2)⟩, ⟨by (with_reducible repeat (first | apply Kd.R_alloc | apply Kd.R_drewN | apply Kd.R_drew)); exact HO_6.out⟩, ⟨by (with_reducible repeat (first | apply Kd.S_alloc | apply Kd.S_drewN | apply Kd.S_drew)); exact HO569.out⟩, ⟨by repeat (first | (with_reducible first | exact HB.out | apply below_alloc | apply pw_below_drewN | apply below_drew1) | exact HB.out)⟩⟩
                          · rw [if_neg c30] at H
                            exact absurd H (by simp)
                        · replace c29 := Bool.eq_false_iff.mpr c29
                          subst c29
                          have H1 : (if x7_1.length < 5864062014805 then (ratlineref10_Cyclic.l0 k2 l1 t546 t549 (x7_1 ++ [([] : List Int)]) (wrap64 (x8_1 + 1))) else (none)) = some r := by rw [if_neg (show ¬ (false = true) by decide)] at H; exact H
                          clear H
                          have H := H1
                          clear H1
                          by_cases c34 : x7_1.length < 5864062014805
                          · rw [if_pos c34] at H
                            have LMc34 := Aside0.mk c34
                            clear c34
                            obtain ⟨y570, hy570⟩ : ∃ y_ : List (List Int), y_ = (x7_1 ++ [([] : List Int)]) := ⟨_, rfl⟩
                            replace H : (ratlineref10_Cyclic.l0 k2 l1 t546 t549 y570 (wrap64 (x8_1 + 1))) = some r := by first | (rw [hy570]; with_reducible exact H) | (have H2_ := (Option.bind_some _ _).symm.trans H; rw [hy570]; with_reducible exact H2_) | (have H2_ := (Option.bind_some _ _).symm.trans H; with_reducible exact H2_) | with_reducible exact H | (rw [hy570]; exact H) | exact H
                            have Ny570 := Aside0.mk hy570
                            clear hy570
                            have H' := Aside0.mk H
                            clear H
                            have p552 : 0 ≤ (x8_1 : Int) := of_decide_eq_true (by first | (with_reducible assumption) | assumption)
                            have q552 : x8_1 < (t546.length : Int) := of_decide_eq_true (by first | (with_reducible assumption) | assumption)
                            obtain ⟨ad552, A552_0, c552_0, e552, hx552_0, hl552_0, hi552_0⟩ := at_L1 (Kd.S_reads' HO_5.out).2.2 x8_1 p552 q552
                            cases e552
                            obtain ⟨ce552, hce552, hMe552, hcc552⟩ := Kd.S_get HO_5.out [] x8_1 p552 (by first | exact q552 | exact of_decide_eq_true (by first | (with_reducible assumption) | assumption) | (have e_ := (Kd.S_reads' HO_5.out).1; omega))
                            obtain ⟨ve552_0, rfl, ge552_0⟩ := hMe552
                            have hv552_0 := hcc552 0 _ rfl
                            rw [Nat.add_zero, show ((Kd.slice 3 (Kd.int .i64))).sz = 1 from rfl, Nat.mul_one] at hv552_0
                            replace hv552_0 := Option.some.inj (hv552_0.symm.trans hx552_0)
                            rw [hv552_0] at ge552_0
                            have HL552_0 := Aside0.mk (show Kd.R (Kd.int .i64) 3 _ _ _ _ (rd_L1 t546 x8_1) from ge552_0)
                            clear hv552_0 ge552_0
                            clear hcc552 hce552
                            have HR552_0 := Aside0.mk hi552_0
                            have HC552_0 := Aside0.mk hl552_0
                            clear hi552_0 hl552_0
                            replace p552 := eq_true p552
                            replace q552 := eq_true q552
                            have p562 : 0 ≤ (x8_1 : Int) := of_decide_eq_true (by first | (with_reducible assumption) | assumption)
                            have q562 : x8_1 < (l1.length : Int) := of_decide_eq_true (by first | (with_reducible assumption) | assumption)
                            obtain ⟨ad562, e562, hx562_0⟩ := Kd.at_bool HR1.out x8_1 p562 q562
                            (try rw [← Nbq23.out] at hx562_0)
                            (try rw [← Nbq28.out] at hx562_0)
                            cases e562
                            replace hx562_0 := (HB.out.cell (World.block_lt_of_cell? w _ hx562_0)).trans hx562_0
                            replace p562 := eq_true p562
                            replace q562 := eq_true q562
                            obtain ⟨Ao35, co35, eo35⟩ := Kd.R_slice HO_6.out
                            subst eo35
                            have p566 : 0 ≤ (x8_1 : Int) := of_decide_eq_true (by first | (with_reducible assumption) | assumption)
                            have q566 : x8_1 < (t549.length : Int) := of_decide_eq_true (by first | (with_reducible assumption) | assumption)
                            obtain ⟨ad566, e566, hx566_0⟩ := Kd.at_bool (Kd.R_reads' HO_6.out).2.2 x8_1 p566 q566
                            (try rw [← Nbq23.out] at hx566_0)
                            (try rw [← Nbq28.out] at hx566_0)
                            cases e566
                            replace p566 := eq_true p566
                            replace q566 := eq_true q566
                            go_wp2_with (first | ((with_reducible refine gate_builtin (b := .append) (xs := #[.tmp 72, .tmp 74]) rfl ?_); at_builtin; refine Kd.S_append (Kd.slice 3 (Kd.int .i64)) (w0 := w) w.heap.size rfl (.tmp 72) (.tmp 74) 22 25 (.slice none 0 0) 24 rfl Try.underlying22 info25 rfl (by decide) (by omega) u7 x7_1 ([] : List Int) [.slice none 0 0] (fun k_ => some k_ ≠ (.slice (some ad552) t546.length co6 : Value).ownBlock ∧ some k_ ≠ (u9 : Value).ownBlock) (fun _ => False) rfl rfl ?aP (fun k_ hk_ => hk_.elim) ?aF ?aO ?aB ?aS ?aL ?_; (case aP => exact Kd.M_row (Kd.R_nil _ _ _ _ _)); (case aB => exact (by repeat (first | (with_reducible first | exact HB.out | apply below_alloc | apply pw_below_drewN | apply below_drew1) | exact HB.out))); (case aF => exact (fun k_ hk => ⟨Kd.fresh' (Kd.S_lt (by (with_reducible repeat (first | apply Kd.S_alloc | apply Kd.S_drewN | apply Kd.S_drew)); exact HO_5.out)) k_ hk, Kd.fresh' (Kd.R_lt (by (with_reducible repeat (first | apply Kd.R_alloc | apply Kd.R_drewN | apply Kd.R_drew)); exact HO_9.out)) k_ hk⟩)); (case aO => exact (by (with_reducible repeat (first | apply Kd.S_alloc | apply Kd.S_drewN | apply Kd.S_drew)); exact Kd.S_mono HO_7.out (fun k_ hk => ⟨⟨hk.1, hk.2⟩, fun e_ => e_⟩))); (case aS => exact (below_size (by repeat (first | (with_reducible first | exact HB.out | apply below_alloc | apply pw_below_drewN | apply below_drew1) | exact HB.out)))); (case aL => have := LMc34.out; omega); intro v571 w36 ho hb hg hat; rw [← Ny570.out] at ho; have n0_ := Aside0.mk (Kd.S_after (ok := (fun k_ => some k_ ≠ (u9 : Value).ownBlock)) (by (with_reducible repeat (first | apply Kd.S_alloc | apply Kd.S_drewN | apply Kd.S_drew)); exact Kd.S_mono HO_5.out (fun _ hk => ⟨hk.2, hk.1⟩)) hg hat); have n1_ := Aside0.mk (Kd.R_over' (by (with_reducible repeat (first | apply Kd.R_alloc | apply Kd.R_drewN | apply Kd.R_drew)); exact HO_6.out) (Kd.S_typed (by (with_reducible repeat (first | apply Kd.S_alloc | apply Kd.S_drewN | apply Kd.S_drew)); exact HO_7.out)) (by decide) hg); have n2_ := Aside0.mk (Kd.R_over' (by (with_reducible repeat (first | apply Kd.R_alloc | apply Kd.R_drewN | apply Kd.R_drew)); exact HO_9.out) (Kd.S_typed (by (with_reducible repeat (first | apply Kd.S_alloc | apply Kd.S_drewN | apply Kd.S_drew)); exact HO_7.out)) (by decide) hg); have n3_ := Aside0.mk (Kd.R_after (ok := (fun k_ => some k_ ≠ (.slice (some ad552) t546.length co6 : Value).ownBlock ∧ some k_ ≠ (u9 : Value).ownBlock)) (by (with_reducible repeat (first | apply Kd.R_alloc | apply Kd.R_drewN | apply Kd.R_drew)); exact Kd.R_mono HL552_0.out (fun _ hk => ⟨⟨hk.2, hk.1.2⟩, hk.1.1⟩)) hg hat); have n4_ := Aside0.mk (hb); have n5_ := Aside0.mk (ho); clear HO_5; clear HO_6; clear HO_9; clear HL552_0; clear HB; clear HO_7; have HO_5 := n0_; have HO_6 := n1_; have HO_9 := n2_; have HL552_0 := n3_; have HB := n4_; have HO572 := n5_; clear n0_ n1_ n2_ n3_ n4_ n5_; clear ho hb hg hat))
                            go_roundg k2
                            case measure => have := HK1.out; have := HK2.out; omega
                            case rel => exact ⟨(y570), (wrap64 (x8_1 + 1)), (by first | rfl | (simp; done) | (simp [*]; done)), H', ⟨by have := HK1.out; have := HK2.out; omega⟩, ⟨by (with_reducible repeat (first | apply Kd.S_alloc | apply Kd.S_drewN | apply Kd.S_drew)); exact Kd.S_mono HO_5.out (fun _ hk => hk.2)⟩, ⟨by (with_reducible repeat (first | apply Kd.R_alloc | apply Kd.R_drewN | apply Kd.R_drew)); exact HO_6.out⟩, ⟨by (with_reducible repeat (first | apply Kd.S_alloc | apply Kd.S_drewN | apply Kd.S_drew)); exact Kd.S_mono HO572.out (fun _ hk => hk.1)⟩, ⟨by repeat (first | (with_reducible first | exact HB.out | apply below_alloc | apply pw_below_drewN | apply below_drew1) | exact HB.out)⟩⟩
                          · rw [if_neg c34] at H
                            exact absurd H (by simp)
                      · rw [if_neg c27] at H
                        exact absurd H (by simp)
                  · rw [if_neg c22] at H
                    have c22b0 : decide (x8_1 < (l1.length : Int)) = false := decide_eq_false c22
                    clear c22
                    by_cases c37 : x8_1 < (t549.length : Int)
                    · rw [if_pos c37] at H
                      have c37b0 : decide (x8_1 < (t549.length : Int)) = true := decide_eq_true c37
                      clear c37
                      obtain ⟨bq38, hbq38⟩ : ∃ b_ : Bool, b_ = (rdOf false t549 x8_1) := ⟨_, rfl⟩
                      replace H : (if bq38 = true then (if x7_1.length < 5864062014805 then (ratlineref10_Cyclic.l0 k2 l1 t546 t549 (x7_1 ++ [x9_2]) (wrap64 (x8_1 + 1))) else (none)) else (if x7_1.length < 5864062014805 then (ratlineref10_Cyclic.l0 k2 l1 t546 t549 (x7_1 ++ [([] : List Int)]) (wrap64 (x8_1 + 1))) else (none))) = some r := by rw [← hbq38] at H; exact H
                      have Nbq38 := Aside0.mk hbq38
                      clear hbq38
                      by_cases c39 : bq38 = true
                      · subst c39
                        have H1 : (if x7_1.length < 5864062014805 then (ratlineref10_Cyclic.l0 k2 l1 t546 t549 (x7_1 ++ [x9_2]) (wrap64 (x8_1 + 1))) else (none)) = some r := by rw [if_pos rfl] at H; exact H
                        clear H
                        have H := H1
                        clear H1
                        by_cases c40 : x7_1.length < 5864062014805
                        · rw [if_pos c40] at H
                          have LMc40 := Aside0.mk c40
                          clear c40
                          obtain ⟨y574, hy574⟩ : ∃ y_ : List (List Int), y_ = (x7_1 ++ [x9_2]) := ⟨_, rfl⟩
                          replace H : (ratlineref10_Cyclic.l0 k2 l1 t546 t549 y574 (wrap64 (x8_1 + 1))) = some r := by first | (rw [hy574]; with_reducible exact H) | (have H2_ := (Option.bind_some _ _).symm.trans H; rw [hy574]; with_reducible exact H2_) | (have H2_ := (Option.bind_some _ _).symm.trans H; with_reducible exact H2_) | with_reducible exact H | (rw [hy574]; exact H) | exact H
                          have Ny574 := Aside0.mk hy574
                          clear hy574
                          have H' := Aside0.mk H
                          clear H
                          have p552 : 0 ≤ (x8_1 : Int) := of_decide_eq_true (by first | (with_reducible assumption) | assumption)
                          have q552 : x8_1 < (t546.length : Int) := of_decide_eq_true (by first | (with_reducible assumption) | assumption)
                          obtain ⟨ad552, A552_0, c552_0, e552, hx552_0, hl552_0, hi552_0⟩ := at_L1 (Kd.S_reads' HO_5.out).2.2 x8_1 p552 q552
                          cases e552
                          obtain ⟨ce552, hce552, hMe552, hcc552⟩ := Kd.S_get HO_5.out [] x8_1 p552 (by first | exact q552 | exact of_decide_eq_true (by first | (with_reducible assumption) | assumption) | (have e_ := (Kd.S_reads' HO_5.out).1; omega))
                          obtain ⟨ve552_0, rfl, ge552_0⟩ := hMe552
                          have hv552_0 := hcc552 0 _ rfl
                          rw [Nat.add_zero, show ((Kd.slice 3 (Kd.int .i64))).sz = 1 from rfl, Nat.mul_one] at hv552_0
                          replace hv552_0 := Option.some.inj (hv552_0.symm.trans hx552_0)
                          rw [hv552_0] at ge552_0
                          have HL552_0 := Aside0.mk (show Kd.R (Kd.int .i64) 3 _ _ _ _ (rd_L1 t546 x8_1) from ge552_0)
                          clear hv552_0 ge552_0
                          clear hcc552 hce552
                          have HR552_0 := Aside0.mk hi552_0
                          have HC552_0 := Aside0.mk hl552_0
                          clear hi552_0 hl552_0
                          replace p552 := eq_true p552
                          replace q552 := eq_true q552
                          obtain ⟨Ao41, co41, eo41⟩ := Kd.R_slice HO_6.out
                          subst eo41
                          have p573 : 0 ≤ (x8_1 : Int) := of_decide_eq_true (by first | (with_reducible assumption) | assumption)
                          have q573 : x8_1 < (t549.length : Int) := of_decide_eq_true (by first | (with_reducible assumption) | assumption)
                          obtain ⟨ad573, e573, hx573_0⟩ := Kd.at_bool (Kd.R_reads' HO_6.out).2.2 x8_1 p573 q573
                          (try rw [← Nbq38.out] at hx573_0)
                          cases e573
                          replace p573 := eq_true p573
                          replace q573 := eq_true q573
                          obtain ⟨Ao43, co43, eo43⟩ := Kd.R_slice HO_9.out
                          subst eo43
                          go_wp2_with (first | ((with_reducible refine gate_builtin (b := .append) (xs := #[.tmp 72, .tmp 74]) rfl ?_); at_builtin; refine Kd.S_append (Kd.slice 3 (Kd.int .i64)) (w0 := w) w.heap.size rfl (.tmp 72) (.tmp 74) 22 25 (.slice none 0 0) 24 rfl Try.underlying22 info25 rfl (by decide) (by omega) u7 x7_1 x9_2 [.slice Ao43 x9_2.length co43] (fun k_ => some k_ ≠ (.slice (some ad552) t546.length co6 : Value).ownBlock) (fun k_ => some k_ = (.slice Ao43 x9_2.length co43 : Value).ownBlock) rfl rfl ?aP (fun k_ hk_ => ((Kd.R_mono (ok' := fun k_ => ((fun k_ => some k_ ≠ (.slice (some ad552) t546.length co6 : Value).ownBlock)) k_ ∧ some k_ ≠ (u7 : Value).ownBlock) (Kd.R_apart' (Kd.R_apart' (HO_9.out) (Kd.S_typed HO_5.out) (by decide)) (Kd.S_typed HO_7.out) (by decide)) (fun k_ hk => ⟨hk.1.2, hk.2⟩))).1 k_ hk_.symm) ?aF ?aO ?aB ?aS ?aL ?_; (case aP => exact Kd.M_row (Kd.R_mono (Kd.R_tight rfl (Kd.R_mono (ok' := fun k_ => ((fun k_ => some k_ ≠ (.slice (some ad552) t546.length co6 : Value).ownBlock)) k_ ∧ some k_ ≠ (u7 : Value).ownBlock) (Kd.R_apart' (Kd.R_apart' (HO_9.out) (Kd.S_typed HO_5.out) (by decide)) (Kd.S_typed HO_7.out) (by decide)) (fun k_ hk => ⟨hk.1.2, hk.2⟩))) (fun _ h_ => h_))); (case aB => exact (by repeat (first | (with_reducible first | exact HB.out | apply below_alloc | apply pw_below_drewN | apply below_drew1) | exact HB.out))); (case aF => exact (fun k_ hk => Kd.fresh' (Kd.S_lt (by (with_reducible repeat (first | apply Kd.S_alloc | apply Kd.S_drewN | apply Kd.S_drew)); exact HO_5.out)) k_ hk)); (case aO => exact (by (with_reducible repeat (first | apply Kd.S_alloc | apply Kd.S_drewN | apply Kd.S_drew)); exact Kd.S_mono HO_7.out (fun k_ hk => ⟨hk.1, fun e_ => hk.2 e_⟩))); (case aS => exact (below_size (by repeat (first | (with_reducible first | exact HB.out | apply below_alloc | apply pw_below_drewN | apply below_drew1) | exact HB.out)))); (case aL => have := LMc40.out; omega); intro v575 w42 ho hb hg hat; rw [← Ny574.out] at ho; have n0_ := Aside0.mk (Kd.S_after (ok := (fun k_ => some k_ ≠ (.slice Ao43 x9_2.length co43 : Value).ownBlock)) (by (with_reducible repeat (first | apply Kd.S_alloc | apply Kd.S_drewN | apply Kd.S_drew)); exact Kd.S_mono HO_5.out (fun _ hk => ⟨hk.2, hk.1⟩)) hg hat); have n1_ := Aside0.mk (Kd.R_over' (by (with_reducible repeat (first | apply Kd.R_alloc | apply Kd.R_drewN | apply Kd.R_drew)); exact HO_6.out) (Kd.S_typed (by (with_reducible repeat (first | apply Kd.S_alloc | apply Kd.S_drewN | apply Kd.S_drew)); exact HO_7.out)) (by decide) hg); have n2_ := Aside0.mk (Kd.R_after (ok := (fun k_ => some k_ ≠ (.slice (some ad552) t546.length co6 : Value).ownBlock ∧ some k_ ≠ (.slice Ao43 x9_2.length co43 : Value).ownBlock)) (by (with_reducible repeat (first | apply Kd.R_alloc | apply Kd.R_drewN | apply Kd.R_drew)); exact Kd.R_mono HL552_0.out (fun _ hk => ⟨⟨hk.2, hk.1.2⟩, hk.1.1⟩)) hg hat); have n3_ := Aside0.mk (hb); have n4_ := Aside0.mk (ho); clear HO_5; clear HO_6; clear HL552_0; clear HB; clear HO_7; clear HO_9; have HO_5 := n0_; have HO_6 := n1_; have HL552_0 := n2_; have HB := n3_; have HO576 := n4_; clear n0_ n1_ n2_ n3_ n4_; clear ho hb hg hat))
                          go_roundg k2
                          case measure => have := HK1.out; have := HK2.out; omega
                          case rel => exact ⟨(y574), (wrap64 (x8_1 + 1)), (by first | rfl | (simp; done) | (simp [*]; done)), H', ⟨by have := HK1.out; have := HK2.out; omega⟩, ⟨by (with_reducible repeat (first | apply Kd.S_alloc | apply Kd.S_drewN | apply Kd.S_drew)); exact Kd.S_mono HO_5.out (fun _ hk => hk.2)⟩, ⟨by (with_reducible repeat (first | apply Kd.R_alloc | apply Kd.R_drewN | apply Kd.R_drew)); exact HO_6.out⟩, ⟨by (with_reducible repeat (first | apply Kd.S_alloc | apply Kd.S_drewN | apply Kd.S_drew)); exact HO576.out⟩, ⟨by repeat (first | (with_reducible first | exact HB.out | apply below_alloc | apply pw_below_drewN | apply below_drew1) | exact HB.out)⟩⟩
                        · rw [if_neg c40] at H
                          exact absurd H (by simp)
                      · replace c39 := Bool.eq_false_iff.mpr c39
                        subst c39
                        have H1 : (if x7_1.length < 5864062014805 then (ratlineref10_Cyclic.l0 k2 l1 t546 t549 (x7_1 ++ [([] : List Int)]) (wrap64 (x8_1 + 1))) else (none)) = some r := by rw [if_neg (show ¬ (false = true) by decide)] at H; exact H
                        clear H
                        have H := H1
                        clear H1
                        by_cases c44 : x7_1.length < 5864062014805
                        · rw [if_pos c44] at H
                          have LMc44 := Aside0.mk c44
                          clear c44
                          obtain ⟨y577, hy577⟩ : ∃ y_ : List (List Int), y_ = (x7_1 ++ [([] : List Int)]) := ⟨_, rfl⟩
                          replace H : (ratlineref10_Cyclic.l0 k2 l1 t546 t549 y577 (wrap64 (x8_1 + 1))) = some r := by first | (rw [hy577]; with_reducible exact H) | (have H2_ := (Option.bind_some _ _).symm.trans H; rw [hy577]; with_reducible exact H2_) | (have H2_ := (Option.bind_some _ _).symm.trans H; with_reducible exact H2_) | with_reducible exact H | (rw [hy577]; exact H) | exact H
                          have Ny577 := Aside0.mk hy577
                          clear hy577
                          have H' := Aside0.mk H
                          clear H
                          have p552 : 0 ≤ (x8_1 : Int) := of_decide_eq_true (by first | (with_reducible assumption) | assumption)
                          have q552 : x8_1 < (t546.length : Int) := of_decide_eq_true (by first | (with_reducible assumption) | assumption)
                          obtain ⟨ad552, A552_0, c552_0, e552, hx552_0, hl552_0, hi552_0⟩ := at_L1 (Kd.S_reads' HO_5.out).2.2 x8_1 p552 q552
                          cases e552
                          obtain ⟨ce552, hce552, hMe552, hcc552⟩ := Kd.S_get HO_5.out [] x8_1 p552 (by first | exact q552 | exact of_decide_eq_true (by first | (with_reducible assumption) | assumption) | (have e_ := (Kd.S_reads' HO_5.out).1; omega))
                          obtain ⟨ve552_0, rfl, ge552_0⟩ := hMe552
                          have hv552_0 := hcc552 0 _ rfl
                          rw [Nat.add_zero, show ((Kd.slice 3 (Kd.int .i64))).sz = 1 from rfl, Nat.mul_one] at hv552_0
                          replace hv552_0 := Option.some.inj (hv552_0.symm.trans hx552_0)
                          rw [hv552_0] at ge552_0
                          have HL552_0 := Aside0.mk (show Kd.R (Kd.int .i64) 3 _ _ _ _ (rd_L1 t546 x8_1) from ge552_0)
                          clear hv552_0 ge552_0
                          clear hcc552 hce552
                          have HR552_0 := Aside0.mk hi552_0
                          have HC552_0 := Aside0.mk hl552_0
                          clear hi552_0 hl552_0
                          replace p552 := eq_true p552
                          replace q552 := eq_true q552
                          obtain ⟨Ao45, co45, eo45⟩ := Kd.R_slice HO_6.out
                          subst eo45
                          have p573 : 0 ≤ (x8_1 : Int) := of_decide_eq_true (by first | (with_reducible assumption) | assumption)
                          have q573 : x8_1 < (t549.length : Int) := of_decide_eq_true (by first | (with_reducible assumption) | assumption)
                          obtain ⟨ad573, e573, hx573_0⟩ := Kd.at_bool (Kd.R_reads' HO_6.out).2.2 x8_1 p573 q573
                          (try rw [← Nbq38.out] at hx573_0)
                          cases e573
                          replace p573 := eq_true p573
                          replace q573 := eq_true q573
                          go_wp2_with (first | ((with_reducible refine gate_builtin (b := .append) (xs := #[.tmp 72, .tmp 74]) rfl ?_); at_builtin; refine Kd.S_append (Kd.slice 3 (Kd.int .i64)) (w0 := w) w.heap.size rfl (.tmp 72) (.tmp 74) 22 25 (.slice none 0 0) 24 rfl Try.underlying22 info25 rfl (by decide) (by omega) u7 x7_1 ([] : List Int) [.slice none 0 0] (fun k_ => some k_ ≠ (.slice (some ad552) t546.length co6 : Value).ownBlock ∧ some k_ ≠ (u9 : Value).ownBlock) (fun _ => False) rfl rfl ?aP (fun k_ hk_ => hk_.elim) ?aF ?aO ?aB ?aS ?aL ?_; (case aP => exact Kd.M_row (Kd.R_nil _ _ _ _ _)); (case aB => exact (by repeat (first | (with_reducible first | exact HB.out | apply below_alloc | apply pw_below_drewN | apply below_drew1) | exact HB.out))); (case aF => exact (fun k_ hk => ⟨Kd.fresh' (Kd.S_lt (by (with_reducible repeat (first | apply Kd.S_alloc | apply Kd.S_drewN | apply Kd.S_drew)); exact HO_5.out)) k_ hk, Kd.fresh' (Kd.R_lt (by (with_reducible repeat (first | apply Kd.R_alloc | apply Kd.R_drewN | apply Kd.R_drew)); exact HO_9.out)) k_ hk⟩)); (case aO => exact (by (with_reducible repeat (first | apply Kd.S_alloc | apply Kd.S_drewN | apply Kd.S_drew)); exact Kd.S_mono HO_7.out (fun k_ hk => ⟨⟨hk.1, hk.2⟩, fun e_ => e_⟩))); (case aS => exact (below_size (by repeat (first | (with_reducible first | exact HB.out | apply below_alloc | apply pw_below_drewN | apply below_drew1) | exact HB.out)))); (case aL => have := LMc44.out; omega); intro v578 w46 ho hb hg hat; rw [← Ny577.out] at ho; have n0_ := Aside0.mk (Kd.S_after (ok := (fun k_ => some k_ ≠ (u9 : Value).ownBlock)) (by (with_reducible repeat (first | apply Kd.S_alloc | apply Kd.S_drewN | apply Kd.S_drew)); exact Kd.S_mono HO_5.out (fun _ hk => ⟨hk.2, hk.1⟩)) hg hat); have n1_ := Aside0.mk (Kd.R_over' (by (with_reducible repeat (first | apply Kd.R_alloc | apply Kd.R_drewN | apply Kd.R_drew)); exact HO_6.out) (Kd.S_typed (by (with_reducible repeat (first | apply Kd.S_alloc | apply Kd.S_drewN | apply Kd.S_drew)); exact HO_7.out)) (by decide) hg); have n2_ := Aside0.mk (Kd.R_over' (by (with_reducible repeat (first | apply Kd.R_alloc | apply Kd.R_drewN | apply Kd.R_drew)); exact HO_9.out) (Kd.S_typed (by (with_reducible repeat (first | apply Kd.S_alloc | apply Kd.S_drewN | apply Kd.S_drew)); exact HO_7.out)) (by decide) hg); have n3_ := Aside0.mk (Kd.R_after (ok := (fun k_ => some k_ ≠ (.slice (some ad552) t546.length co6 : Value).ownBlock ∧ some k_ ≠ (u9 : Value).ownBlock)) (by (with_reducible repeat (first | apply Kd.R_alloc | apply Kd.R_drewN | apply Kd.R_drew)); exact Kd.R_mono HL552_0.out (fun _ hk => ⟨⟨hk.2, hk.1.2⟩, hk.1.1⟩)) hg hat); have n4_ := Aside0.mk (hb); have n5_ := Aside0.mk (ho); clear HO_5; clear HO_6; clear HO_9; clear HL552_0; clear HB; clear HO_7; have HO_5 := n0_; have HO_6 := n1_; have HO_9 := n2_; have HL552_0 := n3_; have HB := n4_; have HO579 := n5_; clear n0_ n1_ n2_ n3_ n4_ n5_; clear ho hb hg hat))
                          go_roundg k2
                          case measure => have := HK1.out; have := HK2.out; omega
                          case rel => exact ⟨(y577), (wrap64 (x8_1 + 1)), (by first | rfl | (simp; done) | (simp [*]; done)), H', ⟨by have := HK1.out; have := HK2.out; omega⟩, ⟨by (with_reducible repeat (first | apply Kd.S_alloc | apply Kd.S_drewN | apply Kd.S_drew)); exact Kd.S_mono HO_5.out (fun _ hk => hk.2)⟩, ⟨by (with_reducible repeat (first | apply Kd.R_alloc | apply Kd.R_drewN | apply Kd.R_drew)); exact HO_6.out⟩, ⟨by (with_reducible repeat (first | apply Kd.S_alloc | apply Kd.S_drewN | apply Kd.S_drew)); exact Kd.S_mono HO579.out (fun _ hk => hk.1)⟩, ⟨by repeat (first | (with_reducible first | exact HB.out | apply below_alloc | apply pw_below_drewN | apply below_drew1) | exact HB.out)⟩⟩
                        · rw [if_neg c44] at H
                          exact absurd H (by simp)
                    · rw [if_neg c37] at H
                      exact absurd H (by simp)
              · rw [if_neg c10] at H
                exact absurd H (by simp)
            · rw [if_neg c9] at H
              exact absurd H (by simp)
      · rw [if_neg c8] at H
        have c8b0 : decide (x8_1 < (t546.length : Int)) = false := decide_eq_false c8
        clear c8
        have H' := Aside0.mk H
        clear H
        go_wp2
        go_loopg [12] k1 (fun kq v12 w' => ∃ (x12_2 : Int), v12 = .int .i64 x12_2 ∧ Aside0 (ratlineref10_Cyclic.l2 kq x7_1 x12_2 = some r) ∧ Aside0 (kq ≤ k1) ∧ Aside0 (Kd.S (Kd.slice 3 (Kd.int .i64)) 25 w' w.heap.size (fun _ => True) u7 x7_1) ∧ Aside0 (Below w.heap.size w w'))
        case atStart => exact ⟨(0), (by first | rfl | (simp; done) | (simp [*]; done)), H', ⟨Nat.le_refl _⟩, ⟨by (with_reducible repeat (first | apply Kd.S_alloc | apply Kd.S_drewN | apply Kd.S_drew)); exact Kd.S_mono HO_7.out (fun _ hk => trivial)⟩, ⟨by repeat (first | (with_reducible first | exact HB.out | apply below_alloc | apply pw_below_drewN | apply below_drew1) | exact HB.out)⟩⟩
        case round =>
          clear H'
          try clear c1
          try clear q1
          try clear c2
          try clear p2
          try clear q2
          try clear c3
          try clear q3
          try clear c4
          try clear c5
          try clear p5
          try clear q5
          try clear hx5
          try clear p6
          try clear c8
          try clear c8b0
          try clear c9
          try clear c9b0
          try clear c10
          try clear c10b0
          try clear c11
          try clear c11b0
          try clear c12
          try clear c12b0
          try clear c13
          try clear c13b0
          try clear c14
          try clear c16
          try clear c16b0
          try clear c17
          try clear c17b0
          try clear q18
          try clear c19
          try clear c20
          try clear c22
          try clear c22b0
          try clear q23
          try clear c24
          try clear c25
          try clear c27
          try clear c27b0
          try clear q28
          try clear c29
          try clear c30
          try clear c34
          try clear c37
          try clear c37b0
          try clear q38
          try clear c39
          try clear c40
          try clear c44
          try clear hx552_0
          try clear hx553_0
          try clear hx554_0
          try clear hx558_0
          try clear hx562_0
          try clear hx566_0
          try clear hx573_0
          try clear p2
          try clear p552
          try clear p553
          try clear p554
          try clear p558
          try clear p562
          try clear p566
          try clear p573
          try clear q552
          try clear q553
          try clear q554
          try clear q558
          try clear q562
          try clear q566
          try clear q573
          obtain ⟨x12_2, rfl, HA, HK2, HO_7, HB⟩ := hrel
          cases gk with
          | zero => exact absurd HA.out (by simp [ratlineref10_Cyclic.l2])
          | succ k2 =>
            have H := HA.out
            clear HA
            simp only [ratlineref10_Cyclic.l2] at H
            by_cases c47 : x12_2 < (x7_1.length : Int)
            · rw [if_pos c47] at H
              have c47b0 : decide (x12_2 < (x7_1.length : Int)) = true := decide_eq_true c47
              clear c47
              have H' := Aside0.mk H
              clear H
              obtain ⟨Ao48, co48, eo48⟩ := Kd.S_slice HO_7.out
              subst eo48
              go_wp2
              go_loopg [13] k2 (fun kq v13 w' => ∃ (x13_3 : Int), v13 = .int .i64 x13_3 ∧ Aside0 (ratlineref10_Cyclic.l3 kq x7_1 x12_2 x13_3 = some r) ∧ Aside0 (kq ≤ k2) ∧ Aside0 (Kd.S (Kd.slice 3 (Kd.int .i64)) 25 w' w.heap.size (fun _ => True) (.slice Ao48 x7_1.length co48) x7_1) ∧ Aside0 (Below w.heap.size w w'))
              case atStart => exact ⟨(0), (by first | rfl | (simp; done) | (simp [*]; done)), H', ⟨Nat.le_refl _⟩, ⟨by (with_reducible repeat (first | apply Kd.S_alloc | apply Kd.S_drewN | apply Kd.S_drew)); exact HO_7.out⟩, ⟨by repeat (first | (with_reducible first | exact HB.out | apply below_alloc | apply pw_below_drewN | apply below_drew1) | exact HB.out)⟩⟩
              case round =>
                clear H'
                try clear c1
                try clear q1
                try clear c2
                try clear p2
                try clear q2
                try clear c3
                try clear q3
                try clear c4
                try clear c5
                try clear p5
                try clear q5
                try clear hx5
                try clear p6
                try clear c8
                try clear c8b0
                try clear c9
                try clear c9b0
                try clear c10
                try clear c10b0
                try clear c11
                try clear c11b0
                try clear c12
                try clear c12b0
                try clear c13
                try clear c13b0
                try clear c14
                try clear c16
                try clear c16b0
                try clear c17
                try clear c17b0
                try clear q18
                try clear c19
                try clear c20
                try clear c22
                try clear c22b0
                try clear q23
                try clear c24
                try clear c25
                try clear c27
                try clear c27b0
                try clear q28
                try clear c29
                try clear c30
                try clear c34
                try clear c37
                try clear c37b0
                try clear q38
                try clear c39
                try clear c40
                try clear c44
                try clear c47
                try clear c47b0
                try clear hx552_0
                try clear hx553_0
                try clear hx554_0
                try clear hx558_0
                try clear hx562_0
                try clear hx566_0
                try clear hx573_0
                try clear p2
                try clear p5
                try clear p552
                try clear p553
                try clear p554
                try clear p558
                try clear p562
                try clear p566
                try clear p573
                try clear p6
                try clear q1
                try clear q18
                try clear q2
                try clear q23
                try clear q28
                try clear q3
                try clear q38
                try clear q5
                try clear q552
                try clear q553
                try clear q554
                try clear q558
                try clear q562
                try clear q566
                try clear q573
                obtain ⟨x13_3, rfl, HA, HK3, HO_7, HB⟩ := hrel
                cases gk with
                | zero => exact absurd HA.out (by simp [ratlineref10_Cyclic.l3])
                | succ k3 =>
                  have H := HA.out
                  clear HA
                  simp only [ratlineref10_Cyclic.l3] at H
                  by_cases c49 : 0 ≤ x12_2
                  · rw [if_pos c49] at H
                    have c49b0 : decide (0 ≤ x12_2) = true := decide_eq_true c49
                    clear c49
                    by_cases c50 : x12_2 < (x7_1.length : Int)
                    · rw [if_pos c50] at H
                      have c50b0 : decide (x12_2 < (x7_1.length : Int)) = true := decide_eq_true c50
                      clear c50
                      by_cases c51 : x13_3 < ((rd_L1 x7_1 x12_2).length : Int)
                      · rw [if_pos c51] at H
                        have c51b0 : decide (x13_3 < ((rd_L1 x7_1 x12_2).length : Int)) = true := decide_eq_true c51
                        clear c51
                        by_cases c52 : 0 ≤ x13_3
                        · rw [if_pos c52] at H
                          have c52b0 : decide (0 ≤ x13_3) = true := decide_eq_true c52
                          clear c52
                          replace H := Option.bind_eq_some_iff.mp H
                          obtain ⟨t583, A530, H⟩ := H
                          replace H : (if x12_2 < (t583.length : Int) then (if rdOf false t583 x12_2 = true then (some true) else (ratlineref10_Cyclic.l3 k3 x7_1 x12_2 (wrap64 (x13_3 + 1)))) else (none)) = some r := H
                          have A53 := Aside0.mk A530
                          clear A530
                          by_cases c54 : x12_2 < (t583.length : Int)
                          · rw [if_pos c54] at H
                            have c54b0 : decide (x12_2 < (t583.length : Int)) = true := decide_eq_true c54
                            clear c54
                            obtain ⟨bq55, hbq55⟩ : ∃ b_ : Bool, b_ = (rdOf false t583 x12_2) := ⟨_, rfl⟩
                            replace H : (if bq55 = true then (some true) else (ratlineref10_Cyclic.l3 k3 x7_1 x12_2 (wrap64 (x13_3 + 1)))) = some r := by rw [← hbq55] at H; exact H
                            have Nbq55 := Aside0.mk hbq55
                            clear hbq55
                            by_cases c56 : bq55 = true
                            · subst c56
                              have H1 : (some true) = some r := by rw [if_pos rfl] at H; exact H
                              clear H
                              have H := H1
                              clear H1
                              obtain rfl := Option.some.inj H
                              have p580 : 0 ≤ (x12_2 : Int) := of_decide_eq_true (by first | (with_reducible assumption) | assumption)
                              have q580 : x12_2 < (x7_1.length : Int) := of_decide_eq_true (by first | (with_reducible assumption) | assumption)
                              obtain ⟨ad580, A580_0, c580_0, e580, hx580_0, hl580_0, hi580_0⟩ := at_L1 (Kd.S_reads' HO_7.out).2.2 x12_2 p580 q580
                              cases e580
                              obtain ⟨ce580, hce580, hMe580, hcc580⟩ := Kd.S_get HO_7.out [] x12_2 p580 (by first | exact q580 | exact of_decide_eq_true (by first | (with_reducible assumption) | assumption) | (have e_ := (Kd.S_reads' HO_7.out).1; omega))
                              obtain ⟨ve580_0, rfl, ge580_0⟩ := hMe580
                              have hv580_0 := hcc580 0 _ rfl
                              rw [Nat.add_zero, show ((Kd.slice 3 (Kd.int .i64))).sz = 1 from rfl, Nat.mul_one] at hv580_0
                              replace hv580_0 := Option.some.inj (hv580_0.symm.trans hx580_0)
                              rw [hv580_0] at ge580_0
                              have HL580_0 := Aside0.mk (show Kd.R (Kd.int .i64) 3 _ _ _ _ (rd_L1 x7_1 x12_2) from ge580_0)
                              clear hv580_0 ge580_0
                              clear hcc580 hce580
                              have HR580_0 := Aside0.mk hi580_0
                              have HC580_0 := Aside0.mk hl580_0
                              clear hi580_0 hl580_0
                              replace p580 := eq_true p580
                              replace q580 := eq_true q580
                              have p581 : 0 ≤ (x12_2 : Int) := of_decide_eq_true (by first | (with_reducible assumption) | assumption)
                              have q581 : x12_2 < (x7_1.length : Int) := of_decide_eq_true (by first | (with_reducible assumption) | assumption)
                              obtain ⟨ad581, A581_0, c581_0, e581, hx581_0, hl581_0, hi581_0⟩ := at_L1 (Kd.S_reads' HO_7.out).2.2 x12_2 p581 q581
                              obtain rfl : ad580 = ad581 := (by injection e581)
                              obtain ⟨ce581, hce581, hMe581, hcc581⟩ := Kd.S_get HO_7.out [] x12_2 p581 (by first | exact q581 | exact of_decide_eq_true (by first | (with_reducible assumption) | assumption) | (have e_ := (Kd.S_reads' HO_7.out).1; omega))
                              obtain ⟨ve581_0, rfl, ge581_0⟩ := hMe581
                              have hv581_0 := hcc581 0 _ rfl
                              rw [Nat.add_zero, show ((Kd.slice 3 (Kd.int .i64))).sz = 1 from rfl, Nat.mul_one] at hv581_0
                              replace hv581_0 := Option.some.inj (hv581_0.symm.trans hx581_0)
                              rw [hv581_0] at ge581_0
                              have HL581_0 := Aside0.mk (show Kd.R (Kd.int .i64) 3 _ _ _ _ (rd_L1 x7_1 x12_2) from ge581_0)
                              clear hv581_0 ge581_0
                              clear hcc581 hce581
                              have HR581_0 := Aside0.mk hi581_0
                              have HC581_0 := Aside0.mk hl581_0
                              clear hi581_0 hl581_0
                              replace p581 := eq_true p581
                              replace q581 := eq_true q581
                              have ea_ := Option.some.inj (hx580_0.symm.trans hx581_0)
                              injection ea_ with ea_ en_ ec_
                              subst ea_
                              subst ec_
                              clear en_
                              have p582 : 0 ≤ (x13_3 : Int) := of_decide_eq_true (by first | (with_reducible assumption) | assumption)
                              have q582 : x13_3 < ((rd_L1 x7_1 x12_2).length : Int) := of_decide_eq_true (by first | (with_reducible assumption) | assumption)
                              obtain ⟨ad582, e582, hx582_0⟩ := Kd.at_int (by repeat (first | (with_reducible exact HR581_0.out) | (with_reducible refine Kd.C_alloc ?_ _) | (with_reducible refine Kd.C_drewN ?_ _) | (with_reducible refine Kd.C_drew ?_) | exact HR581_0.out)) x13_3 p582 q582
                              cases e582
                              replace p582 := eq_true p582
                              replace q582 := eq_true q582
                              go_wp2_with (first | ((with_reducible refine gate_callee (f := 29) rfl ?_); refine goesL_ (some 99) rfl rfl Try.func29 (by kernel_rfl) rfl #[.slice (some ad580) x7_1.length co48, .int .i64 (rd (rd_L1 x7_1 x12_2) x13_3), .int .i64 (-1)] rfl (by (try simp only [List.map_toArray, List.map_cons, List.map_nil]); first | done | rfl | (simp only [List.length_drop, List.length_take]; rfl)) ?_; (with_reducible refine (ratlineref10_from.calls k3 _ _ x7_1 (rd (rd_L1 x7_1 x12_2) x13_3) (-1) t583 _ ?side1 ?side2 A53.out).mono ?_); (case side1 => repeat (first | exact (Kd.S_reads' HO_7.out).2.2 | (with_reducible refine Kd.C_alloc ?_ _) | (with_reducible refine Kd.C_drewN ?_ _) | (with_reducible refine Kd.C_drew ?_))); (case side2 => exact (Kd.S_reads' HO_7.out).2.1); rintro e w57 ⟨v584, rfl, ho0, hb⟩; refine ⟨_, rfl, ?_⟩; have n0_ := Aside0.mk (Kd.S_below (by (with_reducible repeat (first | apply Kd.S_alloc | apply Kd.S_drewN | apply Kd.S_drew)); exact HO_7.out) hb); have n1_ := Aside0.mk (Kd.R_below (by (with_reducible repeat (first | apply Kd.R_alloc | apply Kd.R_drewN | apply Kd.R_drew)); exact HL580_0.out) hb); have n2_ := Aside0.mk (Kd.R_below (by (with_reducible repeat (first | apply Kd.R_alloc | apply Kd.R_drewN | apply Kd.R_drew)); exact HL581_0.out) hb); have n3_ := Aside0.mk (Kd.R_lower ho0 (below_size (by repeat (first | (with_reducible first | exact HB.out | apply below_alloc | apply pw_below_drewN | apply below_drew1) | exact HB.out)))); have n4_ := Aside0.mk (Kd.C_below (by repeat (first | (with_reducible exact HR580_0.out) | (with_reducible refine Kd.C_alloc ?_ _) | (with_reducible refine Kd.C_drewN ?_ _) | (with_reducible refine Kd.C_drew ?_) | exact HR580_0.out)) hb); have n5_ := Aside0.mk (Kd.C_below (by repeat (first | (with_reducible exact HR581_0.out) | (with_reducible refine Kd.C_alloc ?_ _) | (with_reducible refine Kd.C_drewN ?_ _) | (with_reducible refine Kd.C_drew ?_) | exact HR581_0.out)) hb); have n6_ := Aside0.mk (below_step (by repeat (first | (with_reducible first | exact HB.out | apply below_alloc | apply pw_below_drewN | apply below_drew1) | exact HB.out)) hb); clear HO_7; clear HL580_0; clear HL581_0; clear HR580_0; clear HR581_0; clear HB; have HO_7 := n0_; have HL580_0 := n1_; have HL581_0 := n2_; have HO585 := n3_; have HR580_0 := n4_; have HR581_0 := n5_; have HB := n6_; clear n0_ n1_ n2_ n3_ n4_ n5_ n6_; (try clear hb); (try clear hb2); (try clear hk); (try clear hi); (try clear ho0); obtain ⟨Ao58, co58, eo58⟩ := Kd.R_slice HO585.out; subst eo58; have p586 : 0 ≤ (x12_2 : Int) := of_decide_eq_true (by first | (with_reducible assumption) | assumption); have q586 : x12_2 < (t583.length : Int) := of_decide_eq_true (by first | (with_reducible assumption) | assumption); obtain ⟨ad586, e586, hx586_0⟩ := Kd.at_bool (Kd.R_reads' HO585.out).2.2 x12_2 p586 q586; (try rw [← Nbq55.out] at hx586_0); cases e586; replace p586 := eq_true p586; replace q586 := eq_true q586))
                              go_ret
                              exact ⟨by first | rfl | (simp [errW_none, errW_some] <;> rfl) | (simp [*, errW_none, errW_some] <;> rfl), by repeat (first | (with_reducible first | exact HB.out | apply below_alloc | apply pw_below_drewN | apply below_drew1) | exact HB.out)⟩
                            · replace c56 := Bool.eq_false_iff.mpr c56
                              subst c56
                              have H1 : (ratlineref10_Cyclic.l3 k3 x7_1 x12_2 (wrap64 (x13_3 + 1))) = some r := by rw [if_neg (show ¬ (false = true) by decide)] at H; exact H
                              clear H
                              have H := H1
                              clear H1
                              have H' := Aside0.mk H
                              clear H
                              have p580 : 0 ≤ (x12_2 : Int) := of_decide_eq_true (by first | (with_reducible assumption) | assumption)
                              have q580 : x12_2 < (x7_1.length : Int) := of_decide_eq_true (by first | (with_reducible assumption) | assumption)
                              obtain ⟨ad580, A580_0, c580_0, e580, hx580_0, hl580_0, hi580_0⟩ := at_L1 (Kd.S_reads' HO_7.out).2.2 x12_2 p580 q580
                              cases e580
                              obtain ⟨ce580, hce580, hMe580, hcc580⟩ := Kd.S_get HO_7.out [] x12_2 p580 (by first | exact q580 | exact of_decide_eq_true (by first | (with_reducible assumption) | assumption) | (have e_ := (Kd.S_reads' HO_7.out).1; omega))
                              obtain ⟨ve580_0, rfl, ge580_0⟩ := hMe580
                              have hv580_0 := hcc580 0 _ rfl
                              rw [Nat.add_zero, show ((Kd.slice 3 (Kd.int .i64))).sz = 1 from rfl, Nat.mul_one] at hv580_0
                              replace hv580_0 := Option.some.inj (hv580_0.symm.trans hx580_0)
                              rw [hv580_0] at ge580_0
                              have HL580_0 := Aside0.mk (show Kd.R (Kd.int .i64) 3 _ _ _ _ (rd_L1 x7_1 x12_2) from ge580_0)
                              clear hv580_0 ge580_0
                              clear hcc580 hce580
                              have HR580_0 := Aside0.mk hi580_0
                              have HC580_0 := Aside0.mk hl580_0
                              clear hi580_0 hl580_0
                              replace p580 := eq_true p580
                              replace q580 := eq_true q580
                              have p581 : 0 ≤ (x12_2 : Int) := of_decide_eq_true (by first | (with_reducible assumption) | assumption)
                              have q581 : x12_2 < (x7_1.length : Int) := of_decide_eq_true (by first | (with_reducible assumption) | assumption)
                              obtain ⟨ad581, A581_0, c581_0, e581, hx581_0, hl581_0, hi581_0⟩ := at_L1 (Kd.S_reads' HO_7.out).2.2 x12_2 p581 q581
                              obtain rfl : ad580 = ad581 := (by injection e581)
                              obtain ⟨ce581, hce581, hMe581, hcc581⟩ := Kd.S_get HO_7.out [] x12_2 p581 (by first | exact q581 | exact of_decide_eq_true (by first | (with_reducible assumption) | assumption) | (have e_ := (Kd.S_reads' HO_7.out).1; omega))
                              obtain ⟨ve581_0, rfl, ge581_0⟩ := hMe581
                              have hv581_0 := hcc581 0 _ rfl
                              rw [Nat.add_zero, show ((Kd.slice 3 (Kd.int .i64))).sz = 1 from rfl, Nat.mul_one] at hv581_0
                              replace hv581_0 := Option.some.inj (hv581_0.symm.trans hx581_0)
                              rw [hv581_0] at ge581_0
                              have HL581_0 := Aside0.mk (show Kd.R (Kd.int .i64) 3 _ _ _ _ (rd_L1 x7_1 x12_2) from ge581_0)
                              clear hv581_0 ge581_0
                              clear hcc581 hce581
                              have HR581_0 := Aside0.mk hi581_0
                              have HC581_0 := Aside0.mk hl581_0
                              clear hi581_0 hl581_0
                              replace p581 := eq_true p581
                              replace q581 := eq_true q581
                              have ea_ := Option.some.inj (hx580_0.symm.trans hx581_0)
                              injection ea_ with ea_ en_ ec_
                              subst ea_
                              subst ec_
                              clear en_
                              have p582 : 0 ≤ (x13_3 : Int) := of_decide_eq_true (by first | (with_reducible assumption) | assumption)
                              have q582 : x13_3 < ((rd_L1 x7_1 x12_2).length : Int) := of_decide_eq_true (by first | (with_reducible assumption) | assumption)
                              obtain ⟨ad582, e582, hx582_0⟩ := Kd.at_int (by repeat (first | (with_reducible exact HR581_0.out) | (with_reducible refine Kd.C_alloc ?_ _) | (with_reducible refine Kd.C_drewN ?_ _) | (with_reducible refine Kd.C_drew ?_) | exact HR581_0.out)) x13_3 p582 q582
                              cases e582
                              replace p582 := eq_true p582
                              replace q582 := eq_true q582
                              go_wp2_with (first | ((with_reducible refine gate_callee (f := 29) rfl ?_); refine goesL_ (some 99) rfl rfl Try.func29 (by kernel_rfl) rfl #[.slice (some ad580) x7_1.length co48, .int .i64 (rd (rd_L1 x7_1 x12_2) x13_3), .int .i64 (-1)] rfl (by (try simp only [List.map_toArray, List.map_cons, List.map_nil]); first | done | rfl | (simp only [List.length_drop, List.length_take]; rfl)) ?_; (with_reducible refine (ratlineref10_from.calls k3 _ _ x7_1 (rd (rd_L1 x7_1 x12_2) x13_3) (-1) t583 _ ?side1 ?side2 A53.out).mono ?_); (case side1 => repeat (first | exact (Kd.S_reads' HO_7.out).2.2 | (with_reducible refine Kd.C_alloc ?_ _) | (with_reducible refine Kd.C_drewN ?_ _) | (with_reducible refine Kd.C_drew ?_))); (case side2 => exact (Kd.S_reads' HO_7.out).2.1); rintro e w59 ⟨v584, rfl, ho0, hb⟩; refine ⟨_, rfl, ?_⟩; have n0_ := Aside0.mk (Kd.S_below (by (with_reducible repeat (first | apply Kd.S_alloc | apply Kd.S_drewN | apply Kd.S_drew)); exact HO_7.out) hb); have n1_ := Aside0.mk (Kd.R_below (by (with_reducible repeat (first | apply Kd.R_alloc | apply Kd.R_drewN | apply Kd.R_drew)); exact HL580_0.out) hb); have n2_ := Aside0.mk (Kd.R_below (by (with_reducible repeat (first | apply Kd.R_alloc | apply Kd.R_drewN | apply Kd.R_drew)); exact HL581_0.out) hb); have n3_ := Aside0.mk (Kd.R_lower ho0 (below_size (by repeat (first | (with_reducible first | exact HB.out | apply below_alloc | apply pw_below_drewN | apply below_drew1) | exact HB.out)))); have n4_ := Aside0.mk (Kd.C_below (by repeat (first | (with_reducible exact HR580_0.out) | (with_reducible refine Kd.C_alloc ?_ _) | (with_reducible refine Kd.C_drewN ?_ _) | (with_reducible refine Kd.C_drew ?_) | exact HR580_0.out)) hb); have n5_ := Aside0.mk (Kd.C_below (by repeat (first | (with_reducible exact HR581_0.out) | (with_reducible refine Kd.C_alloc ?_ _) | (with_reducible refine Kd.C_drewN ?_ _) | (with_reducible refine Kd.C_drew ?_) | exact HR581_0.out)) hb); have n6_ := Aside0.mk (below_step (by repeat (first | (with_reducible first | exact HB.out | apply below_alloc | apply pw_below_drewN | apply below_drew1) | exact HB.out)) hb); clear HO_7; clear HL580_0; clear HL581_0; clear HR580_0; clear HR581_0; clear HB; have HO_7 := n0_; have HL580_0 := n1_; have HL581_0 := n2_; have HO585 := n3_; have HR580_0 := n4_; have HR581_0 := n5_; have HB := n6_; clear n0_ n1_ n2_ n3_ n4_ n5_ n6_; (try clear hb); (try clear hb2); (try clear hk); (try clear hi); (try clear ho0); obtain ⟨Ao60, co60, eo60⟩ := Kd.R_slice HO585.out; subst eo60; have p586 : 0 ≤ (x12_2 : Int) := of_decide_eq_true (by first | (with_reducible assumption) | assumption); have q586 : x12_2 < (t583.length : Int) := of_decide_eq_true (by first | (with_reducible assumption) | assumption); obtain ⟨ad586, e586, hx586_0⟩ := Kd.at_bool (Kd.R_reads' HO585.out).2.2 x12_2 p586 q586; (try rw [← Nbq55.out] at hx586_0); cases e586; replace p586 := eq_true p586; replace q586 := eq_true q586))
                              go_roundg k3
                              case measure => have := HK1.out; have := HK2.out; have := HK3.out; omega
                              case rel => exact ⟨(wrap64 (x13_3 + 1)), (by first | rfl | (simp; done) | (simp [*]; done)), H', ⟨by have := HK1.out; have := HK2.out; have := HK3.out; omega⟩, ⟨by (with_reducible repeat (first | apply Kd.S_alloc | apply Kd.S_drewN | apply Kd.S_drew)); exact HO_7.out⟩, ⟨by repeat (first | (with_reducible first | exact HB.out | apply below_alloc | apply pw_below_drewN | apply below_drew1) | exact HB.out)⟩⟩
                          · rw [if_neg c54] at H
                            exact absurd H (by simp)
                        · rw [if_neg c52] at H
                          exact absurd H (by simp)
                      · rw [if_neg c51] at H
                        have c51b0 : decide (x13_3 < ((rd_L1 x7_1 x12_2).length : Int)) = false := decide_eq_false c51
                        clear c51
                        have H' := Aside0.mk H
                        clear H
                        have p580 : 0 ≤ (x12_2 : Int) := of_decide_eq_true (by first | (with_reducible assumption) | assumption)
                        have q580 : x12_2 < (x7_1.length : Int) := of_decide_eq_true (by first | (with_reducible assumption) | assumption)
                        obtain ⟨ad580, A580_0, c580_0, e580, hx580_0, hl580_0, hi580_0⟩ := at_L1 (Kd.S_reads' HO_7.out).2.2 x12_2 p580 q580
                        cases e580
                        obtain ⟨ce580, hce580, hMe580, hcc580⟩ := Kd.S_get HO_7.out [] x12_2 p580 (by first | exact q580 | exact of_decide_eq_true (by first | (with_reducible assumption) | assumption) | (have e_ := (Kd.S_reads' HO_7.out).1; omega))
                        obtain ⟨ve580_0, rfl, ge580_0⟩ := hMe580
                        have hv580_0 := hcc580 0 _ rfl
                        rw [Nat.add_zero, show ((Kd.slice 3 (Kd.int .i64))).sz = 1 from rfl, Nat.mul_one] at hv580_0
                        replace hv580_0 := Option.some.inj (hv580_0.symm.trans hx580_0)
                        rw [hv580_0] at ge580_0
                        have HL580_0 := Aside0.mk (show Kd.R (Kd.int .i64) 3 _ _ _ _ (rd_L1 x7_1 x12_2) from ge580_0)
                        clear hv580_0 ge580_0
                        clear hcc580 hce580
                        have HR580_0 := Aside0.mk hi580_0
                        have HC580_0 := Aside0.mk hl580_0
                        clear hi580_0 hl580_0
                        replace p580 := eq_true p580
                        replace q580 := eq_true q580
                        go_wp2
                        go_roundg k3
                        case measure => have := HK1.out; have := HK2.out; have := HK3.out; omega
                        case rel => exact ⟨(wrap64 (x12_2 + 1)), (by first | rfl | (simp; done) | (simp [*]; done)), H', ⟨by have := HK1.out; have := HK2.out; have := HK3.out; omega⟩, ⟨by (with_reducible repeat (first | apply Kd.S_alloc | apply Kd.S_drewN | apply Kd.S_drew)); exact HO_7.out⟩, ⟨by repeat (first | (with_reducible first | exact HB.out | apply below_alloc | apply pw_below_drewN | apply below_drew1) | exact HB.out)⟩⟩
                    · rw [if_neg c50] at H
                      exact absurd H (by simp)
                  · rw [if_neg c49] at H
                    exact absurd H (by simp)
            · rw [if_neg c47] at H
              have c47b0 : decide (x12_2 < (x7_1.length : Int)) = false := decide_eq_false c47
              clear c47
              obtain rfl := Option.some.inj H
              obtain ⟨Ao61, co61, eo61⟩ := Kd.S_slice HO_7.out
              subst eo61
              go_wp2
              go_ret
              exact ⟨by first | rfl | (simp [errW_none, errW_some] <;> rfl) | (simp [*, errW_none, errW_some] <;> rfl), by repeat (first | (with_reducible first | exact HB.out | apply below_alloc | apply pw_below_drewN | apply below_drew1) | exact HB.out)⟩

end Go.Proofs.Ytjflddnmkajleaa.PG
