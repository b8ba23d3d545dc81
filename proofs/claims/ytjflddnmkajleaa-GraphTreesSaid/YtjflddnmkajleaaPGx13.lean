-- By the session's own program out of the kit's print, with texts of the session's own for the functions that the print does not take.
import Derived.Test.YtjflddnmkajleaaPGx0
import Derived.Test.YtjflddnmkajleaaPGx11
import Derived.Test.YtjflddnmkajleaaPGx12
namespace Go.Proofs.Ytjflddnmkajleaa.PG
open Go.RowKit Go.Proofs.YtjflddnmkajleaaW.PrintWords Go.Proofs.YtjflddnmkajleaaW.PrintLast Go.Proofs.YtjflddnmkajleaaW.PrintMore
attribute [local go_sem] max2_int min2_int max_two min_two max_three min_three max_four min_four   -- for this text's walks alone
set_option linter.unusedVariables false
set_option linter.unusedSimpArgs false

/-! ### graph_body: function 32 -/
mutual
def graph_body.l0 : Nat → List (List Int) → List Bool → List Bool → List Int → Option (List Int)
  | 0, _, _, _, _ => none
  | k + 1, x0, x3, x9, x10 => if (x10.length : Int) > 0 then (if 0 ≤ (wrap64 ((x10.length : Int) - 1)) then (if (wrap64 ((x10.length : Int) - 1)) < (x10.length : Int) then (if (wrap64 ((x10.length : Int) - 1)) ≤ (x10.length : Int) then ((some (x10.take ((wrap64 ((x10.length : Int) - 1)) : Int).toNat : List Int)).bind fun y230 => (if 0 ≤ (rd x10 (wrap64 ((x10.length : Int) - 1))) then (if (rd x10 (wrap64 ((x10.length : Int) - 1))) < (x9.length : Int) then (if rdOf false x9 (rd x10 (wrap64 ((x10.length : Int) - 1))) = true then (graph_body.l0 k x0 x3 x9 y230) else (if (rd x10 (wrap64 ((x10.length : Int) - 1))) < (x3.length : Int) then (if (rdOf false x3 (rd x10 (wrap64 ((x10.length : Int) - 1))) = true) then (if (rd x10 (wrap64 ((x10.length : Int) - 1))) < (x0.length : Int) then (if y230.length + (rd_L1 x0 (rd x10 (wrap64 ((x10.length : Int) - 1)))).length < 17592186044416 then (graph_body.l0 k x0 x3 (x9.set ((rd x10 (wrap64 ((x10.length : Int) - 1))) : Int).toNat true) (y230 ++ (rd_L1 x0 (rd x10 (wrap64 ((x10.length : Int) - 1)))))) else (none)) else (none)) else (graph_body.l0 k x0 x3 x9 y230)) else (none))) else (none)) else (none))) else (none)) else (none)) else (none)) else (graph_body.l1 k ([] : List Int) x9 (x9.length : Int) 0)
def graph_body.l1 : Nat → List Int → List Bool → Int → Int → Option (List Int)
  | 0, _, _, _, _ => none
  | k + 1, x12, x57, x58, x59 => if x59 < x58 then (if 0 ≤ x59 then (if x59 < (x57.length : Int) then (if rdOf false x57 x59 = true then (if x12.length < 17592186044416 then (graph_body.l1 k (x12 ++ [x59]) x57 x58 (wrap64 (x59 + 1))) else (none)) else (graph_body.l1 k x12 x57 x58 (wrap64 (x59 + 1)))) else (none)) else (none)) else ((slices_Clip_int_int.f x12).bind fun t244 => (some t244))
end
def graph_body.f (k : Nat) (l0 : List (List Int)) (a1 : Int) (l2 : List Int) (l3 : List Bool) : Option (List Int) := if 0 ≤ (l0.length : Int) then (if ((l0.length : Int) : Int).toNat ≤ 281474976710656 then ((some (List.replicate ((l0.length : Int) : Int).toNat false : List Bool)).bind fun y222 => (if 0 ≤ a1 then (if a1 < (y222.length : Int) then ((slices_Clone_int_int.f l2).bind fun t226 => (graph_body.l0 k l0 l3 (y222.set (a1 : Int).toNat true) t226)) else (none)) else (none))) else (none)) else (none)
theorem graph_body.mono_l : ∀ k, (∀ y0 y1 y2 y3, LeO (graph_body.l0 k y0 y1 y2 y3) (graph_body.l0 (k + 1) y0 y1 y2 y3)) ∧ (∀ y0 y1 y2 y3, LeO (graph_body.l1 k y0 y1 y2 y3) (graph_body.l1 (k + 1) y0 y1 y2 y3))
  | 0 => ⟨fun _ _ _ _ r h => by simp [graph_body.l0] at h, fun _ _ _ _ r h => by simp [graph_body.l1] at h⟩
  | k + 1 => by
    obtain ⟨ih0, ih1⟩ := graph_body.mono_l k
    refine ⟨?_, ?_⟩
    · intro y0 y1 y2 y3
      unfold graph_body.l0
      repeat' first
      | (with_reducible exact ih0 _ _ _ _)
      | (with_reducible exact ih1 _ _ _ _)
      | (with_reducible exact LeO.refl _)
      | (with_reducible exact LeO.none _)
      | (with_reducible refine LeO.ite ?_ ?_)
      | (with_reducible refine LeO.bind ?_ (fun _ => ?_))
      | exact ih0 _ _ _ _
      | exact ih1 _ _ _ _
      | exact LeO.none _
      | refine LeO.ite ?_ ?_
      | refine LeO.bind ?_ (fun _ => ?_)
    · intro y0 y1 y2 y3
      unfold graph_body.l1
      repeat' first
      | (with_reducible exact ih0 _ _ _ _)
      | (with_reducible exact ih1 _ _ _ _)
      | (with_reducible exact LeO.refl _)
      | (with_reducible exact LeO.none _)
      | (with_reducible refine LeO.ite ?_ ?_)
      | (with_reducible refine LeO.bind ?_ (fun _ => ?_))
      | exact ih0 _ _ _ _
      | exact ih1 _ _ _ _
      | exact LeO.none _
      | refine LeO.ite ?_ ?_
      | refine LeO.bind ?_ (fun _ => ?_)
theorem graph_body.mono : ∀ a0 a1 a2 a3 k, LeO (graph_body.f k a0 a1 a2 a3) (graph_body.f (k + 1) a0 a1 a2 a3) := by
  intro a0 a1 a2 a3 k
  obtain ⟨ih0, ih1⟩ := graph_body.mono_l k
  unfold graph_body.f
  repeat' first
      | (with_reducible exact ih0 _ _ _ _)
      | (with_reducible exact ih1 _ _ _ _)
      | (with_reducible exact LeO.refl _)
      | (with_reducible exact LeO.none _)
      | (with_reducible refine LeO.ite ?_ ?_)
      | (with_reducible refine LeO.bind ?_ (fun _ => ?_))
      | exact ih0 _ _ _ _
      | exact ih1 _ _ _ _
      | exact LeO.none _
      | refine LeO.ite ?_ ?_
      | refine LeO.bind ?_ (fun _ => ?_)
set_option maxHeartbeats 8000000 in
set_option maxRecDepth 100000 in
theorem graph_body.calls (k : Nat) (A0 : Option Addr) (c0 : Nat) (l0 : List (List Int)) (a1 : Int) (A2 : Option Addr) (c2 : Nat) (l2 : List Int) (A3 : Option Addr) (c3 : Nat) (l3 : List Bool) (r : List Int) (w : World) (hr0 : Kd.C (Kd.slice 3 (Kd.int .i64)) w A0 l0.length l0) (hc0 : l0.length ≤ c0) (hr2 : Kd.C (Kd.int .i64) w A2 l2.length l2) (hc2 : l2.length ≤ c2) (hr3 : Kd.C Kd.bool w A3 l3.length l3) (hc3 : l3.length ≤ c3) (h : graph_body.f k l0 a1 l2 l3 = some r) :
    Calls Try.prog 32 #[.slice A0 l0.length c0, .int .i64 a1, .slice A2 l2.length c2, .slice A3 l3.length c3] w fun e w' => ∃ v0_ : Value, e = .returned (v0_) ∧ Kd.V (Kd.int .i64) 3 w' w.heap.size (fun k_ => (w.heap.size ≤ k_)) v0_ r ∧ Below w.heap.size w w' := by
  have HR0 := Aside0.mk hr0
  have HC0 := Aside0.mk hc0
  clear hr0 hc0
  have HR2 := Aside0.mk hr2
  have HC2 := Aside0.mk hc2
  clear hr2 hc2
  have HR3 := Aside0.mk hr3
  have HC3 := Aside0.mk hc3
  clear hr3 hc3
  have HB := Aside0.mk (Below.refl w.heap.size w)
  have H : (if 0 ≤ (l0.length : Int) then (if ((l0.length : Int) : Int).toNat ≤ 281474976710656 then ((some (List.replicate ((l0.length : Int) : Int).toNat false : List Bool)).bind fun y222 => (if 0 ≤ a1 then (if a1 < (y222.length : Int) then ((slices_Clone_int_int.f l2).bind fun t226 => (graph_body.l0 k l0 l3 (y222.set (a1 : Int).toNat true) t226)) else (none)) else (none))) else (none)) else (none)) = some r := h
  clear h
  by_cases c5 : 0 ≤ (l0.length : Int)
  · rw [if_pos c5] at H
    have c5b0 := eq_true c5
    have c5b1 : decide (0 ≤ (l0.length : Int)) = true := decide_eq_true c5
    clear c5
    by_cases c6 : ((l0.length : Int) : Int).toNat ≤ 281474976710656
    · rw [if_pos c6] at H
      have c6b0 := eq_true c6
      have c6b1 : decide (((l0.length : Int) : Int).toNat ≤ 281474976710656) = true := decide_eq_true c6
      clear c6
      obtain ⟨y222, hy222⟩ : ∃ y_ : List Bool, y_ = (List.replicate ((l0.length : Int) : Int).toNat false) := ⟨_, rfl⟩
      replace H : (if 0 ≤ a1 then (if a1 < (y222.length : Int) then ((slices_Clone_int_int.f l2).bind fun t226 => (graph_body.l0 k l0 l3 (y222.set (a1 : Int).toNat true) t226)) else (none)) else (none)) = some r := by first | (rw [hy222]; with_reducible exact H) | (have H2_ := (Option.bind_some _ _).symm.trans H; rw [hy222]; with_reducible exact H2_) | (have H2_ := (Option.bind_some _ _).symm.trans H; with_reducible exact H2_) | with_reducible exact H | (rw [hy222]; exact H) | exact H
      have Ny222 := Aside0.mk hy222
      clear hy222
      by_cases c7 : 0 ≤ a1
      · rw [if_pos c7] at H
        have c7b0 : decide (0 ≤ a1) = true := decide_eq_true c7
        clear c7
        by_cases c8 : a1 < (y222.length : Int)
        · rw [if_pos c8] at H
          have c8b0 : decide (a1 < (y222.length : Int)) = true := decide_eq_true c8
          clear c8
          obtain ⟨y225, hy225⟩ : ∃ y_ : List Bool, y_ = (y222.set (a1 : Int).toNat true) := ⟨_, rfl⟩
          replace H : ((slices_Clone_int_int.f l2).bind fun t226 => (graph_body.l0 k l0 l3 y225 t226)) = some r := by first | (rw [hy225]; with_reducible exact H) | (have H2_ := (Option.bind_some _ _).symm.trans H; rw [hy225]; with_reducible exact H2_) | (have H2_ := (Option.bind_some _ _).symm.trans H; with_reducible exact H2_) | with_reducible exact H | (rw [hy225]; exact H) | exact H
          have Ny225 := Aside0.mk hy225
          clear hy225
          replace H := Option.bind_eq_some_iff.mp H
          obtain ⟨t226, A100, H⟩ := H
          replace H : (graph_body.l0 k l0 l3 y225 t226) = some r := H
          have A10 := Aside0.mk A100
          clear A100
          have H' := Aside0.mk H
          clear H
          go_enter Try.func32, Try.ntmps32
          go_wp2_with (first | ((with_reducible refine gate_dst (N := 17) rfl ?_); refine Kd.R_make Kd.bool _ 4 rfl (N := 17) rfl 30 _ _ rfl (l0.length : Int) rfl rfl Try.underlying30 (.bool false) 1 info4 rfl (by decide) (by omega) false (ok := fun _ => True) (okp := fun _ => True) rfl (fun _ hk => hk) trivial (of_decide_eq_true (by first | (with_reducible assumption) | assumption)) (Nat.le_trans (Nat.mul_le_mul_right _ (of_decide_eq_true (by first | (with_reducible assumption) | assumption) : (l0.length : Int).toNat ≤ 281474976710656)) (by omega)) (Below.refl _ _) (Nat.le_refl _) ?_; intro v223 w11 ho12 hb hg_ hnew_; clear hg_ hnew_; (first | rw [← Ny222.out] at ho12 | (simp only [Int.reduceToNat] at ho12; rw [← Ny222.out] at ho12)); have n0_ := Aside0.mk (Kd.R_lower (Kd.R_newM (M := fun k_ => (w.heap.size ≤ k_)) ho12 (below_size (by repeat (first | (with_reducible first | exact HB.out | apply below_alloc | apply pw_below_drewN | apply below_drew1) | exact HB.out))) (fun k_ h_ => h_)) (below_size (by repeat (first | (with_reducible first | exact HB.out | apply below_alloc | apply pw_below_drewN | apply below_drew1) | exact HB.out)))); have n1_ := Aside0.mk (below_step (by repeat (first | (with_reducible first | exact HB.out | apply below_alloc | apply pw_below_drewN | apply below_drew1) | exact HB.out)) hb); clear HB; have HO224 := n0_; have HB := n1_; clear n0_ n1_; clear hb ho12; have p9 : 0 ≤ (a1 : Int) := of_decide_eq_true (by first | (with_reducible assumption) | assumption); have q9 : (a1 : Int) < ((y222.length : Int) : Int) := of_decide_eq_true (by first | (with_reducible assumption) | assumption); obtain ⟨go9, co9, eo9, gb9, gl9, cl9, HG9⟩ := Kd.R_form HO224.out (by omega); (first | cases eo9 | (injection eo9 with ea_ en_ ec_; (first | subst ea_ | (injection ea_ with ea_; subst ea_)); subst ec_; clear en_)); have GB9 := Aside0.mk gb9; have GG9 := Aside0.mk HG9; clear gb9 gl9 HG9; obtain ⟨hx9_0, hf9_0⟩ := Kd.R_celln false HO224.out (a1 : Int) p9 q9; replace p9 := eq_true p9; replace q9 := eq_true q9; have n_ := Aside0.mk (Kd.R_mono (ok' := (fun k_ => (w.heap.size ≤ k_))) HO224.out (fun k_ hk => hk.1)); clear HO224; have HO224 := n_; clear n_; obtain ⟨hy13_, hz13_⟩ := Kd.R_celln false HO224.out (a1 : Int) (of_decide_eq_true (by first | (with_reducible assumption) | assumption)) (of_decide_eq_true (by first | (with_reducible assumption) | assumption)); have HP13 := Kd.R_putg HO224.out (a1 : Int) true) | ((with_reducible refine gate_store (t := 4) (p := 20) rfl ?_); refine store_event (t := 4) (p := 20) (v := ?vo_w14) (w1 := (w11.setCell ⟨go9, (a1 : Int).toNat, none⟩ (.bool true))) ?hg ?ho ?hn ?hr ?_; (case ho => rfl); (case hg => rfl); (case hn => rfl); (case hr => first | (go_simp; done) | (go_simp; rfl)); intro w14 hw; have hg : w11.grownBy w14 (some go9) := (by rw [hw]; exact HP13.2); have hp_ : Kd.R Kd.bool 4 w14 w.heap.size (fun k_ => (w.heap.size ≤ k_)) (.slice (some ⟨go9, 0, none⟩) y222.length co9) y225 := (by rw [hw, Ny225.out]; exact HP13.1); clear HP13; have n0_ := Aside0.mk (hp_); have n1_ := Aside0.mk ((by rw [hw]; exact below_set (HB.out) GB9.out : Below w.heap.size w w14)); clear HO224; clear HB; have HO224 := n0_; have HB := n1_; clear n0_ n1_; clear hg hw hp_) | ((with_reducible refine gate_callee (f := 41) rfl ?_); refine goesL_ (some 22) rfl rfl Try.func41 (by kernel_rfl) rfl #[.slice A2 l2.length c2] rfl (by (try simp only [List.map_toArray, List.map_cons, List.map_nil]); first | done | rfl | (simp only [List.length_drop, List.length_take]; rfl)) ?_; (with_reducible refine (slices_Clone_int_int.calls _ _ l2 t226 _ ?side1 ?side2 A10.out).mono ?_); (case side1 => repeat (first | exact (Kd.C_below HR2.out HB.out) | (with_reducible refine Kd.C_alloc ?_ _) | (with_reducible refine Kd.C_drewN ?_ _) | (with_reducible refine Kd.C_drew ?_))); (case side2 => exact HC2.out); rintro e w15 ⟨v227, rfl, ho0, hb⟩; refine ⟨_, rfl, ?_⟩; have n0_ := Aside0.mk (Kd.R_below (by (with_reducible repeat (first | apply Kd.R_alloc | apply Kd.R_drewN | apply Kd.R_drew)); exact HO224.out) hb); have n1_ := Aside0.mk (Kd.R_lower (Kd.R_newM (M := fun k_ => (w.heap.size ≤ k_)) ho0 (below_size (by repeat (first | (with_reducible first | exact HB.out | apply below_alloc | apply pw_below_drewN | apply below_drew1) | exact HB.out))) (fun k_ h_ => h_)) (below_size (by repeat (first | (with_reducible first | exact HB.out | apply below_alloc | apply pw_below_drewN | apply below_drew1) | exact HB.out)))); have n2_ := Aside0.mk (below_step (by repeat (first | (with_reducible first | exact HB.out | apply below_alloc | apply pw_below_drewN | apply below_drew1) | exact HB.out)) hb); clear HO224; clear HB; have HO224 := n0_; have HO228 := n1_; have HB := n2_; clear n0_ n1_ n2_; (try clear hb); (try clear hb2); (try clear hk); (try clear hi); (try clear ho0)))
          go_loopg [10] k (fun kq v10 w' => ∃ (x9_1 : List Bool) (x10_1 : List Int), Aside0 (graph_body.l0 kq l0 l3 x9_1 x10_1 = some r) ∧ Aside0 (kq ≤ k) ∧ Aside0 (Kd.R Kd.bool 4 w' w.heap.size (fun k_ => (w.heap.size ≤ k_)) (.slice (some ⟨go9, 0, none⟩) y222.length co9) x9_1) ∧ Aside0 (Kd.R (Kd.int .i64) 3 w' w.heap.size (fun k_ => (w.heap.size ≤ k_)) v10 x10_1) ∧ Aside0 (Below w.heap.size w w'))
          case atStart => exact ⟨(y225), (t226), H', ⟨Nat.le_refl _⟩, ⟨by (with_reducible repeat (first | apply Kd.R_alloc | apply Kd.R_drewN | apply Kd.R_drew)); exact HO224.out⟩, ⟨by (with_reducible repeat (first | apply Kd.R_alloc | apply Kd.R_drewN | apply Kd.R_drew)); exact Kd.R_mono HO228.out (fun _ hk => hk.1)⟩, ⟨by repeat (first | (with_reducible first | exact HB.out | apply below_alloc | apply pw_below_drewN | apply below_drew1) | exact HB.out)⟩⟩
          case round =>
            clear H'
            try clear c2
            try clear p2
            try clear c3
            try clear c4
            try clear c5
            try clear c5b0
            try clear c5b1
            try clear c6
            try clear c6b0
            try clear c6b1
            try clear c7
            try clear c7b0
            try clear c8
            try clear c8b0
            try clear p9
            try clear q9
            try clear hx9
            try clear hf9
            try clear hx9_0
            try clear p9
            try clear q9
            obtain ⟨x9_1, x10_1, HA, HK1, HO_9, HO_10, HB⟩ := hrel
            have hl9_1 := (Kd.R_reads' HO_9.out).1
            rw [hl9_1] at HO_9
            (try simp only [hl9_1])
            (try simp only [hl9_1] at HO_10)
            cases gk with
            | zero => exact absurd HA.out (by simp [graph_body.l0])
            | succ k1 =>
              have H := HA.out
              clear HA
              simp only [graph_body.l0] at H
              by_cases c16 : (x10_1.length : Int) > 0
              · rw [if_pos c16] at H
                have c16b0 : decide (0 < (x10_1.length : Int)) = true := decide_eq_true c16
                have c16b1 : decide (0 < x10_1.length) = true := decide_eq_true (by omega)
                clear c16
                obtain ⟨ji17, hji17⟩ : ∃ j_ : Int, (wrap64 ((x10_1.length : Int) - 1)) = j_ := ⟨_, rfl⟩
                replace H : (if 0 ≤ (ji17) then (if (ji17) < (x10_1.length : Int) then (if (ji17) ≤ (x10_1.length : Int) then ((some (x10_1.take ((ji17) : Int).toNat : List Int)).bind fun y230 => (if 0 ≤ (rd x10_1 (ji17)) then (if (rd x10_1 (ji17)) < (x9_1.length : Int) then (if rdOf false x9_1 (rd x10_1 (ji17)) = true then (graph_body.l0 k1 l0 l3 x9_1 y230) else (if (rd x10_1 (ji17)) < (l3.length : Int) then (if (rdOf false l3 (rd x10_1 (ji17)) = true) then (if (rd x10_1 (ji17)) < (l0.length : Int) then (if y230.length + (rd_L1 l0 (rd x10_1 (ji17))).length < 17592186044416 then (graph_body.l0 k1 l0 l3 (x9_1.set ((rd x10_1 (ji17)) : Int).toNat true) (y230 ++ (rd_L1 l0 (rd x10_1 (ji17))))) else (none)) else (none)) else (graph_body.l0 k1 l0 l3 x9_1 y230)) else (none))) else (none)) else (none))) else (none)) else (none)) else (none)) = some r := by first | (rw [hji17] at H; exact H) | (simp only [hji17] at H ⊢; exact H)
                have hji17w : (IntKind.i64.wrap ((x10_1.length : Int) - 1)) = ji17 := (i64_w _).trans hji17
                by_cases c18 : 0 ≤ (ji17)
                · rw [if_pos c18] at H
                  have c18b0 : decide (0 ≤ (ji17)) = true := decide_eq_true c18
                  clear c18
                  by_cases c19 : (ji17) < (x10_1.length : Int)
                  · rw [if_pos c19] at H
                    have c19b0 : decide ((ji17) < (x10_1.length : Int)) = true := decide_eq_true c19
                    clear c19
                    by_cases c20 : (ji17) ≤ (x10_1.length : Int)
                    · rw [if_pos c20] at H
                      have c20b0 := eq_true c20
                      have c20b1 : decide ((ji17) ≤ (x10_1.length : Int)) = true := decide_eq_true c20
                      clear c20
                      obtain ⟨y230, hy230⟩ : ∃ y_ : List Int, y_ = (x10_1.take ((ji17) : Int).toNat) := ⟨_, rfl⟩
                      replace H : (if 0 ≤ (rd x10_1 (ji17)) then (if (rd x10_1 (ji17)) < (x9_1.length : Int) then (if rdOf false x9_1 (rd x10_1 (ji17)) = true then (graph_body.l0 k1 l0 l3 x9_1 y230) else (if (rd x10_1 (ji17)) < (l3.length : Int) then (if (rdOf false l3 (rd x10_1 (ji17)) = true) then (if (rd x10_1 (ji17)) < (l0.length : Int) then (if y230.length + (rd_L1 l0 (rd x10_1 (ji17))).length < 17592186044416 then (graph_body.l0 k1 l0 l3 (x9_1.set ((rd x10_1 (ji17)) : Int).toNat true) (y230 ++ (rd_L1 l0 (rd x10_1 (ji17))))) else (none)) else (none)) else (graph_body.l0 k1 l0 l3 x9_1 y230)) else (none))) else (none)) else (none)) = some r := by first | (rw [hy230]; with_reducible exact H) | (have H2_ := (Option.bind_some _ _).symm.trans H; rw [hy230]; with_reducible exact H2_) | (have H2_ := (Option.bind_some _ _).symm.trans H; with_reducible exact H2_) | with_reducible exact H | (rw [hy230]; exact H) | exact H
                      have Ny230 := Aside0.mk hy230
                      clear hy230
                      by_cases c21 : 0 ≤ (rd x10_1 (ji17))
                      · rw [if_pos c21] at H
                        have c21b0 : decide (0 ≤ (rd x10_1 (ji17))) = true := decide_eq_true c21
                        clear c21
                        by_cases c22 : (rd x10_1 (ji17)) < (x9_1.length : Int)
                        · rw [if_pos c22] at H
                          have c22b0 : decide ((rd x10_1 (ji17)) < (x9_1.length : Int)) = true := decide_eq_true c22
                          clear c22
                          obtain ⟨bq23, hbq23⟩ : ∃ b_ : Bool, b_ = (rdOf false x9_1 (rd x10_1 (ji17))) := ⟨_, rfl⟩
                          replace H : (if bq23 = true then (graph_body.l0 k1 l0 l3 x9_1 y230) else (if (rd x10_1 (ji17)) < (l3.length : Int) then (if (rdOf false l3 (rd x10_1 (ji17)) = true) then (if (rd x10_1 (ji17)) < (l0.length : Int) then (if y230.length + (rd_L1 l0 (rd x10_1 (ji17))).length < 17592186044416 then (graph_body.l0 k1 l0 l3 (x9_1.set ((rd x10_1 (ji17)) : Int).toNat true) (y230 ++ (rd_L1 l0 (rd x10_1 (ji17))))) else (none)) else (none)) else (graph_body.l0 k1 l0 l3 x9_1 y230)) else (none))) = some r := by rw [← hbq23] at H; exact H
                          have Nbq23 := Aside0.mk hbq23
                          clear hbq23
                          by_cases c24 : bq23 = true
                          · subst c24
                            have H1 : (graph_body.l0 k1 l0 l3 x9_1 y230) = some r := by rw [if_pos rfl] at H; exact H
                            clear H
                            have H := H1
                            clear H1
                            have H' := Aside0.mk H
                            clear H
                            obtain ⟨Ao25, co25, eo25⟩ := Kd.R_slice HO_10.out
                            subst eo25
                            have p229 : 0 ≤ ((ji17) : Int) := of_decide_eq_true (by first | (with_reducible assumption) | assumption)
                            have q229 : (ji17) < (x10_1.length : Int) := of_decide_eq_true (by first | (with_reducible assumption) | assumption)
                            obtain ⟨ad229, e229, hx229_0⟩ := Kd.at_int (Kd.R_reads' HO_10.out).2.2 (ji17) p229 q229
                            cases e229
                            replace p229 := eq_true p229
                            replace q229 := eq_true q229
                            have q26 : ((ji17) : Int) ≤ ((x10_1.length : Int) : Int) := of_decide_eq_true (by first | (with_reducible assumption) | assumption)
                            obtain ⟨i026, hi026, _, hsz26, _⟩ := info_parts info3
                            have hcut26 := cut_to (P := Try.prog) 25 3 .i64 Try.underlying25 hi026 (some ad229) x10_1.length co25 (ji17) (of_decide_eq_true (by first | (with_reducible assumption) | assumption)) q26 (Kd.R_reads' HO_10.out).2.1
                            have hr26 := Kd.R_take (m := ((ji17) : Int).toNat) HO_10.out (by omega)
                            have hy26 : y230.length = ((ji17) : Int).toNat := (by rw [Ny230.out, List.length_take]; omega)
                            rw [← Ny230.out] at hr26
                            rw [← hy26] at hr26 hcut26
                            clear hy26 hi026 hsz26 HO_10
                            have HO232 := Aside0.mk hr26
                            clear hr26
                            replace q26 := eq_true q26
                            have p233 : 0 ≤ ((rd x10_1 (ji17)) : Int) := of_decide_eq_true (by first | (with_reducible assumption) | assumption)
                            have q233 : (rd x10_1 (ji17)) < (x9_1.length : Int) := of_decide_eq_true (by first | (with_reducible assumption) | assumption)
                            obtain ⟨ad233, e233, hx233_0⟩ := Kd.at_bool (Kd.R_reads' HO_9.out).2.2 (rd x10_1 (ji17)) p233 q233
                            (try rw [← Nbq23.out] at hx233_0)
                            obtain rfl : (⟨go9, 0, none⟩ : Addr) = ad233 := (by injection e233)
                            (first | simp only [add_plain] at hx233_0 | simp only [add_at] at hx233_0 | simp only [Addr.add, Nat.zero_add] at hx233_0 | skip)
                            replace p233 := eq_true p233
                            replace q233 := eq_true q233
                            go_wp2
                            (try simp only [← hl9_1])
                            go_roundg k1
                            case measure => have := HK1.out; omega
                            case rel => exact ⟨(x9_1), (y230), H', ⟨by have := HK1.out; omega⟩, ⟨by (try simp only [hl9_1]); (with_reducible repeat (first | apply Kd.R_alloc | apply Kd.R_drewN | apply Kd.R_drew)); exact HO_9.out⟩, ⟨by (try simp only [hl9_1]); (with_reducible repeat (first | apply Kd.R_alloc | apply Kd.R_drewN | apply Kd.R_drew)); exact HO232.out⟩, ⟨by repeat (first | (with_reducible first | exact HB.out | apply below_alloc | apply pw_below_drewN | apply below_drew1) | exact HB.out)⟩⟩
                          · replace c24 := Bool.eq_false_iff.mpr c24
                            subst c24
                            have H1 : (if (rd x10_1 (ji17)) < (l3.length : Int) then (if (rdOf false l3 (rd x10_1 (ji17)) = true) then (if (rd x10_1 (ji17)) < (l0.length : Int) then (if y230.length + (rd_L1 l0 (rd x10_1 (ji17))).length < 17592186044416 then (graph_body.l0 k1 l0 l3 (x9_1.set ((rd x10_1 (ji17)) : Int).toNat true) (y230 ++ (rd_L1 l0 (rd x10_1 (ji17))))) else (none)) else (none)) else (graph_body.l0 k1 l0 l3 x9_1 y230)) else (none)) = some r := by rw [if_neg (show ¬ (false = true) by decide)] at H; exact H
                            clear H
                            have H := H1
                            clear H1
                            by_cases c27 : (rd x10_1 (ji17)) < (l3.length : Int)
                            · rw [if_pos c27] at H
                              have c27b0 : decide ((rd x10_1 (ji17)) < (l3.length : Int)) = true := decide_eq_true c27
                              clear c27
                              obtain ⟨bq28, hbq28⟩ : ∃ b_ : Bool, b_ = (rdOf false l3 (rd x10_1 (ji17))) := ⟨_, rfl⟩
                              replace H : (if (bq28 = true) then (if (rd x10_1 (ji17)) < (l0.length : Int) then (if y230.length + (rd_L1 l0 (rd x10_1 (ji17))).length < 17592186044416 then (graph_body.l0 k1 l0 l3 (x9_1.set ((rd x10_1 (ji17)) : Int).toNat true) (y230 ++ (rd_L1 l0 (rd x10_1 (ji17))))) else (none)) else (none)) else (graph_body.l0 k1 l0 l3 x9_1 y230)) = some r := by rw [← hbq28] at H; exact H
                              have Nbq28 := Aside0.mk hbq28
                              clear hbq28
                              by_cases c29 : (bq28 = true)
                              · subst c29
                                have H1 : (if (rd x10_1 (ji17)) < (l0.length : Int) then (if y230.length + (rd_L1 l0 (rd x10_1 (ji17))).length < 17592186044416 then (graph_body.l0 k1 l0 l3 (x9_1.set ((rd x10_1 (ji17)) : Int).toNat true) (y230 ++ (rd_L1 l0 (rd x10_1 (ji17))))) else (none)) else (none)) = some r := by rw [if_pos rfl] at H; exact H
                                clear H
                                have H := H1
                                clear H1
                                obtain ⟨y235, hy235⟩ : ∃ y_ : List Bool, y_ = (x9_1.set ((rd x10_1 (ji17)) : Int).toNat true) := ⟨_, rfl⟩
                                replace H : (if (rd x10_1 (ji17)) < (l0.length : Int) then (if y230.length + (rd_L1 l0 (rd x10_1 (ji17))).length < 17592186044416 then (graph_body.l0 k1 l0 l3 y235 (y230 ++ (rd_L1 l0 (rd x10_1 (ji17))))) else (none)) else (none)) = some r := by first | (rw [hy235]; with_reducible exact H) | (have H2_ := (Option.bind_some _ _).symm.trans H; rw [hy235]; with_reducible exact H2_) | (have H2_ := (Option.bind_some _ _).symm.trans H; with_reducible exact H2_) | with_reducible exact H | (rw [hy235]; exact H) | exact H
                                have Ny235 := Aside0.mk hy235
                                clear hy235
                                by_cases c31 : (rd x10_1 (ji17)) < (l0.length : Int)
                                · rw [if_pos c31] at H
                                  have c31b0 : decide ((rd x10_1 (ji17)) < (l0.length : Int)) = true := decide_eq_true c31
                                  clear c31
                                  by_cases c32 : y230.length + (rd_L1 l0 (rd x10_1 (ji17))).length < 17592186044416
                                  · rw [if_pos c32] at H
                                    have LMc32 := Aside0.mk c32
                                    clear c32
                                    obtain ⟨y237, hy237⟩ : ∃ y_ : List Int, y_ = (y230 ++ (rd_L1 l0 (rd x10_1 (ji17)))) := ⟨_, rfl⟩
                                    replace H : (graph_body.l0 k1 l0 l3 y235 y237) = some r := by first | (rw [hy237]; with_reducible exact H) | (have H2_ := (Option.bind_some _ _).symm.trans H; rw [hy237]; with_reducible exact H2_) | (have H2_ := (Option.bind_some _ _).symm.trans H; with_reducible exact H2_) | with_reducible exact H | (rw [hy237]; exact H) | exact H
                                    have Ny237 := Aside0.mk hy237
                                    clear hy237
                                    have H' := Aside0.mk H
                                    clear H
                                    obtain ⟨Ao33, co33, eo33⟩ := Kd.R_slice HO_10.out
                                    subst eo33
                                    have p229 : 0 ≤ ((ji17) : Int) := of_decide_eq_true (by first | (with_reducible assumption) | assumption)
                                    have q229 : (ji17) < (x10_1.length : Int) := of_decide_eq_true (by first | (with_reducible assumption) | assumption)
                                    obtain ⟨ad229, e229, hx229_0⟩ := Kd.at_int (Kd.R_reads' HO_10.out).2.2 (ji17) p229 q229
                                    cases e229
                                    replace p229 := eq_true p229
                                    replace q229 := eq_true q229
                                    have q34 : ((ji17) : Int) ≤ ((x10_1.length : Int) : Int) := of_decide_eq_true (by first | (with_reducible assumption) | assumption)
                                    obtain ⟨i034, hi034, _, hsz34, _⟩ := info_parts info3
                                    have hcut34 := cut_to (P := Try.prog) 25 3 .i64 Try.underlying25 hi034 (some ad229) x10_1.length co33 (ji17) (of_decide_eq_true (by first | (with_reducible assumption) | assumption)) q34 (Kd.R_reads' HO_10.out).2.1
                                    have hr34 := Kd.R_take (m := ((ji17) : Int).toNat) HO_10.out (by omega)
                                    have hy34 : y230.length = ((ji17) : Int).toNat := (by rw [Ny230.out, List.length_take]; omega)
                                    rw [← Ny230.out] at hr34
                                    rw [← hy34] at hr34 hcut34
                                    clear hy34 hi034 hsz34 HO_10
                                    have HO232 := Aside0.mk hr34
                                    clear hr34
                                    replace q34 := eq_true q34
                                    have p233 : 0 ≤ ((rd x10_1 (ji17)) : Int) := of_decide_eq_true (by first | (with_reducible assumption) | assumption)
                                    have q233 : (rd x10_1 (ji17)) < (x9_1.length : Int) := of_decide_eq_true (by first | (with_reducible assumption) | assumption)
                                    obtain ⟨ad233, e233, hx233_0⟩ := Kd.at_bool (Kd.R_reads' HO_9.out).2.2 (rd x10_1 (ji17)) p233 q233
                                    (try rw [← Nbq23.out] at hx233_0)
                                    (try rw [← Nbq28.out] at hx233_0)
                                    obtain rfl : (⟨go9, 0, none⟩ : Addr) = ad233 := (by injection e233)
                                    (first | simp only [add_plain] at hx233_0 | simp only [add_at] at hx233_0 | simp only [Addr.add, Nat.zero_add] at hx233_0 | skip)
                                    replace p233 := eq_true p233
                                    replace q233 := eq_true q233
                                    have p234 : 0 ≤ ((rd x10_1 (ji17)) : Int) := of_decide_eq_true (by first | (with_reducible assumption) | assumption)
                                    have q234 : (rd x10_1 (ji17)) < (l3.length : Int) := of_decide_eq_true (by first | (with_reducible assumption) | assumption)
                                    obtain ⟨ad234, e234, hx234_0⟩ := Kd.at_bool HR3.out (rd x10_1 (ji17)) p234 q234
                                    (try rw [← Nbq23.out] at hx234_0)
                                    (try rw [← Nbq28.out] at hx234_0)
                                    cases e234
                                    replace hx234_0 := (HB.out.cell (World.block_lt_of_cell? w _ hx234_0)).trans hx234_0
                                    replace p234 := eq_true p234
                                    replace q234 := eq_true q234
                                    have p30 : 0 ≤ ((rd x10_1 (ji17)) : Int) := of_decide_eq_true (by first | (with_reducible assumption) | assumption)
                                    have q30 : ((rd x10_1 (ji17)) : Int) < ((x9_1.length : Int) : Int) := of_decide_eq_true (by first | (with_reducible assumption) | assumption)
                                    obtain ⟨hx30_0, hf30_0⟩ := Kd.R_celln false HO_9.out ((rd x10_1 (ji17)) : Int) p30 q30
                                    replace p30 := eq_true p30
                                    replace q30 := eq_true q30
                                    have HP35 := Kd.R_putg HO_9.out ((rd x10_1 (ji17)) : Int) true
                                    go_wp2_with (first | ((with_reducible refine gate_store (t := 4) (p := 50) rfl ?_); refine store_event (t := 4) (p := 50) (v := ?vo_w36) (w1 := (wr.setCell ⟨go9, ((rd x10_1 (ji17)) : Int).toNat, none⟩ (.bool true))) ?hg ?ho ?hn ?hr ?_; (case ho => rfl); (case hg => rfl); (case hn => rfl); (case hr => first | (go_simp; done) | (go_simp; rfl)); intro w36 hw; have hg : wr.grownBy w36 (some go9) := (by rw [hw]; exact HP35.2); have hp_ : Kd.R Kd.bool 4 w36 w.heap.size (fun k_ => (w.heap.size ≤ k_)) (.slice (some ⟨go9, 0, none⟩) x9_1.length co9) y235 := (by rw [hw, Ny235.out]; exact HP35.1); clear HP35; have n0_ := Aside0.mk (hp_); have n1_ := Aside0.mk (Kd.R_over' (v := (.slice (some ⟨go9, 0, none⟩) x9_1.length co9)) (by (with_reducible repeat (first | apply Kd.R_alloc | apply Kd.R_drewN | apply Kd.R_drew)); exact HO232.out) (Kd.R_typed HO_9.out) (by decide) hg); have n2_ := Aside0.mk ((by rw [hw]; exact below_set (HB.out) GB9.out : Below w.heap.size w w36)); clear HO_9; clear HO232; clear HB; have HO_9 := n0_; have HO232 := n1_; have HB := n2_; clear n0_ n1_ n2_; clear hg hw hp_; have p236 : 0 ≤ ((rd x10_1 (ji17)) : Int) := of_decide_eq_true (by first | (with_reducible assumption) | assumption); have q236 : (rd x10_1 (ji17)) < (l0.length : Int) := of_decide_eq_true (by first | (with_reducible assumption) | assumption); obtain ⟨ad236, A236_0, c236_0, e236, hx236_0, hl236_0, hi236_0⟩ := at_L1 HR0.out (rd x10_1 (ji17)) p236 q236; cases e236; replace hx236_0 := (HB.out.cell (World.block_lt_of_cell? w _ hx236_0)).trans hx236_0; have HR236_0 := Aside0.mk hi236_0; have HC236_0 := Aside0.mk hl236_0; clear hi236_0 hl236_0; replace p236 := eq_true p236; replace q236 := eq_true q236) | ((with_reducible refine gate_builtin (b := .append) (xs := #[.tmp 51, .tmp 55]) rfl ?_); at_builtin; refine Kd.R_append_rows (Kd.int .i64) (w0 := w) w.heap.size rfl (.tmp 51) (.tmp 55) 25 3 (.int .i64 0) 8 rfl Try.underlying25 info3 rfl (by decide) (by omega) (.slice (some ad229) y230.length co33) y230 (rd_L1 l0 (rd x10_1 (ji17))) _ _ _ (fun k_ => (w.heap.size ≤ k_)) (fun _ => False) rfl rfl ?aO ?aR (fun _ _ h => h) (fun _ h => h.elim) ?aF ?aB ?aS ?aL ?_; (case aR => repeat (first | exact (Kd.C_below HR236_0.out HB.out) | (with_reducible refine Kd.C_alloc ?_ _) | (with_reducible refine Kd.C_drewN ?_ _) | (with_reducible refine Kd.C_drew ?_))); (case aB => exact (by repeat (first | (with_reducible first | exact HB.out | apply below_alloc | apply pw_below_drewN | apply below_drew1) | exact HB.out))); (case aF => exact (fun k_ hk => (Nat.le_trans (below_size (by repeat (first | (with_reducible first | exact HB.out | apply below_alloc | apply pw_below_drewN | apply below_drew1) | exact HB.out))) hk))); (case aO => exact (by (with_reducible repeat (first | apply Kd.R_alloc | apply Kd.R_drewN | apply Kd.R_drew)); exact HO232.out)); (case aS => exact (below_size (by repeat (first | (with_reducible first | exact HB.out | apply below_alloc | apply pw_below_drewN | apply below_drew1) | exact HB.out)))); (case aL => have := LMc32.out; omega); intro v238 w37 ho hb hg hat; rw [← Ny237.out] at ho; have n0_ := Aside0.mk (Kd.R_over' (by (with_reducible repeat (first | apply Kd.R_alloc | apply Kd.R_drewN | apply Kd.R_drew)); exact HO_9.out) (Kd.R_typed (by (with_reducible repeat (first | apply Kd.R_alloc | apply Kd.R_drewN | apply Kd.R_drew)); exact HO232.out)) (by decide) hg); have n1_ := Aside0.mk (hb); have n2_ := Aside0.mk (ho); clear HO_9; clear HB; clear HO232; have HO_9 := n0_; have HB := n1_; have HO239 := n2_; clear n0_ n1_ n2_; clear ho hb hg hat))
                                    (try simp only [← hl9_1])
                                    go_roundg k1
                                    case measure => have := HK1.out; omega
                                    case rel => exact ⟨(y235), (y237), H', ⟨by have := HK1.out; omega⟩, ⟨by (try simp only [hl9_1]); (with_reducible repeat (first | apply Kd.R_alloc | apply Kd.R_drewN | apply Kd.R_drew)); exact HO_9.out⟩, ⟨by (try simp only [hl9_1]); (with_reducible repeat (first | apply Kd.R_alloc | apply Kd.R_drewN | apply Kd.R_drew)); exact HO239.out⟩, ⟨by repeat (first | (with_reducible first | exact HB.out | apply below_alloc | apply pw_below_drewN | apply below_drew1) | exact HB.out)⟩⟩
                                  · rw [if_neg c32] at H
                                    exact absurd H (by simp)
                                · rw [if_neg c31] at H
                                  exact absurd H (by simp)
                              · replace c29 := Bool.eq_false_iff.mpr c29
                                subst c29
                                have H1 : (graph_body.l0 k1 l0 l3 x9_1 y230) = some r := by rw [if_neg (show ¬ (false = true) by decide)] at H; exact H
                                clear H
                                have H := H1
                                clear H1
                                have H' := Aside0.mk H
                                clear H
                                obtain ⟨Ao38, co38, eo38⟩ := Kd.R_slice HO_10.out
                                subst eo38
                                have p229 : 0 ≤ ((ji17) : Int) := of_decide_eq_true (by first | (with_reducible assumption) | assumption)
                                have q229 : (ji17) < (x10_1.length : Int) := of_decide_eq_true (by first | (with_reducible assumption) | assumption)
                                obtain ⟨ad229, e229, hx229_0⟩ := Kd.at_int (Kd.R_reads' HO_10.out).2.2 (ji17) p229 q229
                                cases e229
                                replace p229 := eq_true p229
                                replace q229 := eq_true q229
                                have q39 : ((ji17) : Int) ≤ ((x10_1.length : Int) : Int) := of_decide_eq_true (by first | (with_reducible assumption) | assumption)
                                obtain ⟨i039, hi039, _, hsz39, _⟩ := info_parts info3
                                have hcut39 := cut_to (P := Try.prog) 25 3 .i64 Try.underlying25 hi039 (some ad229) x10_1.length co38 (ji17) (of_decide_eq_true (by first | (with_reducible assumption) | assumption)) q39 (Kd.R_reads' HO_10.out).2.1
                                have hr39 := Kd.R_take (m := ((ji17) : Int).toNat) HO_10.out (by omega)
                                have hy39 : y230.length = ((ji17) : Int).toNat := (by rw [Ny230.out, List.length_take]; omega)
                                rw [← Ny230.out] at hr39
                                rw [← hy39] at hr39 hcut39
                                clear hy39 hi039 hsz39 HO_10
                                have HO232 := Aside0.mk hr39
                                clear hr39
                                replace q39 := eq_true q39
                                have p233 : 0 ≤ ((rd x10_1 (ji17)) : Int) := of_decide_eq_true (by first | (with_reducible assumption) | assumption)
                                have q233 : (rd x10_1 (ji17)) < (x9_1.length : Int) := of_decide_eq_true (by first | (with_reducible assumption) | assumption)
                                obtain ⟨ad233, e233, hx233_0⟩ := Kd.at_bool (Kd.R_reads' HO_9.out).2.2 (rd x10_1 (ji17)) p233 q233
                                (try rw [← Nbq23.out] at hx233_0)
                                (try rw [← Nbq28.out] at hx233_0)
                                obtain rfl : (⟨go9, 0, none⟩ : Addr) = ad233 := (by injection e233)
                                (first | simp only [add_plain] at hx233_0 | simp only [add_at] at hx233_0 | simp only [Addr.add, Nat.zero_add] at hx233_0 | skip)
                                replace p233 := eq_true p233
                                replace q233 := eq_true q233
                                have p234 : 0 ≤ ((rd x10_1 (ji17)) : Int) := of_decide_eq_true (by first | (with_reducible assumption) | assumption)
                                have q234 : (rd x10_1 (ji17)) < (l3.length : Int) := of_decide_eq_true (by first | (with_reducible assumption) | assumption)
                                obtain ⟨ad234, e234, hx234_0⟩ := Kd.at_bool HR3.out (rd x10_1 (ji17)) p234 q234
                                (try rw [← Nbq23.out] at hx234_0)
                                (try rw [← Nbq28.out] at hx234_0)
                                cases e234
                                replace hx234_0 := (HB.out.cell (World.block_lt_of_cell? w _ hx234_0)).trans hx234_0
                                replace p234 := eq_true p234
                                replace q234 := eq_true q234
                                go_wp2
                                (try simp only [← hl9_1])
                                go_roundg k1
                                case measure => have := HK1.out; omega
                                case rel => exact ⟨(x9_1), (y230), H', ⟨by have := HK1.out; omega⟩, ⟨by (try simp only [hl9_1]); (with_reducible repeat (first | apply Kd.R_alloc | apply Kd.R_drewN | apply Kd.R_drew)); exact HO_9.out⟩, ⟨by (try simp only [hl9_1]); (with_reducible repeat (first | apply Kd.R_alloc | apply Kd.R_drewN | apply Kd.R_drew)); exact HO232.out⟩, ⟨by repeat (first | (with_reducible first | exact HB.out | apply below_alloc | apply pw_below_drewN | apply below_drew1) | exact HB.out)⟩⟩
                            · rw [if_neg c27] at H
                              exact absurd H (by simp)
                        · rw [if_neg c22] at H
                          exact absurd H (by simp)
                      · rw [if_neg c21] at H
                        exact absurd H (by simp)
                    · rw [if_neg c20] at H
                      exact absurd H (by simp)
                  · rw [if_neg c19] at H
                    exact absurd H (by simp)
                · rw [if_neg c18] at H
                  exact absurd H (by simp)
              · rw [if_neg c16] at H
                have c16b0 : decide (0 < (x10_1.length : Int)) = false := decide_eq_false c16
                have c16b1 : decide (0 < x10_1.length) = false := decide_eq_false (by omega)
                clear c16
                have H' := Aside0.mk H
                clear H
                obtain ⟨Ao40, co40, eo40⟩ := Kd.R_slice HO_10.out
                subst eo40
                go_wp2
                go_loopg [12, 59] k1 (fun kq v12 v59 w' => ∃ (x12_2 : List Int) (x59_2 : Int), v59 = .int .i64 x59_2 ∧ Aside0 (graph_body.l1 kq x12_2 x9_1 (x9_1.length : Int) x59_2 = some r) ∧ Aside0 (kq ≤ k1) ∧ Aside0 (Kd.R (Kd.int .i64) 3 w' w.heap.size (fun k_ => (w.heap.size ≤ k_)) v12 x12_2) ∧ Aside0 (Kd.R Kd.bool 4 w' w.heap.size (fun k_ => (w.heap.size ≤ k_)) (.slice (some ⟨go9, 0, none⟩) x9_1.length co9) x9_1) ∧ Aside0 (Below w.heap.size w w'))
                case atStart => exact ⟨(([] : List Int)), (0), (by first | rfl | (simp; done) | (simp [*]; done)), H', ⟨Nat.le_refl _⟩, ⟨by (try simp only [hl9_1]); first | exact Kd.R_nil _ _ _ _ _ | exact Kd.N_nil _ _ _ _ _ | exact Kd.V_nil _ _ _ _ _ | exact Kd.Q_nil _ _ _ _ _ | exact Kd.S_nil _ _ _ _ _⟩, ⟨by (try simp only [hl9_1]); (with_reducible repeat (first | apply Kd.R_alloc | apply Kd.R_drewN | apply Kd.R_drew)); exact HO_9.out⟩, ⟨by repeat (first | (with_reducible first | exact HB.out | apply below_alloc | apply pw_below_drewN | apply below_drew1) | exact HB.out)⟩⟩
                case round =>
                  clear H'
                  try clear c1
                  try clear c2
                  try clear p2
                  try clear q2
                  try clear hx2
                  try clear c3
                  try clear p3
                  try clear q3
                  try clear hx3
                  try clear c4
                  try clear c5
                  try clear c5b0
                  try clear c5b1
                  try clear c6
                  try clear c6b0
                  try clear c6b1
                  try clear p6
                  try clear c7
                  try clear c7b0
                  try clear c8
                  try clear c8b0
                  try clear p9
                  try clear q9
                  try clear hx9
                  try clear hf9
                  try clear c16
                  try clear c16b0
                  try clear c16b1
                  try clear c18
                  try clear c18b0
                  try clear c19
                  try clear c19b0
                  try clear c20
                  try clear c20b0
                  try clear c20b1
                  try clear c21
                  try clear c21b0
                  try clear c22
                  try clear c22b0
                  try clear p22
                  try clear q22
                  try clear hx22
                  try clear c23
                  try clear p23
                  try clear q23
                  try clear hx23
                  try clear c24
                  try clear q26
                  try clear c27
                  try clear c27b0
                  try clear q28
                  try clear c29
                  try clear p30
                  try clear q30
                  try clear hx30
                  try clear hf30
                  try clear c31
                  try clear c31b0
                  try clear c32
                  try clear q34
                  try clear q39
                  try clear hx229_0
                  try clear hx233_0
                  try clear hx234_0
                  try clear hx236_0
                  try clear hx30_0
                  try clear hx9_0
                  try clear p2
                  try clear p229
                  try clear p233
                  try clear p234
                  try clear p236
                  try clear p30
                  try clear p9
                  try clear q229
                  try clear q233
                  try clear q234
                  try clear q236
                  try clear q26
                  try clear q30
                  try clear q34
                  try clear q39
                  try clear q9
                  obtain ⟨x12_2, x59_2, rfl, HA, HK2, HO_12, HO_57, HB⟩ := hrel
                  cases gk with
                  | zero => exact absurd HA.out (by simp [graph_body.l1])
                  | succ k2 =>
                    have H := HA.out
                    clear HA
                    simp only [graph_body.l1] at H
                    by_cases c41 : x59_2 < (x9_1.length : Int)
                    · rw [if_pos c41] at H
                      have c41b0 : decide (x59_2 < (x9_1.length : Int)) = true := decide_eq_true c41
                      clear c41
                      by_cases c42 : 0 ≤ x59_2
                      · rw [if_pos c42] at H
                        have c42b0 : decide (0 ≤ x59_2) = true := decide_eq_true c42
                        clear c42
                        by_cases c43 : x59_2 < (x9_1.length : Int)
                        · rw [if_pos c43] at H
                          have c43b0 : decide (x59_2 < (x9_1.length : Int)) = true := decide_eq_true c43
                          clear c43
                          obtain ⟨bq44, hbq44⟩ : ∃ b_ : Bool, b_ = (rdOf false x9_1 x59_2) := ⟨_, rfl⟩
                          replace H : (if bq44 = true then (if x12_2.length < 17592186044416 then (graph_body.l1 k2 (x12_2 ++ [x59_2]) x9_1 (x9_1.length : Int) (wrap64 (x59_2 + 1))) else (none)) else (graph_body.l1 k2 x12_2 x9_1 (x9_1.length : Int) (wrap64 (x59_2 + 1)))) = some r := by rw [← hbq44] at H; exact H
                          have Nbq44 := Aside0.mk hbq44
                          clear hbq44
                          by_cases c45 : bq44 = true
                          · subst c45
                            have H1 : (if x12_2.length < 17592186044416 then (graph_body.l1 k2 (x12_2 ++ [x59_2]) x9_1 (x9_1.length : Int) (wrap64 (x59_2 + 1))) else (none)) = some r := by rw [if_pos rfl] at H; exact H
                            clear H
                            have H := H1
                            clear H1
                            by_cases c46 : x12_2.length < 17592186044416
                            · rw [if_pos c46] at H
                              have LMc46 := Aside0.mk c46
                              clear c46
                              obtain ⟨y241, hy241⟩ : ∃ y_ : List Int, y_ = (x12_2 ++ [x59_2]) := ⟨_, rfl⟩
                              replace H : (graph_body.l1 k2 y241 x9_1 (x9_1.length : Int) (wrap64 (x59_2 + 1))) = some r := by first | (rw [hy241]; with_reducible exact H) | (have H2_ := (Option.bind_some _ _).symm.trans H; rw [hy241]; with_reducible exact H2_) | (have H2_ := (Option.bind_some _ _).symm.trans H; with_reducible exact H2_) | with_reducible exact H | (rw [hy241]; exact H) | exact H
                              have Ny241 := Aside0.mk hy241
                              clear hy241
                              have H' := Aside0.mk H
                              clear H
                              have p240 : 0 ≤ (x59_2 : Int) := of_decide_eq_true (by first | (with_reducible assumption) | assumption)
                              have q240 : x59_2 < (x9_1.length : Int) := of_decide_eq_true (by first | (with_reducible assumption) | assumption)
                              obtain ⟨ad240, e240, hx240_0⟩ := Kd.at_bool (Kd.R_reads' HO_57.out).2.2 x59_2 p240 q240
                              (try rw [← Nbq44.out] at hx240_0)
                              obtain rfl : (⟨go9, 0, none⟩ : Addr) = ad240 := (by injection e240)
                              (first | simp only [add_plain] at hx240_0 | simp only [add_at] at hx240_0 | simp only [Addr.add, Nat.zero_add] at hx240_0 | skip)
                              replace p240 := eq_true p240
                              replace q240 := eq_true q240
                              go_wp2_with (first | ((with_reducible refine gate_builtin (b := .append) (xs := #[.tmp 65, .tmp 67]) rfl ?_); at_builtin; refine Kd.R_append (Kd.int .i64) (w0 := w) w.heap.size rfl (.tmp 65) (.tmp 67) 25 3 (.int .i64 0) 8 rfl Try.underlying25 info3 rfl (by decide) (by omega) u12 x12_2 x59_2 [.int .i64 x59_2] (fun k_ => (w.heap.size ≤ k_)) (fun _ => False) rfl rfl ?aP (fun _ hk => hk.elim) ?aF ?aO ?aB ?aS ?aL ?_; (case aP => exact rfl); (case aB => exact (by repeat (first | (with_reducible first | exact HB.out | apply below_alloc | apply pw_below_drewN | apply below_drew1) | exact HB.out))); (case aF => exact (fun k_ hk => (Nat.le_trans (below_size (by repeat (first | (with_reducible first | exact HB.out | apply below_alloc | apply pw_below_drewN | apply below_drew1) | exact HB.out))) hk))); (case aO => exact (by (with_reducible repeat (first | apply Kd.R_alloc | apply Kd.R_drewN | apply Kd.R_drew)); exact HO_12.out)); (case aS => exact (below_size (by repeat (first | (with_reducible first | exact HB.out | apply below_alloc | apply pw_below_drewN | apply below_drew1) | exact HB.out)))); (case aL => have := LMc46.out; omega); intro v242 w47 ho hb hg hat; rw [← Ny241.out] at ho; have n0_ := Aside0.mk (Kd.R_over' (by (with_reducible repeat (first | apply Kd.R_alloc | apply Kd.R_drewN | apply Kd.R_drew)); exact HO_57.out) (Kd.R_typed (by (with_reducible repeat (first | apply Kd.R_alloc | apply Kd.R_drewN | apply Kd.R_drew)); exact HO_12.out)) (by decide) hg); have n1_ := Aside0.mk (hb); have n2_ := Aside0.mk (ho); clear HO_57; clear HB; clear HO_12; have HO_57 := n0_; have HB := n1_; have HO243 := n2_; clear n0_ n1_ n2_; clear ho hb hg hat))
                              go_roundg k2
                              case measure => have := HK1.out; have := HK2.out; omega
                              case rel => exact ⟨(y241), (wrap64 (x59_2 + 1)), (by first | rfl | (simp; done) | (simp [*]; done)), H', ⟨by have := HK1.out; have := HK2.out; omega⟩, ⟨by (try simp only [hl9_1]); (with_reducible repeat (first | apply Kd.R_alloc | apply Kd.R_drewN | apply Kd.R_drew)); exact HO243.out⟩, ⟨by (try simp only [hl9_1]); (with_reducible repeat (first | apply Kd.R_alloc | apply Kd.R_drewN | apply Kd.R_drew)); exact HO_57.out⟩, ⟨by repeat (first | (with_reducible first | exact HB.out | apply below_alloc | apply pw_below_drewN | apply below_drew1) | exact HB.out)⟩⟩
                            · rw [if_neg c46] at H
                              exact absurd H (by simp)
                          · replace c45 := Bool.eq_false_iff.mpr c45
                            subst c45
                            have H1 : (graph_body.l1 k2 x12_2 x9_1 (x9_1.length : Int) (wrap64 (x59_2 + 1))) = some r := by rw [if_neg (show ¬ (false = true) by decide)] at H; exact H
                            clear H
                            have H := H1
                            clear H1
                            have H' := Aside0.mk H
                            clear H
                            have p240 : 0 ≤ (x59_2 : Int) := of_decide_eq_true (by first | (with_reducible assumption) | assumption)
                            have q240 : x59_2 < (x9_1.length : Int) := of_decide_eq_true (by first | (with_reducible assumption) | assumption)
                            obtain ⟨ad240, e240, hx240_0⟩ := Kd.at_bool (Kd.R_reads' HO_57.out).2.2 x59_2 p240 q240
                            (try rw [← Nbq44.out] at hx240_0)
                            obtain rfl : (⟨go9, 0, none⟩ : Addr) = ad240 := (by injection e240)
                            (first | simp only [add_plain] at hx240_0 | simp only [add_at] at hx240_0 | simp only [Addr.add, Nat.zero_add] at hx240_0 | skip)
                            replace p240 := eq_true p240
                            replace q240 := eq_true q240
                            go_wp2
                            go_roundg k2
                            case measure => have := HK1.out; have := HK2.out; omega
                            case rel => exact ⟨(x12_2), (wrap64 (x59_2 + 1)), (by first | rfl | (simp; done) | (simp [*]; done)), H', ⟨by have := HK1.out; have := HK2.out; omega⟩, ⟨by (try simp only [hl9_1]); (with_reducible repeat (first | apply Kd.R_alloc | apply Kd.R_drewN | apply Kd.R_drew)); exact HO_12.out⟩, ⟨by (try simp only [hl9_1]); (with_reducible repeat (first | apply Kd.R_alloc | apply Kd.R_drewN | apply Kd.R_drew)); exact HO_57.out⟩, ⟨by repeat (first | (with_reducible first | exact HB.out | apply below_alloc | apply pw_below_drewN | apply below_drew1) | exact HB.out)⟩⟩
                        · rw [if_neg c43] at H
                          exact absurd H (by simp)
                      · rw [if_neg c42] at H
                        exact absurd H (by simp)
                    · rw [if_neg c41] at H
                      have c41b0 : decide (x59_2 < (x9_1.length : Int)) = false := decide_eq_false c41
                      clear c41
                      replace H := Option.bind_eq_some_iff.mp H
                      obtain ⟨t244, A480, H⟩ := H
                      replace H : (some t244) = some r := H
                      have A48 := Aside0.mk A480
                      clear A480
                      obtain rfl := Option.some.inj H
                      obtain ⟨Ao49, co49, eo49⟩ := Kd.R_slice HO_12.out
                      subst eo49
                      go_wp2_with (first | ((with_reducible refine gate_callee (f := 35) rfl ?_); refine goesL_ (some 71) rfl rfl Try.func35 (by kernel_rfl) rfl #[.slice Ao49 x12_2.length co49] rfl (by (try simp only [List.map_toArray, List.map_cons, List.map_nil]); first | done | rfl | (simp only [List.length_drop, List.length_take]; rfl)) ?_; (with_reducible refine (slices_Clip_int_int.calls (fun k_ => some k_ = (.slice Ao49 x12_2.length co49 : Value).ownBlock) _ _ x12_2 t244 _ ?side1 A48.out).mono ?_); (case side1 => exact Kd.R_V (Kd.R_tight rfl (Kd.R_apart' (HO_12.out) (Kd.R_typed HO_57.out) (by decide)))); rintro e w50 ⟨v245, rfl, ho0, hb⟩; refine ⟨_, rfl, ?_⟩; have n0_ := Aside0.mk (Kd.R_below (by (with_reducible repeat (first | apply Kd.R_alloc | apply Kd.R_drewN | apply Kd.R_drew)); exact HO_12.out) hb); have n1_ := Aside0.mk (Kd.R_below (by (with_reducible repeat (first | apply Kd.R_alloc | apply Kd.R_drewN | apply Kd.R_drew)); exact HO_57.out) hb); have n2_ := Aside0.mk (Kd.V_lower (Kd.V_mono (ok' := fun k_ => (w.heap.size ≤ k_) ∧ some k_ ≠ (.slice (some ⟨go9, 0, none⟩) x9_1.length co9 : Value).ownBlock) ho0 (fun k_ hk_ => ⟨Or.elim hk_ (fun hs_ => ((Kd.R_apart' (HO_12.out) (Kd.R_typed HO_57.out) (by decide)).1 k_ hs_.symm).1) (fun hn_ => (Nat.le_trans (below_size (by repeat (first | (with_reducible first | exact HB.out | apply below_alloc | apply pw_below_drewN | apply below_drew1) | exact HB.out))) hn_)), Or.elim hk_ (fun hs_ => ((Kd.R_apart' (HO_12.out) (Kd.R_typed HO_57.out) (by decide)).1 k_ hs_.symm).2) (fun hn_ => (Kd.fresh' (Kd.R_lt (by (with_reducible repeat (first | apply Kd.R_alloc | apply Kd.R_drewN | apply Kd.R_drew)); exact HO_57.out)) k_ hn_))⟩)) (below_size (by repeat (first | (with_reducible first | exact HB.out | apply below_alloc | apply pw_below_drewN | apply below_drew1) | exact HB.out)))); have n3_ := Aside0.mk (below_step (by repeat (first | (with_reducible first | exact HB.out | apply below_alloc | apply pw_below_drewN | apply below_drew1) | exact HB.out)) hb); clear HO_12; clear HO_57; clear HB; have HO_12 := n0_; have HO_57 := n1_; have HO246 := n2_; have HB := n3_; clear n0_ n1_ n2_ n3_; (try clear hb); (try clear hb2); (try clear hk); (try clear hi); (try clear ho0)))
                      go_ret
                      exact ⟨_, by first | rfl | (simp [errW_none, errW_some] <;> rfl) | (simp [*, errW_none, errW_some] <;> rfl), by (with_reducible repeat (first | apply Kd.V_alloc | apply Kd.V_drewN | apply Kd.V_drew)); exact Kd.V_mono HO246.out (fun _ hk => hk.1), by repeat (first | (with_reducible first | exact HB.out | apply below_alloc | apply pw_below_drewN | apply below_drew1) | exact HB.out)⟩
        · rw [if_neg c8] at H
          exact absurd H (by simp)
      · rw [if_neg c7] at H
        exact absurd H (by simp)
    · rw [if_neg c6] at H
      exact absurd H (by simp)
  · rw [if_neg c5] at H
    exact absurd H (by simp)

end Go.Proofs.Ytjflddnmkajleaa.PG
