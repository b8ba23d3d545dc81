-- By the session's own program out of the kit's print, with texts of the session's own for the functions that the print does not take.
import Derived.Test.YtjflddnmkajleaaPGx0
import Derived.Test.YtjflddnmkajleaaPGx3
import Derived.Test.YtjflddnmkajleaaPGx10
namespace Go.Proofs.Ytjflddnmkajleaa.PG
open Go.RowKit Go.Proofs.YtjflddnmkajleaaW.PrintWords Go.Proofs.YtjflddnmkajleaaW.PrintLast Go.Proofs.YtjflddnmkajleaaW.PrintMore
attribute [local go_sem] max2_int min2_int max_two min_two max_three min_three max_four min_four   -- for this text's walks alone
set_option linter.unusedVariables false
set_option linter.unusedSimpArgs false

/-! ### graph_order: function 36 -/
def graph_order.l0 : Nat → List (List Int) → List Bool → List S56 → List Int → Option (List Int)
  | 0, _, _, _, _ => none
  | k + 1, _, _, [], out => slices_Reverse_int_int.f k out
  | k + 1, g, seen, t :: way, out =>
    if 0 ≤ t.f0 ∧ t.f0 < (g.length : Int) then
      (if t.f1 < ((rd_L1 g t.f0).length : Int) then
        (if 0 ≤ t.f1 ∧ 0 ≤ rd (rd_L1 g t.f0) t.f1 ∧ rd (rd_L1 g t.f0) t.f1 < (seen.length : Int) then
          (if rdOf false seen (rd (rd_L1 g t.f0) t.f1) = true then graph_order.l0 k g seen (⟨t.f0, t.f1 + 1⟩ :: way) out
           else if way.length + 1 < 8796093022208 then graph_order.l0 k g (seen.set (rd (rd_L1 g t.f0) t.f1).toNat true) (⟨rd (rd_L1 g t.f0) t.f1, 0⟩ :: ⟨t.f0, t.f1 + 1⟩ :: way) out
           else none)
        else none)
      else if out.length < 17592186044416 then graph_order.l0 k g seen way (out ++ [t.f0]) else none)
    else none
def graph_order.f (k : Nat) (l0 : List (List Int)) : Option (List Int) := if l0.length = 0 then some [] else if l0.length ≤ 281474976710656 then graph_order.l0 k l0 ((List.replicate l0.length false).set 0 true) [⟨0, 0⟩] [] else none
theorem graph_order.mono_l : ∀ k y0 y1 y2 y3, LeO (graph_order.l0 k y0 y1 y2 y3) (graph_order.l0 (k + 1) y0 y1 y2 y3)
  | 0 => fun _ _ _ _ r h => by simp [graph_order.l0] at h
  | k + 1 => by
    intro y0 y1 y2 y3
    have ih := graph_order.mono_l k
    cases y2 with
    | nil => exact slices_Reverse_int_int.mono _ _
    | cons t way =>
      unfold graph_order.l0
      repeat' first
      | (with_reducible exact ih _ _ _ _)
      | (with_reducible exact LeO.refl _)
      | (with_reducible exact LeO.none _)
      | (with_reducible refine LeO.ite ?_ ?_)
theorem graph_order.mono : ∀ a0 k, LeO (graph_order.f k a0) (graph_order.f (k + 1) a0) := by
  intro a0 k
  unfold graph_order.f
  repeat' first
      | (with_reducible exact graph_order.mono_l _ _ _ _ _)
      | (with_reducible exact LeO.refl _)
      | (with_reducible exact LeO.none _)
      | (with_reducible refine LeO.ite ?_ ?_)
theorem graph_order.top (way : List S56) (x : S56) : (way.reverse ++ [x]).getD ((way.length : Int)).toNat z56 = x := by
  rw [Int.toNat_natCast, List.getD_eq_getElem?_getD, List.getElem?_append_right (by simp)]
  simp
theorem graph_order.put (way : List S56) (x y : S56) : (way.reverse ++ [x]).set ((way.length : Int)).toNat y = way.reverse ++ [y] := by
  rw [Int.toNat_natCast, List.set_append_right _ _ (by simp)]
  simp
/-- What a step of the way tells. -/
theorem graph_order.step {k : Nat} {g : List (List Int)} {seen : List Bool} {t : S56} {way : List S56} {out r : List Int} (h : graph_order.l0 (k + 1) g seen (t :: way) out = some r) :
    0 ≤ t.f0 ∧ t.f0 < (g.length : Int) ∧
    ((t.f1 < ((rd_L1 g t.f0).length : Int) ∧ 0 ≤ t.f1 ∧ 0 ≤ rd (rd_L1 g t.f0) t.f1 ∧ rd (rd_L1 g t.f0) t.f1 < (seen.length : Int) ∧
      ((rdOf false seen (rd (rd_L1 g t.f0) t.f1) = true ∧ graph_order.l0 k g seen (⟨t.f0, t.f1 + 1⟩ :: way) out = some r) ∨
       (rdOf false seen (rd (rd_L1 g t.f0) t.f1) = false ∧ way.length + 1 < 8796093022208 ∧ graph_order.l0 k g (seen.set (rd (rd_L1 g t.f0) t.f1).toNat true) (⟨rd (rd_L1 g t.f0) t.f1, 0⟩ :: ⟨t.f0, t.f1 + 1⟩ :: way) out = some r))) ∨
     (¬ t.f1 < ((rd_L1 g t.f0).length : Int) ∧ out.length < 17592186044416 ∧ graph_order.l0 k g seen way (out ++ [t.f0]) = some r)) := by
  simp only [graph_order.l0] at h
  by_cases h1 : 0 ≤ t.f0 ∧ t.f0 < (g.length : Int)
  · rw [if_pos h1] at h
    refine ⟨h1.1, h1.2, ?_⟩
    by_cases h2 : t.f1 < ((rd_L1 g t.f0).length : Int)
    · rw [if_pos h2] at h
      by_cases h3 : 0 ≤ t.f1 ∧ 0 ≤ rd (rd_L1 g t.f0) t.f1 ∧ rd (rd_L1 g t.f0) t.f1 < (seen.length : Int)
      · rw [if_pos h3] at h
        refine .inl ⟨h2, h3.1, h3.2.1, h3.2.2, ?_⟩
        by_cases h4 : rdOf false seen (rd (rd_L1 g t.f0) t.f1) = true
        · rw [if_pos h4] at h; exact .inl ⟨h4, h⟩
        · rw [if_neg h4] at h
          by_cases h5 : way.length + 1 < 8796093022208
          · rw [if_pos h5] at h; exact .inr ⟨Bool.eq_false_iff.mpr h4, h5, h⟩
          · rw [if_neg h5] at h; cases h
      · rw [if_neg h3] at h; cases h
    · rw [if_neg h2] at h
      by_cases h5 : out.length < 17592186044416
      · rw [if_pos h5] at h; exact .inr ⟨h2, h5, h⟩
      · rw [if_neg h5] at h; cases h
  · rw [if_neg h1] at h; cases h
set_option maxHeartbeats 4000000 in
set_option maxRecDepth 100000 in
theorem graph_order.calls (k : Nat) (A0 : Option Addr) (c0 : Nat) (l0 : List (List Int)) (r : List Int) (w : World) (hr0 : Kd.C (Kd.slice 3 (Kd.int .i64)) w A0 l0.length l0) (hc0 : l0.length ≤ c0) (h : graph_order.f k l0 = some r) :
    Calls Try.prog 36 #[.slice A0 l0.length c0] w fun e w' => ∃ v0_ : Value, e = .returned (v0_) ∧ Kd.R (Kd.int .i64) 3 w' w.heap.size (fun _ => True) v0_ r ∧ Below w.heap.size w w' := by
  have HR0 := Aside0.mk hr0
  have HC0 := Aside0.mk hc0
  clear hr0 hc0
  have HB := Aside0.mk (Below.refl w.heap.size w)
  have H0 := Aside0.mk h
  clear h
  by_cases c2 : (l0.length : Int) = 0
  · have c2b0 : ((l0.length : Int) == 0) = true := beq_iff_eq.mpr c2
    have hr : r = [] := by
      have := H0.out
      unfold graph_order.f at this
      rw [if_pos (by omega)] at this
      exact (Option.some.inj this).symm
    have HR := Aside0.mk hr
    clear hr c2
    go_enter Try.func36, Try.ntmps36
    go_wp2
    go_step3
    go_wp2
    (try rw [Exit.noGoto_ret])
    go_ret
    exact ⟨_, rfl, by rw [HR.out]; exact Kd.R_nil _ _ _ _ _, HB.out⟩
  · have c2b0 : ((l0.length : Int) == 0) = false := beq_eq_false_iff_ne.mpr c2
    have H1 : Aside0 (l0.length ≤ 281474976710656 ∧ graph_order.l0 k l0 ((List.replicate l0.length false).set 0 true) [⟨0, 0⟩] [] = some r) := by
      have := H0.out
      unfold graph_order.f at this
      rw [if_neg (by omega)] at this
      by_cases h5 : l0.length ≤ 281474976710656
      · rw [if_pos h5] at this; exact ⟨h5, this⟩
      · rw [if_neg h5] at this; cases this
    clear H0
    have HL := Aside0.mk (show 0 < l0.length by omega)
    clear c2
    go_enter Try.func36, Try.ntmps36
    go_wp2
    refine wp_scope_ghost 0 rfl (fun n a' w' => ∃ (x3 : List Bool) (x4 : List S56) (x5 : List Int) (g3 c3 n3 : Nat) (v4 v5 : Value) (u : Nat → Value), Aside0 (graph_order.l0 n l0 x3 x4 x5 = some r) ∧ Aside0 (n ≤ k) ∧ Aside0 (w.heap.size ≤ g3) ∧ Aside0 (n3 = x3.length) ∧ Aside0 (Kd.R Kd.bool 4 w' w.heap.size (fun _ => True) (.slice (some ⟨g3, 0, none⟩) n3 c3) x3) ∧ Aside0 (Kd.R k56 56 w' w.heap.size (fun _ => True) v4 x4.reverse) ∧ Aside0 (Kd.R (Kd.int .i64) 3 w' w.heap.size (fun _ => True) v5 x5) ∧ Aside0 (Below w.heap.size w w') ∧ a' = { tmps := #[.slice A0 l0.length c0, u 0, u 1, .slice (some ⟨g3, 0, none⟩) n3 c3, v4, v5, u 2, u 3, u 4, u 5, u 6, u 7, u 8, u 9, u 10, u 11, u 12, u 13, u 14, u 15, u 16, u 17, u 18, u 19, u 20, u 21, u 22, u 23, u 24, u 25, u 26, u 27, u 28, u 29, u 30, u 31, u 32, u 33, u 34, u 35, u 36, u 37, u 38, u 39, u 40, u 41, u 42, u 43, u 44, u 45, u 46, u 47, u 48, u 49, u 50, u 51, u 52, u 53, u 54, u 55, u 56, u 57, u 58, u 59, u 60, u 61, u 62, u 63, u 64, u 65, u 66, u 67, u 68, u 69, u 70, u 71, u 72, u 73, u 74, u 75, u 76, u 77, u 78, u 79, u 80, u 81, u 82], defers := [] }) ?_ ?_
    · rintro n _ wr ⟨x3, x4, x5, g3, c3, n3, v4, v5, u, HA, HK1, GB3, ⟨rfl⟩, HO_3, HO_4, HO_5, HB, rfl⟩ J K hJ hK
      cases n with
      | zero => exact absurd HA.out (by simp [graph_order.l0])
      | succ n =>
      cases x4 with
      | nil =>
        simp only [List.reverse_nil] at HO_4
        obtain ⟨A4, c4, e4⟩ := Kd.R_slice HO_4.out
        subst e4
        have HR := Aside0.mk (show slices_Reverse_int_int.f n x5 = some r from by have := HA.out; simpa only [graph_order.l0] using this)
        clear HA
        go_wp2_with (go_at_call 44; (with_reducible refine (slices_Reverse_int_int.calls n (fun _ => True) v5 x5 r w wr HB.out HO_5.out HR.out).mono ?_); rintro e w1 ⟨rfl, h1, h2, -⟩; have HO_6 := Aside0.mk h1; have HB2 := Aside0.mk h2; clear h1 h2)
        (try simp only [Exit.jump])
        go_ret
        exact ⟨_, rfl, Kd.R_mono HO_6.out (fun _ _ => trivial), HB2.out⟩
      | cons t way =>
        simp only [List.reverse_cons] at HO_4
        obtain ⟨g4, c4, e4, gb4, gl4, cl4, hg4⟩ := Kd.R_form HO_4.out (by simp)
        have hn4 : (way.reverse ++ [t]).length = way.length + 1 := by simp
        rw [hn4] at e4
        subst e4
        have hb4 : way.length + 1 ≤ 9223372036854775807 := by have := (Kd.R_reads' HO_4.out).2.2.2.1; simpa using this
        have GB4 := Aside0.mk gb4
        clear hn4 gb4 gl4 cl4 hg4
        go_wp2
        go_loopg [4] (n + 1) (fun kq v4 w' => ∃ (f1 : Int), v4 = .slice (some ⟨g4, 0, none⟩) (way.length + 1) c4 ∧ Aside0 (graph_order.l0 kq l0 x3 (⟨t.f0, f1⟩ :: way) x5 = some r) ∧ Aside0 (kq ≤ n + 1) ∧ Aside0 (Kd.R Kd.bool 4 w' w.heap.size (fun _ => True) (.slice (some ⟨g3, 0, none⟩) x3.length c3) x3) ∧ Aside0 (Kd.R k56 56 w' w.heap.size (fun _ => True) (.slice (some ⟨g4, 0, none⟩) (way.length + 1) c4) (way.reverse ++ [⟨t.f0, f1⟩])) ∧ Aside0 (Kd.R (Kd.int .i64) 3 w' w.heap.size (fun _ => True) v5 x5) ∧ Aside0 (Below w.heap.size w w'))
        case atStart => exact ⟨t.f1, rfl, HA, ⟨Nat.le_refl _⟩, HO_3, HO_4, HO_5, HB⟩
        case round =>
          clear HO_3 HO_4 HO_5 HB HA
          obtain ⟨f1, rfl, HA, HK2, HO_3, HO_4, HO_5, HB⟩ := hrel
          cases gk with
          | zero => exact absurd HA.out (by simp [graph_order.l0])
          | succ k1 =>
            obtain ⟨h0, h1, hs⟩ := graph_order.step HA.out
            simp only at h0 h1 hs
            clear HA
            obtain ⟨ce, hcl, hM, hcc, hfr⟩ := Kd.R_elem HO_4.out z56 (way.length : Int) (by omega) (by omega)
            rw [graph_order.top] at hM
            obtain rfl := k56_openM hM
            have hx0 : wr.cell? ⟨g4, way.length * 2, none⟩ = some (.int .i64 t.f0) := hcc 0 _ rfl
            have hx1 : wr.cell? ⟨g4, way.length * 2 + 1, none⟩ = some (.int .i64 f1) := hcc 1 _ rfl
            have hf1 : wr.frozen? ⟨g4, way.length * 2 + 1, none⟩ = false := hfr 1
            obtain ⟨ad, A1, c1, e1, hy0, hl1, hr1⟩ := at_L1 HR0.out t.f0 h0 h1
            subst e1
            replace hy0 := (HB.out.cell (World.block_lt_of_cell? w _ hy0)).trans hy0
            have HR1 := Aside0.mk hr1
            have HC1 := Aside0.mk hl1
            have hb1 : (rd_L1 l0 t.f0).length ≤ 9223372036854775807 := hr1.2.1
            have d0 : decide (0 ≤ t.f0) = true := decide_eq_true h0
            have d1 : decide (t.f0 < (l0.length : Int)) = true := decide_eq_true h1
            have p0 := eq_true h0
            have p1 := eq_true h1
            have HCC := Aside0.mk hcc
            clear hr1 hl1 hfr hM h0 h1 hcc
            rcases hs with ⟨g0, g1, g2, g3', hs⟩ | ⟨g0, g1, hs⟩
            · have d2 : decide (f1 < ((rd_L1 l0 t.f0).length : Int)) = true := decide_eq_true g0
              have d3 : decide (0 ≤ f1) = true := decide_eq_true g1
              obtain ⟨ad2, e2, hz0⟩ := Kd.at_int HR1.out f1 g1 g0
              subst e2
              replace hz0 := (HB.out.cell (World.block_lt_of_cell? w _ hz0)).trans hz0
              have d4 : decide (0 ≤ rd (rd_L1 l0 t.f0) f1) = true := decide_eq_true g2
              have d5 : decide (rd (rd_L1 l0 t.f0) f1 < (x3.length : Int)) = true := decide_eq_true g3'
              rcases hs with ⟨q4, hs⟩ | ⟨q4, q5, hs⟩
              · have HS := Aside0.mk hs
                have HQ := Aside0.mk q4
                clear hs q4
                go_wp2_with (fail)
                go_quiet (fail)
                go_wp2_with (fail)
                go_quiet (fail)
                go_wp2_with (first
                  | ((with_reducible refine gate_store (t := 3) (p := 61) rfl ?_)
                     rw [drewN_self wr]
                     generalize hq_ : World.drewN wr _ = wq
                     replace HO_3 := Aside0.mk (Kd.R_at hq_ HO_3.out)
                     replace HO_4 := Aside0.mk (Kd.R_at hq_ HO_4.out)
                     replace HO_5 := Aside0.mk (Kd.R_at hq_ HO_5.out)
                     replace HB := Aside0.mk (below_at hq_ HB.out)
                     replace hx1 : wq.cell? ⟨g4, way.length * 2 + 1, none⟩ = some (.int .i64 f1) := (by rw [← hq_]; exact hx1)
                     replace hf1 : wq.frozen? ⟨g4, way.length * 2 + 1, none⟩ = false := (by rw [← hq_]; exact hf1)
                     replace hcc := (by rw [← hq_]; exact HCC.out : ∀ (j : Nat) (u : Value), [Value.int .i64 t.f0, .int .i64 f1][j]? = some u → wq.cell? ⟨g4, ((way.length : Int)).toNat * k56.sz + j, none⟩ = some u)
                     clear hx0 hy0 hz0 hq_ HCC
                     have HP := Kd.R_seg HO_4.out (way.length : Int) (by omega) (by omega) (seg := [.int .i64 (f1 + 1)]) (j := 1) hcl hcc (show 2 ≤ 2 from by decide) (x' := (⟨t.f0, f1 + 1⟩ : S56)) (k56_mkM _ _ _ (⟨t.f0, f1 + 1⟩ : S56)) (fun _ hk => hk)
                     rw [graph_order.put] at HP
                     clear hcc hcl
                     refine store_event (t := 3) (p := 61) (v := ?vo1) (w1 := (wq.setCell ⟨g4, way.length * 2 + 1, none⟩ (.int .i64 (f1 + 1)))) ?hg ?ho ?hn ?hr ?_
                     (case ho => rfl)
                     (case hg => rfl)
                     (case hn => rfl)
                     (case hr => first | (go_simp; done) | (go_simp; rfl))
                     intro ws hw
                     have hg : wq.grownBy ws (some g4) := (by rw [hw]; exact HP.2)
                     have hp_ : Kd.R k56 56 ws w.heap.size (fun _ => True) (.slice (some ⟨g4, 0, none⟩) (way.length + 1) c4) (way.reverse ++ [⟨t.f0, f1 + 1⟩]) := (by rw [hw]; exact HP.1)
                     clear HP
                     replace HO_3 := Aside0.mk (Kd.R_over' (v := (.slice (some ⟨g4, 0, none⟩) (way.length + 1) c4)) HO_3.out (Kd.R_typed HO_4.out) (by decide) hg)
                     replace HO_5 := Aside0.mk (Kd.R_over' (v := (.slice (some ⟨g4, 0, none⟩) (way.length + 1) c4)) HO_5.out (Kd.R_typed HO_4.out) (by decide) hg)
                     replace HO_4 := Aside0.mk hp_
                     replace HB := Aside0.mk ((by rw [hw]; exact below_set HB.out GB4.out : Below w.heap.size w ws))
                     clear hg hw hp_ hx1 hf1
                     obtain ⟨ad3, e3, hs3⟩ := Kd.at_bool (Kd.R_reads' HO_3.out).2.2 (rd (rd_L1 l0 t.f0) f1) g2 g3'
                     obtain rfl : (⟨g3, 0, none⟩ : Addr) = ad3 := (by injection e3)
                     simp only [add_plain] at hs3
                     clear e3
                     rw [HQ.out] at hs3))
                go_roundg k1
                case measure => omega
                case rel => exact ⟨f1 + 1, rfl, HS, ⟨by have := HK2.out; omega⟩, HO_3, HO_4, HO_5, HB⟩
              · have HS := Aside0.mk hs
                have HQ := Aside0.mk q4
                have HQ5 := Aside0.mk q5
                clear hs q4 q5
                go_wp2_with (fail)
                go_quiet (fail)
                go_wp2_with (fail)
                go_quiet (fail)
                go_wp2_with (first
                  | ((with_reducible refine gate_store (t := 3) (p := 61) rfl ?_)
                     rw [drewN_self wr]
                     generalize hq_ : World.drewN wr _ = wq
                     replace HO_3 := Aside0.mk (Kd.R_at hq_ HO_3.out)
                     replace HO_4 := Aside0.mk (Kd.R_at hq_ HO_4.out)
                     replace HO_5 := Aside0.mk (Kd.R_at hq_ HO_5.out)
                     replace HB := Aside0.mk (below_at hq_ HB.out)
                     replace hx1 : wq.cell? ⟨g4, way.length * 2 + 1, none⟩ = some (.int .i64 f1) := (by rw [← hq_]; exact hx1)
                     replace hf1 : wq.frozen? ⟨g4, way.length * 2 + 1, none⟩ = false := (by rw [← hq_]; exact hf1)
                     replace hcc := (by rw [← hq_]; exact HCC.out : ∀ (j : Nat) (u : Value), [Value.int .i64 t.f0, .int .i64 f1][j]? = some u → wq.cell? ⟨g4, ((way.length : Int)).toNat * k56.sz + j, none⟩ = some u)
                     clear hx0 hy0 hz0 hq_ HCC
                     have HP := Kd.R_seg HO_4.out (way.length : Int) (by omega) (by omega) (seg := [.int .i64 (f1 + 1)]) (j := 1) hcl hcc (show 2 ≤ 2 from by decide) (x' := (⟨t.f0, f1 + 1⟩ : S56)) (k56_mkM _ _ _ (⟨t.f0, f1 + 1⟩ : S56)) (fun _ hk => hk)
                     rw [graph_order.put] at HP
                     clear hcc hcl
                     refine store_event (t := 3) (p := 61) (v := ?vo2) (w1 := (wq.setCell ⟨g4, way.length * 2 + 1, none⟩ (.int .i64 (f1 + 1)))) ?hg ?ho ?hn ?hr ?_
                     (case ho => rfl)
                     (case hg => rfl)
                     (case hn => rfl)
                     (case hr => first | (go_simp; done) | (go_simp; rfl))
                     intro ws hw
                     have hg : wq.grownBy ws (some g4) := (by rw [hw]; exact HP.2)
                     have hp_ : Kd.R k56 56 ws w.heap.size (fun _ => True) (.slice (some ⟨g4, 0, none⟩) (way.length + 1) c4) (way.reverse ++ [⟨t.f0, f1 + 1⟩]) := (by rw [hw]; exact HP.1)
                     clear HP
                     replace HO_3 := Aside0.mk (Kd.R_over' (v := (.slice (some ⟨g4, 0, none⟩) (way.length + 1) c4)) HO_3.out (Kd.R_typed HO_4.out) (by decide) hg)
                     replace HO_5 := Aside0.mk (Kd.R_over' (v := (.slice (some ⟨g4, 0, none⟩) (way.length + 1) c4)) HO_5.out (Kd.R_typed HO_4.out) (by decide) hg)
                     replace HO_4 := Aside0.mk hp_
                     replace HB := Aside0.mk ((by rw [hw]; exact below_set HB.out GB4.out : Below w.heap.size w ws))
                     clear hg hw hp_ hx1 hf1
                     obtain ⟨ad3, e3, hs3⟩ := Kd.at_bool (Kd.R_reads' HO_3.out).2.2 (rd (rd_L1 l0 t.f0) f1) g2 g3'
                     obtain rfl : (⟨g3, 0, none⟩ : Addr) = ad3 := (by injection e3)
                     simp only [add_plain] at hs3
                     clear e3
                     rw [HQ.out] at hs3
                     obtain ⟨-, hf3⟩ := Kd.R_celln false HO_3.out (rd (rd_L1 l0 t.f0) f1) g2 g3'
                     have HP3 := Kd.R_putg HO_3.out (rd (rd_L1 l0 t.f0) f1) true)
                  | ((with_reducible refine gate_store (t := 4) (p := 69) rfl ?_)
                     refine store_event (t := 4) (p := 69) (v := ?vo3) (w1 := (ws.setCell ⟨g3, (rd (rd_L1 l0 t.f0) f1).toNat, none⟩ (.bool true))) ?hg ?ho ?hn ?hr ?_
                     (case ho => rfl)
                     (case hg => rfl)
                     (case hn => rfl)
                     (case hr => first | (go_simp; done) | (go_simp; rfl))
                     intro wt hw
                     have hg : ws.grownBy wt (some g3) := (by rw [hw]; exact HP3.2)
                     have hp_ : Kd.R Kd.bool 4 wt w.heap.size (fun _ => True) (.slice (some ⟨g3, 0, none⟩) x3.length c3) (x3.set (rd (rd_L1 l0 t.f0) f1).toNat true) := (by rw [hw]; exact HP3.1)
                     clear HP3
                     replace HO_4 := Aside0.mk (Kd.R_over' (v := (.slice (some ⟨g3, 0, none⟩) x3.length c3)) HO_4.out (Kd.R_typed HO_3.out) (by decide) hg)
                     replace HO_5 := Aside0.mk (Kd.R_over' (v := (.slice (some ⟨g3, 0, none⟩) x3.length c3)) HO_5.out (Kd.R_typed HO_3.out) (by decide) hg)
                     replace HO_3 := Aside0.mk hp_
                     replace HB := Aside0.mk ((by rw [hw]; exact below_set HB.out GB3.out : Below w.heap.size w wt))
                     clear hg hw hp_ hs3 hf3)
                  | ((with_reducible refine gate_builtin (b := .append) (xs := #[.tmp 70, .tmp 73]) rfl ?_)
                     at_builtin
                     refine Kd.R_append k56 (w0 := w) w.heap.size rfl (.tmp 70) (.tmp 73) 57 56 (.agg #[(.int .i64 0), (.int .i64 0)]) 16 rfl Try.underlying57 info56 rfl (by decide) (by omega) (.slice (some ⟨g4, 0, none⟩) (way.length + 1) c4) (way.reverse ++ [⟨t.f0, f1 + 1⟩]) (⟨rd (rd_L1 l0 t.f0) f1, 0⟩ : S56) [.int .i64 (rd (rd_L1 l0 t.f0) f1), .int .i64 0] (fun _ => True) (fun _ => False) rfl rfl ?aP (fun _ hk => hk.elim) ?aF ?aO ?aB ?aS ?aL ?_
                     (case aP => exact k56_mkM _ _ _ (⟨rd (rd_L1 l0 t.f0) f1, 0⟩ : S56))
                     (case aB => exact HB.out)
                     (case aF => exact (fun _ _ => trivial))
                     (case aO => exact HO_4.out)
                     (case aS => exact below_size HB.out)
                     (case aL => have := HQ5.out; rw [List.length_append, List.length_reverse]; simp only [List.length_singleton]; omega)
                     intro va wa ho hb hg hat
                     replace HO_3 := Aside0.mk (Kd.R_over' (by (with_reducible repeat (first | apply Kd.R_alloc | apply Kd.R_drewN | apply Kd.R_drew)); exact HO_3.out) (Kd.R_typed (by (with_reducible repeat (first | apply Kd.R_alloc | apply Kd.R_drewN | apply Kd.R_drew)); exact HO_4.out)) (by decide) hg)
                     replace HO_5 := Aside0.mk (Kd.R_over' (by (with_reducible repeat (first | apply Kd.R_alloc | apply Kd.R_drewN | apply Kd.R_drew)); exact HO_5.out) (Kd.R_typed (by (with_reducible repeat (first | apply Kd.R_alloc | apply Kd.R_drewN | apply Kd.R_drew)); exact HO_4.out)) (by decide) hg)
                     replace HB := Aside0.mk hb
                     replace HO_4 := Aside0.mk ho
                     clear ho hb hg hat))
                go_step3
                exact ⟨rfl, hK _ _ (Handed.intro k1 (by have := HK2.out; omega) (hJ _ _ _ ⟨_, _, _, g3, c3, _, _, _, pickV [_, _, _, _, _, _, _, _, _, _, _, _, _, _, _, _, _, _, _, _, _, _, _, _, _, _, _, _, _, _, _, _, _, _, _, _, _, _, _, _, _, _, _, _, _, _, _, _, _, _, _, _, _, _, _, _, _, _, _, _, _, _, _, _, _, _, _, _, _, _, _, _, _, _, _, _, _, _, _, _, _, _, _], HS, ⟨by have := HK2.out; have := HK1.out; omega⟩, GB3, ⟨by rw [List.length_set]⟩, HO_3, ⟨by rw [List.reverse_cons, List.reverse_cons]; exact HO_4.out⟩, HO_5, HB, rfl⟩))⟩
            · have d2 : decide (f1 < ((rd_L1 l0 t.f0).length : Int)) = false := decide_eq_false g0
              have HS := Aside0.mk hs
              have HQ5 := Aside0.mk g1
              obtain ⟨i0, hi, _, hsz, _⟩ := info_parts info56
              have hcut := cut_to (P := Try.prog) 57 56 .i64 Try.underlying57 hi (some (⟨g4, 0, none⟩ : Addr)) (way.length + 1) c4 (way.length : Int) (by omega) (by omega) (Kd.R_reads' HO_4.out).2.1
              rw [Int.toNat_natCast] at hcut
              clear hs g1 hi hsz
              go_wp2_with (fail)
              go_quiet (fail)
              go_wp2_with (first
                | ((with_reducible refine gate_builtin (b := .append) (xs := #[.tmp 75, .tmp 80]) rfl ?_)
                   at_builtin
                   refine Kd.R_append (Kd.int .i64) (w0 := w) w.heap.size rfl (.tmp 75) (.tmp 80) 25 3 (.int .i64 0) 8 rfl Try.underlying25 info3 rfl (by decide) (by omega) v5 x5 t.f0 [.int .i64 t.f0] (fun _ => True) (fun _ => False) rfl rfl ?bP (fun _ hk => hk.elim) ?bF ?bO ?bB ?bS ?bL ?_
                   (case bP => exact rfl)
                   (case bB => exact (by repeat (first | (with_reducible first | exact HB.out | apply below_alloc | apply pw_below_drewN | apply below_drew1) | exact HB.out)))
                   (case bF => exact (fun _ _ => trivial))
                   (case bO => exact (by (with_reducible repeat (first | apply Kd.R_alloc | apply Kd.R_drewN | apply Kd.R_drew)); exact HO_5.out))
                   (case bS => exact below_size (by repeat (first | (with_reducible first | exact HB.out | apply below_alloc | apply pw_below_drewN | apply below_drew1) | exact HB.out)))
                   (case bL => have := HQ5.out; omega)
                   intro va wa ho hb hg hat
                   replace HO_3 := Aside0.mk (Kd.R_over' (by (with_reducible repeat (first | apply Kd.R_alloc | apply Kd.R_drewN | apply Kd.R_drew)); exact HO_3.out) (Kd.R_typed (by (with_reducible repeat (first | apply Kd.R_alloc | apply Kd.R_drewN | apply Kd.R_drew)); exact HO_5.out)) (by decide) hg)
                   replace HO_4 := Aside0.mk (Kd.R_over' (by (with_reducible repeat (first | apply Kd.R_alloc | apply Kd.R_drewN | apply Kd.R_drew)); exact HO_4.out) (Kd.R_typed (by (with_reducible repeat (first | apply Kd.R_alloc | apply Kd.R_drewN | apply Kd.R_drew)); exact HO_5.out)) (by decide) hg)
                   replace HB := Aside0.mk hb
                   replace HO_5 := Aside0.mk ho
                   clear ho hb hg hat))
              have hr4 := Kd.R_take (m := way.length) HO_4.out (by simp)
              have ht4 : (way.reverse ++ [(⟨t.f0, f1⟩ : S56)]).take way.length = way.reverse := by
                rw [List.take_append_of_le_length (by simp), List.take_of_length_le (by simp)]
              rw [ht4] at hr4
              go_step3
              exact ⟨rfl, hK _ _ (Handed.intro k1 (by have := HK2.out; omega) (hJ _ _ _ ⟨_, _, _, g3, c3, _, _, _, pickV [_, _, _, _, _, _, _, _, _, _, _, _, _, _, _, _, _, _, _, _, _, _, _, _, _, _, _, _, _, _, _, _, _, _, _, _, _, _, _, _, _, _, _, _, _, _, _, _, _, _, _, _, _, _, _, _, _, _, _, _, _, _, _, _, _, _, _, _, _, _, _, _, _, _, _, _, _, _, _, _, _, _, _], HS, ⟨by have := HK2.out; have := HK1.out; omega⟩, GB3, ⟨rfl⟩, HO_3, ⟨hr4⟩, HO_5, HB, rfl⟩))⟩
    · intro L K hL hrest
      have HH := Aside0.mk H1.out.2
      have q5 : decide (((l0.length : Int)).toNat ≤ 281474976710656) = true := decide_eq_true (by have := H1.out.1; omega)
      have q6 : decide (0 ≤ (l0.length : Int)) = true := decide_eq_true (by omega)
      have q7 : decide ((0 : Int) < (l0.length : Int)) = true := decide_eq_true (by have := HL.out; omega)
      have q8 : (0 < l0.length) = True := eq_true HL.out
      obtain ⟨y3, hy3⟩ : ∃ y : List Bool, y = List.replicate ((l0.length : Int)).toNat false := ⟨_, rfl⟩
      have Ny3 := Aside0.mk hy3
      have hl3 : l0.length = y3.length := by rw [hy3, List.length_replicate]; omega
      have HL3 := Aside0.mk hl3
      clear hy3 hl3 H1
      go_wp2_with (first
        | ((with_reducible refine gate_dst (N := 13) rfl ?_)
           refine Kd.R_make Kd.bool _ 4 rfl (N := 13) rfl 30 _ _ rfl (l0.length : Int) rfl rfl Try.underlying30 (.bool false) 1 info4 rfl (by decide) (by omega) false (ok := fun _ => True) (okp := fun _ => True) rfl (fun _ hk => hk) trivial (of_decide_eq_true (by first | (with_reducible assumption) | assumption)) (Nat.le_trans (Nat.mul_le_mul_right _ (of_decide_eq_true q5)) (by omega)) (Below.refl _ _) (Nat.le_refl _) ?_
           intro vm wm hom hbm hgm hnm
           clear hgm hnm
           rw [← Ny3.out] at hom
           obtain ⟨g3, c3, e3, gb3, gl3, cl3, hg3⟩ := Kd.R_form hom (by have := HL3.out; have := HL.out; omega)
           subst e3
           rw [← HL3.out] at hom
           have HO_3 := Aside0.mk (Kd.R_lower hom (below_size HB.out))
           have GB3 := Aside0.mk (Nat.le_trans (below_size HB.out) gb3)
           replace HB := Aside0.mk (below_step HB.out hbm)
           (try rw [← HL3.out])
           (try simp only [← HL3.out])
           clear hom hbm gb3 gl3 cl3 hg3
           obtain ⟨hx3, hf3⟩ := Kd.R_celln false HO_3.out (0 : Int) (by omega) (by have := HL.out; omega)
           simp only [Int.toNat_zero] at hx3 hf3
           have HP3 := Kd.R_putg HO_3.out (0 : Int) true)
        | ((with_reducible refine gate_store (t := 4) (p := 15) rfl ?_)
           refine store_event (t := 4) (p := 15) (v := ?wo3) (w1 := (wm.setCell ⟨g3, 0, none⟩ (.bool true))) ?hg ?ho ?hn ?hr ?_
           (case ho => rfl)
           (case hg => rfl)
           (case hn => rfl)
           (case hr => first | (go_simp; done) | (go_simp; rfl))
           intro ws hw
           have hp_ : Kd.R Kd.bool 4 ws w.heap.size (fun _ => True) (.slice (some ⟨g3, 0, none⟩) l0.length c3) (y3.set 0 true) := (by rw [hw]; exact HP3.1)
           clear HP3
           replace HO_3 := Aside0.mk hp_
           replace HB := Aside0.mk ((by rw [hw]; exact below_set HB.out GB3.out : Below w.heap.size w ws))
           clear hw hp_ hx3 hf3)
        | ((with_reducible refine gate_dst (N := 17) rfl ?_)
           refine Kd.R_lit k56 _ 56 ?hg (N := 17) ?hd (xs := ([(⟨0, 0⟩ : S56)] : List S56)) (inner := [.int .i64 0, .int .i64 0]) (ok := fun _ => True) (okp := fun _ => True) ?hr ?hp (fun _ hk => hk) trivial (Below.refl _ _) (Nat.le_refl _) (by simp) ?_
           (case hd => rfl)
           (case hg => rfl)
           (case hr => first | (go_simp; done) | (go_simp; rfl))
           (case hp => exact (Reps.c2 (show Kd.M k56 _ _ _ (⟨0, 0⟩ : S56) [.int .i64 0, .int .i64 0] from (k56_mkM _ _ _ (⟨0, 0⟩ : S56))) (Reps.none _ _)))
           intro vl wl hol hbl hgl hnl
           clear hgl hnl
           replace HO_3 := Aside0.mk (Kd.R_below HO_3.out hbl)
           have HO_4 := Aside0.mk (Kd.R_lower hol (below_size HB.out))
           replace HB := Aside0.mk (below_step HB.out hbl)
           clear hol hbl))
      have hy : y3.set 0 true = (List.replicate l0.length false).set 0 true := by rw [Ny3.out, Int.toNat_natCast]
      rw [hy] at HO_3
      clear hy
      go_step3
      go_step
      go_step
      exact hrest _ _ (hL k _ _ ⟨_, _, _, g3, c3, _, _, _, pickV [_, _, _, _, _, _, _, _, _, _, _, _, _, _, _, _, _, _, _, _, _, _, _, _, _, _, _, _, _, _, _, _, _, _, _, _, _, _, _, _, _, _, _, _, _, _, _, _, _, _, _, _, _, _, _, _, _, _, _, _, _, _, _, _, _, _, _, _, _, _, _, _, _, _, _, _, _, _, _, _, _, _, _], HH, ⟨Nat.le_refl _⟩, GB3, ⟨by rw [List.length_set, List.length_replicate]⟩, HO_3, ⟨HO_4.out⟩, ⟨Kd.R_nil _ _ _ _ _⟩, HB, rfl⟩)

end Go.Proofs.Ytjflddnmkajleaa.PG
