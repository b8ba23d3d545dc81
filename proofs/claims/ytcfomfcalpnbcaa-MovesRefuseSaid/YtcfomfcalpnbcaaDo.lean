/- moves.Do: what it comes to, walked by hand. -/
import Derived.Test.YtcfomfcalpnbcaaMapi
import Derived.Test.YtcfomfcalpnbcaaClip
namespace Go.Proofs.Ytcfomfcalpnbcaa.PG
open Go.RowKit Go.Proofs.YtcfomfcalpnbcaaW.PrintWords Go.Proofs.YtcfomfcalpnbcaaW.PrintLast Go.Proofs.YtcfomfcalpnbcaaW.PrintMore
set_option linter.unusedVariables false
set_option linter.unusedSimpArgs false
set_option maxHeartbeats 800000 in
set_option maxRecDepth 100000 in
theorem clipi_calls (A : Option Addr) (n c : Nat) (hc : n ≤ c) (w : World) : Calls Try.prog 21 #[.slice A n c] w fun e w' => e = .returned (.slice A n n) ∧ w' = w := by
  obtain ⟨i0, hi, _, hsz, _⟩ := info_parts info3
  have hcut := clip_to (P := Try.prog) 36 3 .i64 .i64 Try.underlying36 hi A n c hc
  go_enter Try.func21, Try.ntmps21
  go_wp2
  go_ret
  exact ⟨rfl, rfl⟩
set_option maxHeartbeats 8000000 in
set_option maxRecDepth 100000 in
theorem clonei_calls (A0 : Option Addr) (c0 : Nat) (l0 : List Int) (w : World) (hr0 : Kd.C (Kd.int .i64) w A0 l0.length l0) (hc0 : l0.length ≤ c0) (c2 : l0.length < 17592186044416) :
    Calls Try.prog 22 #[.slice A0 l0.length c0] w fun e w' => ∃ v0_ : Value, e = .returned (v0_) ∧ Kd.R (Kd.int .i64) 3 w' w.heap.size (fun _ => True) v0_ l0 ∧ Below w.heap.size w w' := by
  have HR0 := Aside0.mk hr0
  have HC0 := Aside0.mk hc0
  have HL := Aside0.mk c2
  clear hr0 hc0 c2
  have HB := Aside0.mk (Below.refl w.heap.size w)
  have hnil := fun W : World => Lib.run_eql_slice_nil (P := Try.prog) W 36 3 A0 l0.length c0 0 0 Try.underlying36
  cases A0 with
  | none =>
    have hl : l0 = [] := by
      rcases Nat.eq_zero_or_pos l0.length with h0 | h0
      · exact List.eq_nil_of_length_eq_zero h0
      · obtain ⟨ad, e, _⟩ := HR0.out.2.2 h0
        cases e
    have HY := Aside0.mk hl
    clear hl
    simp only [Option.isNone_none] at hnil
    go_enter Try.func22, Try.ntmps22
    go_wp2
    go_ret
    exact ⟨_, rfl, by rw [HY.out]; exact Kd.R_nil _ _ _ _ _, Below.refl _ _⟩
  | some ad =>
    simp only [Option.isNone_some] at hnil
    go_enter Try.func22, Try.ntmps22
    go_wp2_with (first | ((with_reducible refine gate_dst (N := 5) rfl ?_); refine Kd.R_lit (Kd.int .i64) _ 3 ?hg (N := 5) ?hd (xs := ([] : List Int)) (inner := []) (ok := fun _ => True) (okp := fun _ => True) ?hr ?hp (fun _ hk => hk) trivial (Below.refl _ _) (Nat.le_refl _) (by simp) ?_; (case hd => rfl); (case hg => rfl); (case hr => first | (go_simp; done) | (go_simp; rfl)); (case hp => exact (Reps.none _ _)); intro v217 w3 ho4 hb hg_ hnew_; clear hg_ hnew_; have n0_ := Aside0.mk (Kd.R_lower ho4 (below_size (by repeat (first | (with_reducible first | exact HB.out | apply below_alloc | apply pw_below_drewN | apply below_drew1) | exact HB.out)))); have n1_ := Aside0.mk (below_step (by repeat (first | (with_reducible first | exact HB.out | apply below_alloc | apply pw_below_drewN | apply below_drew1) | exact HB.out)) hb); clear HB; have HO218 := n0_; have HB := n1_; clear n0_ n1_; clear hb ho4) | ((with_reducible refine gate_builtin (b := .append) (xs := #[.tmp 5, .tmp 6]) rfl ?_); at_builtin; refine Kd.R_append_rows (Kd.int .i64) (w0 := w) w.heap.size rfl (.tmp 5) (.tmp 6) 36 3 (.int .i64 0) 8 rfl Try.underlying36 info3 rfl (by decide) (by omega) v217 [] l0 _ _ _ (fun _ => True) (fun _ => False) rfl rfl ?aO ?aR (fun _ _ h => h) (fun _ h => h.elim) ?aF ?aB ?aS ?aL ?_; (case aR => repeat (first | exact (Kd.C_below HR0.out HB.out) | (with_reducible refine Kd.C_alloc ?_ _) | (with_reducible refine Kd.C_drewN ?_ _) | (with_reducible refine Kd.C_drew ?_))); (case aB => exact (by repeat (first | (with_reducible first | exact HB.out | apply below_alloc | apply pw_below_drewN | apply below_drew1) | exact HB.out))); (case aF => exact (fun _ _ => trivial)); (case aO => exact (by (with_reducible repeat (first | apply Kd.R_alloc | apply Kd.R_drewN | apply Kd.R_drew)); exact HO218.out)); (case aS => exact (below_size (by repeat (first | (with_reducible first | exact HB.out | apply below_alloc | apply pw_below_drewN | apply below_drew1) | exact HB.out)))); (case aL => have := HL.out; simp only [List.length_nil]; omega); intro v220 w5 ho hb hg hat; have n0_ := Aside0.mk (hb); have n1_ := Aside0.mk (ho); clear HB; clear HO218; have HB := n0_; have HO221 := n1_; clear n0_ n1_; clear ho hb hg hat))
    go_ret
    exact ⟨_, by first | rfl | (simp [errW_none, errW_some] <;> rfl) | (simp [*, errW_none, errW_some] <;> rfl), by (with_reducible repeat (first | apply Kd.R_alloc | apply Kd.R_drewN | apply Kd.R_drew)); exact HO221.out, by repeat (first | (with_reducible first | exact HB.out | apply below_alloc | apply pw_below_drewN | apply below_drew1) | exact HB.out)⟩
def inn (n : Nat) (x : Int) : Bool := decide (0 ≤ x) && decide (x < (n : Int))
set_option maxHeartbeats 8000000 in
set_option maxRecDepth 100000 in
theorem in_calls (A : Option Addr) (n c : Nat) (x : Int) (P0 : Addr) (w : World) (hp : w.cell? P0 = some (.slice A n c)) :
    Calls Try.prog 23 #[.int .i64 x, .pointer (some P0)] w fun e w' => e = .returned (.bool (inn n x)) ∧ w' = w := by
  by_cases c1 : 0 ≤ x
  · have c1b : decide (0 ≤ x) = true := decide_eq_true c1
    by_cases c2 : x < (n : Int)
    · have c2b : decide (x < (n : Int)) = true := decide_eq_true c2
      have hr : inn n x = true := by simp [inn, c1, c2]
      rw [hr]
      clear hr
      go_enter Try.func23, Try.ntmps23
      go_wp2
      go_ret
      exact ⟨rfl, rfl⟩
    · have c2b : decide (x < (n : Int)) = false := decide_eq_false c2
      have hr : inn n x = false := by simp [inn, c1, c2]
      rw [hr]
      clear hr
      go_enter Try.func23, Try.ntmps23
      go_wp2
      go_ret
      exact ⟨rfl, rfl⟩
  · have c1b : decide (0 ≤ x) = false := decide_eq_false c1
    have hr : inn n x = false := by simp [inn, c1]
    rw [hr]
    clear hr
    go_enter Try.func23, Try.ntmps23
    go_wp2
    go_ret
    exact ⟨rfl, rfl⟩
/-! ### moves_Do: function 15 -/
def doR7.T : Bool × List (List Nat × List Nat) := (true, [([], []), ([], []), ([1], [1]), ([], []), ([], []), ([4], [4]), ([3, 5], [3, 5]), ([6], [6]), ([0, 2, 0, 1, 2, 3, 4, 5, 6, 7], [0, 2]), ([8, 7, 0, 1, 2, 3, 4, 5, 6, 7], [7, 8])])
def doR7.B : List Nat := [0, 0, 2, 0, 0, 16, 56, 120, 255, 511]
theorem doR7.tab : rtab .any (opsOf Try.f15 7) = doR7.T := by kernel_rfl
theorem doR7.bits : waitsOk doR7.T.2 doR7.B = true := by kernel_rfl
def doStep (out : List Int) (x : S34) : List Int := if inn out.length x.f0 = true ∧ inn out.length x.f1 = true then out.set x.f0.toNat (rd out x.f1) else out
theorem doStep_length (out : List Int) (x : S34) : (doStep out x).length = out.length := by
  unfold doStep
  split
  · simp
  · rfl
def moves_Do.l0 : Nat → List S34 → List Int → Int → Option (List Int)
  | 0, _, _, _ => none
  | k + 1, l, out, i => if i < (l.length : Int) then (if 0 ≤ i then moves_Do.l0 k l (doStep out (rd_T34 l i)) (wrap64 (i + 1)) else none) else some out
def moves_Do.f (k : Nat) (l : List S34) (at_ : List Int) : Option (List Int) := if at_.length < 17592186044416 then moves_Do.l0 k l at_ 0 else none
theorem moves_Do.mono_l : ∀ k y0 y1 y2, LeO (moves_Do.l0 k y0 y1 y2) (moves_Do.l0 (k + 1) y0 y1 y2)
  | 0 => fun _ _ _ r h => by simp [moves_Do.l0] at h
  | k + 1 => by
      have ih := moves_Do.mono_l k
      intro y0 y1 y2
      unfold moves_Do.l0
      repeat' first
      | (with_reducible exact ih _ _ _)
      | (with_reducible exact LeO.refl _)
      | (with_reducible exact LeO.none _)
      | (with_reducible refine LeO.ite ?_ ?_)
      | exact LeO.refl _
      | exact LeO.none _
      | refine LeO.ite ?_ ?_
theorem moves_Do.mono : ∀ a0 a1 k, LeO (moves_Do.f k a0 a1) (moves_Do.f (k + 1) a0 a1) := fun a0 a1 k => by
  unfold moves_Do.f
  exact LeO.ite (moves_Do.mono_l k _ _ _) (LeO.none _)
set_option maxHeartbeats 8000000 in
set_option maxRecDepth 100000 in
theorem moves_Do.calls (k : Nat) (A0 : Option Addr) (c0 : Nat) (l0 : List S34) (A1 : Option Addr) (c1 : Nat) (l1 : List Int) (r : List Int) (w : World) (hr0 : Kd.C k34 w A0 l0.length l0) (hc0 : l0.length ≤ c0) (hr1 : Kd.C (Kd.int .i64) w A1 l1.length l1) (hc1 : l1.length ≤ c1) (h : moves_Do.f k l0 l1 = some r) :
    Calls Try.prog 15 #[.slice A0 l0.length c0, .slice A1 l1.length c1] w fun e w' => ∃ v0_ : Value, e = .returned v0_ ∧ Kd.V (Kd.int .i64) 3 w' w.heap.size (fun k_ => w.heap.size ≤ k_) v0_ r ∧ Below w.heap.size w w' := by
  have hmf : ∀ (fn : Fn) (first cap : Array Value) (w : World), (Instr.makeFunc fn first cap).run Try.prog w = .ok (.func fn first cap) w := fun _ _ _ _ => rfl
  have hu34 := Try.underlying34
  have hu36 := Try.underlying36
  have HR0 := Aside0.mk hr0
  have HC0 := Aside0.mk hc0
  have HR1 := Aside0.mk hr1
  have HC1 := Aside0.mk hc1
  clear hr0 hc0 hr1 hc1
  unfold moves_Do.f at h
  by_cases cl : l1.length < 17592186044416
  · rw [if_pos cl] at h
    have H' := Aside0.mk h
    clear h
    have HL := Aside0.mk cl
    clear cl
    go_enter Try.func15, Try.ntmps15
    go_upto_region 2 with (first | (go_at_call 22; refine (clonei_calls A1 c1 l1 _ HR1.out HC1.out HL.out).mono ?_; rintro e wr ⟨v, rfl, hO, hB⟩; obtain ⟨A, c, rfl⟩ := Kd.R_slice hO; have hlv := (Kd.R_reads' hO).2.1) | (go_at_call 21; refine (clipi_calls A l1.length c hlv _).mono ?_; rintro e w2 ⟨rfl, rfl⟩))
    refine rebase (P := fun W_ => Code.wp _ _ _ _ W_) (fun W_ => Kd.R (Kd.int .i64) 3 W_ w.heap.size (fun _ => True) (.slice A l1.length c) l1 ∧ W_.heap[w2.heap.size]? = some (.cells #[.slice A l1.length l1.length] 36 (0, 0)) ∧ Below w.heap.size w W_) ⟨Kd.R_alloc hO _, blk_new w2 _, below_alloc hB _⟩ ?_
    have hg : w.heap.size ≤ w2.heap.size := below_size hB
    rintro W1 ⟨hO1, hbox1, hB1⟩
    generalize w2.heap.size = g at hbox1 hg ⊢
    clear hO hB
    have HG := Aside0.mk hg
    clear hg
    go_wp2
    go_loopg [15] k (fun kq v15 w' => ∃ (i : Int) (out : List Int), v15 = .int .i64 i ∧ Aside0 (moves_Do.l0 kq l0 out i = some r) ∧ Aside0 (kq ≤ k) ∧ Aside0 (out.length = l1.length) ∧ Aside0 (Kd.R (Kd.int .i64) 3 w' w.heap.size (fun _ => True) (.slice A l1.length c) out) ∧ Aside0 (w'.heap[g]? = some (.cells #[.slice A l1.length l1.length] 36 (0, 0))) ∧ Aside0 (Below w.heap.size w w'))
    case atStart => exact ⟨0, l1, rfl, H', ⟨Nat.le_refl _⟩, ⟨rfl⟩, ⟨hO1⟩, ⟨hbox1⟩, ⟨hB1⟩⟩
    case round =>
      clear H' hO1 hbox1 hB1
      obtain ⟨i, out, rfl, HA, HK1, HN, HO, HX, HB⟩ := hrel
      cases gk with
      | zero => exact absurd HA.out (by simp [moves_Do.l0])
      | succ k1 =>
        have H := HA.out
        clear HA
        simp only [moves_Do.l0] at H
        have hl := HN.out
        by_cases c1 : i < (l0.length : Int)
        · rw [if_pos c1] at H
          have c1b : decide (i < (l0.length : Int)) = true := decide_eq_true c1
          by_cases c2 : 0 ≤ i
          · rw [if_pos c2] at H
            have c2b : decide (0 ≤ i) = true := decide_eq_true c2
            obtain ⟨ad, e0, hx0, hx1⟩ := at_T34 HR0.out i c2 c1
            cases e0
            replace hx0 := (HB.out.cell (World.block_lt_of_cell? w _ hx0)).trans hx0
            replace hx1 := (HB.out.cell (World.block_lt_of_cell? w _ hx1)).trans hx1
            replace c1 := eq_true c1
            replace c2 := eq_true c2
            go_upto_region 6 with (fail)
            have hlg : g < wr.heap.size := blk_lt HX.out
            refine rebase (P := fun W_ => Code.wp _ _ _ _ W_) (fun W_ => W_.cell? ⟨wr.heap.size, 0, none⟩ = some (.int .i64 (rd_T34 l0 i).f0) ∧ W_.cell? ⟨wr.heap.size, 1, none⟩ = some (.int .i64 (rd_T34 l0 i).f1) ∧ Kd.R (Kd.int .i64) 3 W_ w.heap.size (fun _ => True) (.slice A l1.length c) out ∧ W_.heap[g]? = some (.cells #[.slice A l1.length l1.length] 36 (0, 0)) ∧ Below w.heap.size w W_) ⟨(blk_cell (blk_new wr _) 0).trans rfl, (blk_cell (blk_new wr _) 1).trans rfl, Kd.R_alloc HO.out _, blk_alloc HX.out _, below_alloc HB.out _⟩ ?_
            rintro W3 ⟨hm0, hm1, hO3, hbox3, hB3⟩
            have hb0 : W3.cell? ⟨g, 0, none⟩ = some (.slice A l1.length l1.length) := (blk_cell hbox3 0).trans rfl
            by_cases c3 : inn l1.length (rd_T34 l0 i).f0 = true
            · by_cases c4 : inn l1.length (rd_T34 l0 i).f1 = true
              · have hst : doStep out (rd_T34 l0 i) = out.set ((rd_T34 l0 i).f0).toNat (rd out (rd_T34 l0 i).f1) := by unfold doStep; rw [hl, if_pos ⟨c3, c4⟩]
                have i0 : 0 ≤ (rd_T34 l0 i).f0 ∧ (rd_T34 l0 i).f0 < (l1.length : Int) := by simpa [inn] using c3
                have i1 : 0 ≤ (rd_T34 l0 i).f1 ∧ (rd_T34 l0 i).f1 < (l1.length : Int) := by simpa [inn] using c4
                obtain ⟨go, co, eo, hbase, hgl, hgc⟩ := Kd.R_form hO3 (by omega)
                injection eo with eo eo1 eo2
                clear eo1 eo2
                subst eo
                have hx17 : W3.cell? ⟨go, ((rd_T34 l0 i).f1).toNat, none⟩ = some (.int .i64 (rd out (rd_T34 l0 i).f1)) := (Kd.R_celln 0 hO3 _ i1.1 i1.2).1
                obtain ⟨hx15_0, hf15_0⟩ := Kd.R_celln 0 hO3 _ i0.1 i0.2
                have hgo : go ≠ g := fun e => by
                  obtain ⟨cells, hc⟩ := hgc
                  rw [e, hbox3] at hc
                  injection hc with hc
                  injection hc with _ hc _
                  exact absurd hc (by decide)
                have p0 := eq_true i0.1
                have p1 := eq_true i0.2
                have q0 := eq_true i1.1
                have q1 := eq_true i1.2
                go_upto_region 7 with (go_at_call 23; refine (in_calls (some ⟨go, 0, none⟩) l1.length l1.length _ ⟨g, 0, none⟩ _ hb0).mono ?_; (first | rw [c3] | rw [c4]); rintro e w9 ⟨rfl, rfl⟩)
                refine start_ (n := 10) (S := fun w' => w'.cell? ⟨g, 0, none⟩ = some (.slice (some ⟨go, 0, none⟩) l1.length l1.length) ∧ w'.cell? ⟨wr.heap.size, 0, none⟩ = some (.int .i64 (rd_T34 l0 i).f0) ∧ w'.cell? ⟨wr.heap.size, 1, none⟩ = some (.int .i64 (rd_T34 l0 i).f1) ∧ w'.cell? ⟨go, ((rd_T34 l0 i).f1).toNat, none⟩ = some (.int .i64 (rd out (rd_T34 l0 i).f1))) (ds := [9]) #[false, false, false, false, false, false, false, false, false, false] (by kernel_rfl) rfl rfl ⟨hb0, hm0, hm1, hx17⟩ (fun hHeld => ?_); refine with_tabW doR7.tab doR7.bits (fun HT_ HW_ => ?_)
                have hbox5 := blk_drew hbox3
                have hO5 := Kd.R_drew hO3
                have hB5 := below_drew1 hB3
                have hx15 : w9.drew.cell? ⟨go, ((rd_T34 l0 i).f0).toNat, none⟩ = some (.int .i64 (rd out (rd_T34 l0 i).f0)) := hx15_0
                have hf15 : w9.drew.frozen? ⟨go, ((rd_T34 l0 i).f0).toNat, none⟩ = false := hf15_0
                generalize w9.drew = W5 at hHeld hbox5 hO5 hB5 hx15 hf15 ⊢
                refine pure_ (i := 1) (N := some 30) (v := ?_) (a' := ?_) #[false, true, false, false, false, false, false, false, false, false] rfl rfl (any_of HT_.out (by kernel_rfl)) (fun _ _ _ h => h) (Or.inl ⟨by rfl, ?_⟩) ?_ ?_
                rotate_left
                · intro w'
                  go_simp
                  with_reducible rfl
                rotate_left
                · simp only [Act.put, List.setIfInBounds_toArray, List.set_cons_zero, List.set_cons_succ, i64_w, i32_w]
                  rfl
                refine pure_ (i := 4) (N := some 33) (v := ?_) (a' := ?_) #[false, true, false, false, true, false, false, false, false, false] rfl rfl (any_of HT_.out (by kernel_rfl)) (fun _ _ _ h => h) (Or.inl ⟨by rfl, ?_⟩) ?_ ?_
                rotate_left
                · intro w'
                  go_simp
                  with_reducible rfl
                rotate_left
                · simp only [Act.put, List.setIfInBounds_toArray, List.set_cons_zero, List.set_cons_succ, i64_w, i32_w]
                  rfl
                refine take_ (i := 0) (N := some 29) (v := ?_) (a' := ?_) #[true, true, false, false, true, false, false, false, false, false] rfl rfl (take_ofW HT_.out HW_.out (by kernel_rfl)) (fun _ _ _ h => h) (Or.inl ⟨by rfl, ?_⟩) hHeld ?_ ?_
                rotate_left
                · rintro w' ⟨s0, s1, s2, s3⟩
                  go_simp
                  with_reducible rfl
                rotate_left
                · simp only [Act.put, List.setIfInBounds_toArray, List.set_cons_zero, List.set_cons_succ, i64_w, i32_w]
                  rfl
                refine take_ (i := 3) (N := some 32) (v := ?_) (a' := ?_) #[true, true, false, true, true, false, false, false, false, false] rfl rfl (take_ofW HT_.out HW_.out (by kernel_rfl)) (fun _ _ _ h => h) (Or.inl ⟨by rfl, ?_⟩) hHeld ?_ ?_
                rotate_left
                · rintro w' ⟨s0, s1, s2, s3⟩
                  go_simp
                  with_reducible rfl
                rotate_left
                · simp only [Act.put, List.setIfInBounds_toArray, List.set_cons_zero, List.set_cons_succ, i64_w, i32_w]
                  rfl
                refine take_ (i := 2) (N := some 31) (v := ?_) (a' := ?_) #[true, true, true, true, true, false, false, false, false, false] rfl rfl (take_ofW HT_.out HW_.out (by kernel_rfl)) (fun _ _ _ h => h) (Or.inl ⟨by rfl, ?_⟩) hHeld ?_ ?_
                rotate_left
                · rintro w' ⟨s0, s1, s2, s3⟩
                  go_simp
                  with_reducible rfl
                rotate_left
                · simp only [Act.put, List.setIfInBounds_toArray, List.set_cons_zero, List.set_cons_succ, i64_w, i32_w]
                  rfl
                refine take_ (i := 5) (N := some 34) (v := ?_) (a' := ?_) #[true, true, true, true, true, true, false, false, false, false] rfl rfl (take_ofW HT_.out HW_.out (by kernel_rfl)) (fun _ _ _ h => h) (Or.inl ⟨by rfl, ?_⟩) hHeld ?_ ?_
                rotate_left
                · rintro w' ⟨s0, s1, s2, s3⟩
                  go_simp
                  with_reducible rfl
                rotate_left
                · simp only [Act.put, List.setIfInBounds_toArray, List.set_cons_zero, List.set_cons_succ, i64_w, i32_w]
                  rfl
                refine pure_ (i := 6) (N := some 35) (v := ?_) (a' := ?_) #[true, true, true, true, true, true, true, false, false, false] rfl rfl (any_of HT_.out (by kernel_rfl)) (fun _ _ _ h => h) (Or.inl ⟨by rfl, ?_⟩) ?_ ?_
                rotate_left
                · intro w'
                  go_simp
                  with_reducible rfl
                rotate_left
                · simp only [Act.put, List.setIfInBounds_toArray, List.set_cons_zero, List.set_cons_succ, i64_w, i32_w]
                  rfl
                refine take_ (i := 7) (N := some 36) (v := ?_) (a' := ?_) #[true, true, true, true, true, true, true, true, false, false] rfl rfl (take_ofW HT_.out HW_.out (by kernel_rfl)) (fun _ _ _ h => h) (Or.inl ⟨by rfl, ?_⟩) hHeld ?_ ?_
                rotate_left
                · rintro w' ⟨s0, s1, s2, s3⟩
                  go_simp
                  with_reducible rfl
                rotate_left
                · simp only [Act.put, List.setIfInBounds_toArray, List.set_cons_zero, List.set_cons_succ, i64_w, i32_w]
                  rfl
                refine pure_ (i := 8) (N := some 37) (v := ?_) (a' := ?_) #[true, true, true, true, true, true, true, true, true, false] rfl rfl (any_of HT_.out (by kernel_rfl)) (fun _ _ _ h => h) (Or.inl ⟨by rfl, ?_⟩) ?_ ?_
                rotate_left
                · intro w'
                  go_simp
                  with_reducible rfl
                rotate_left
                · simp only [Act.put, List.setIfInBounds_toArray, List.set_cons_zero, List.set_cons_succ, i64_w, i32_w]
                  rfl
                refine last_ (i := 9) (N := none) #[true, true, true, true, true, true, true, true, true, true] rfl rfl (one_of HT_.out (by kernel_rfl)) (by decide) (fun K hK => ?_)
                refine skip_ (w1 := ?_) (by rfl) rfl ?_ ?_
                rotate_left
                · go_simp
                  rfl
                refine hK.out _ _ ?_
                clear hK K
                refine done_ (done_of HT_.out (by kernel_rfl)) ?_
                have HP := Kd.R_putn hO5 (rd_T34 l0 i).f0 (rd out (rd_T34 l0 i).f1)
                go_wp2
                go_roundg k1
                case measure => have := HK1.out; omega
                case rel => exact ⟨_, _, rfl, ⟨H⟩, ⟨by have := HK1.out; omega⟩, ⟨by rw [doStep_length]; exact hl⟩, ⟨by rw [hst]; exact HP⟩, ⟨blk_far hbox5 (fun e => hgo e.symm) _⟩, ⟨below_set hB5 hbase⟩⟩
              · have c4b : inn l1.length (rd_T34 l0 i).f1 = false := by simpa using c4
                have hst : doStep out (rd_T34 l0 i) = out := by unfold doStep; rw [hl, if_neg (fun h => c4 h.2)]
                go_wp2_with (go_at_call 23; refine (in_calls A l1.length l1.length _ ⟨g, 0, none⟩ _ hb0).mono ?_; (first | rw [c3] | rw [c4b]); rintro e w9 ⟨rfl, rfl⟩)
                rw [hst] at H
                go_roundg k1
                case measure => have := HK1.out; omega
                case rel => exact ⟨_, _, rfl, ⟨H⟩, ⟨by have := HK1.out; omega⟩, ⟨hl⟩, ⟨hO3⟩, ⟨hbox3⟩, ⟨hB3⟩⟩
            · have c3b : inn l1.length (rd_T34 l0 i).f0 = false := by simpa using c3
              have hst : doStep out (rd_T34 l0 i) = out := by unfold doStep; rw [hl, if_neg (fun h => c3 h.1)]
              go_wp2_with (go_at_call 23; refine (in_calls A l1.length l1.length (rd_T34 l0 i).f0 ⟨g, 0, none⟩ _ hb0).mono ?_; rw [c3b]; rintro e w9 ⟨rfl, rfl⟩)
              rw [hst] at H
              go_roundg k1
              case measure => have := HK1.out; omega
              case rel => exact ⟨_, _, rfl, ⟨H⟩, ⟨by have := HK1.out; omega⟩, ⟨hl⟩, ⟨hO3⟩, ⟨hbox3⟩, ⟨hB3⟩⟩
          · rw [if_neg c2] at H
            exact absurd H (by simp)
        · rw [if_neg c1] at H
          have c1b : decide (i < (l0.length : Int)) = false := decide_eq_false c1
          obtain rfl := Option.some.inj H
          have hb0 : wr.cell? ⟨g, 0, none⟩ = some (.slice A l1.length l1.length) := (blk_cell HX.out 0).trans rfl
          go_wp2
          go_ret
          obtain ⟨A_, c_, e_, _, hF_⟩ := Kd.R_V (base' := w.heap.size) (Kd.R_mono (Kd.R_bound HO.out) (ok' := fun k_ => w.heap.size ≤ k_) (fun _ hk => hk.2.1))
          injection e_ with ea _ _
          subst ea
          rw [← hl]
          exact ⟨_, rfl, Kd.V_mk (Nat.le_refl _) hF_, HB.out⟩
  · rw [if_neg cl] at h
    exact absurd h (by simp)
end Go.Proofs.Ytcfomfcalpnbcaa.PG
