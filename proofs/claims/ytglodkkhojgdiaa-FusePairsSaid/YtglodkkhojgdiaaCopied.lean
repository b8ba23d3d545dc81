/- fuse.copied of a function without constants: its code as new memory; walked by hand. -/
import Derived.Test.YtglodkkhojgdiaaLead
namespace Go.Proofs.Ytglodkkhojgdiaa.PG
open Go.RowKit Go.Proofs.YtglodkkhojgdiaaW.PrintWords Go.Proofs.YtglodkkhojgdiaaW.PrintLast Go.Proofs.YtglodkkhojgdiaaW.PrintMore
set_option linter.unusedVariables false
set_option linter.unusedSimpArgs false
theorem clip_to {P : Program} (t e : TypeId) (kh km : IntKind) {i : TypeInfo} (ht : P.underlying t = some (.slice e)) (hi : P.info? e = some i) (A : Option Addr) (n c : Nat) (hc : n ≤ c) :
    ∀ W : World, (Instr.slice t (.slice A n c) none (some (.int kh (n : Int))) (some (.int km (n : Int)))).run P W = .ok (.slice A n n) W := by
  intro W
  have hel : P.elem t = e := by simp [Program.elem, ht]
  have hu : P.underlying t = some (.slice (P.elem t)) := by rw [hel]; exact ht
  have ha : (A.map fun x => x.add 0) = A := by cases A <;> simp [Addr.add]
  rw [run_slice_hm W t A n c hu kh km (n : Int) (n : Int) (by omega) (by omega) (by omega), hel]
  simp [sizeOf, typeInfo, hi, sliced, Result.andThen, ha]
theorem info46 : ∃ i, Try.prog.info? 46 = some i := by
  have h : (Try.prog.info? 46).isSome = true := by kernel_rfl
  exact Option.isSome_iff_exists.mp h
set_option maxHeartbeats 800000 in
set_option maxRecDepth 100000 in
theorem clipv_calls (A : Option Addr) (n c : Nat) (hc : n ≤ c) (w : World) : Calls Try.prog 18 #[.slice A n c] w fun e w' => e = .returned (.slice A n n) ∧ w' = w := by
  obtain ⟨i0, hi⟩ := info46
  have hcut := clip_to (P := Try.prog) 29 46 .i64 .i64 Try.underlying29 hi A n c hc
  go_enter Try.func18, Try.ntmps18
  go_wp2
  go_ret
  exact ⟨rfl, rfl⟩
set_option maxHeartbeats 800000 in
set_option maxRecDepth 100000 in
theorem clipm_calls (A : Option Addr) (n c : Nat) (hc : n ≤ c) (w : World) : Calls Try.prog 19 #[.slice A n c] w fun e w' => e = .returned (.slice A n n) ∧ w' = w := by
  obtain ⟨i0, hi, _, hsz, _⟩ := info_parts info23
  have hcut := clip_to (P := Try.prog) 30 23 .i64 .i64 Try.underlying30 hi A n c hc
  go_enter Try.func19, Try.ntmps19
  go_wp2
  go_ret
  exact ⟨rfl, rfl⟩
set_option maxHeartbeats 8000000 in
set_option maxRecDepth 100000 in
theorem clone_calls (A0 : Option Addr) (c0 : Nat) (l0 : List S23) (w : World) (hr0 : Kd.C k23 w A0 l0.length l0) (hc0 : l0.length ≤ c0) (c2 : l0.length < 1000000) :
    Calls Try.prog 20 #[.slice A0 l0.length c0] w fun e w' => ∃ v0_ : Value, e = .returned (v0_) ∧ Kd.R k23 23 w' w.heap.size (fun k_ => w.heap.size ≤ k_) v0_ l0 ∧ Below w.heap.size w w' := by
  have HR0 := Aside0.mk hr0
  have HC0 := Aside0.mk hc0
  have HL := Aside0.mk c2
  clear hr0 hc0 c2
  have hu23 := Try.underlying23
  have HB := Aside0.mk (Below.refl w.heap.size w)
  have hnil := fun W : World => Lib.run_eql_slice_nil (P := Try.prog) W 30 23 A0 l0.length c0 0 0 Try.underlying30
  cases A0 with
  | none =>
    have hl : l0 = [] := by
      rcases Nat.eq_zero_or_pos l0.length with h0 | h0
      · exact List.eq_nil_of_length_eq_zero h0
      · obtain ⟨ad, e, _⟩ := HR0.out.2.2 h0
        cases e
    have HY := Aside0.mk hl
    clear hl
    simp only [Option.isNone_none] at hnil
    go_enter Try.func20, Try.ntmps20
    go_wp2
    go_ret
    exact ⟨_, rfl, by rw [HY.out]; exact Kd.R_nil _ _ _ _ _, Below.refl _ _⟩
  | some ad =>
    simp only [Option.isNone_some] at hnil
    go_enter Try.func20, Try.ntmps20
    go_wp2_with (first | ((with_reducible refine gate_dst (N := 5) rfl ?_); refine Kd.R_lit k23 _ 23 ?hg (N := 5) ?hd (xs := ([] : List S23)) (inner := []) (ok := fun k_ => w.heap.size ≤ k_) (okp := fun k_ => w.heap.size ≤ k_) ?hr ?hp (fun _ hk => hk) (Nat.le_refl _) (Below.refl _ _) (Nat.le_refl _) (by simp) ?_; (case hd => rfl); (case hg => rfl); (case hr => first | (go_simp; done) | (go_simp; rfl)); (case hp => exact (Reps.none _ _)); intro v217 w3 ho4 hb hg_ hnew_; clear hg_ hnew_; have n0_ := Aside0.mk (Kd.R_lower ho4 (below_size (by repeat (first | (with_reducible first | exact HB.out | apply below_alloc | apply pw_below_drewN | apply below_drew1) | exact HB.out)))); have n1_ := Aside0.mk (below_step (by repeat (first | (with_reducible first | exact HB.out | apply below_alloc | apply pw_below_drewN | apply below_drew1) | exact HB.out)) hb); clear HB; have HO218 := n0_; have HB := n1_; clear n0_ n1_; clear hb ho4) | ((with_reducible refine gate_builtin (b := .append) (xs := #[.tmp 5, .tmp 6]) rfl ?_); at_builtin; refine Kd.R_append_rows k23 (Rr := k23.K ?aW) (w0 := w) w.heap.size rfl (.tmp 5) (.tmp 6) 30 23 (.agg #[(.int .i64 0), (.int .i64 0), (.int .i64 0), (.int .i64 0), (.int .i64 0)]) 40 rfl Try.underlying30 info23 rfl (by decide) (by omega) v217 [] l0 _ _ _ (fun k_ => w.heap.size ≤ k_) (fun _ => False) rfl rfl ?aO ?aR ?aK (fun _ h => h.elim) ?aF ?aB ?aS ?aL ?_; (case aR => repeat (first | exact (Kd.C_below HR0.out HB.out) | (with_reducible refine Kd.C_alloc ?_ _) | (with_reducible refine Kd.C_drewN ?_ _) | (with_reducible refine Kd.C_drew ?_))); (case aK => exact (fun x cs h => by obtain rfl := k23_open h; exact k23_mkM _ _ _ x)); (case aB => exact (by repeat (first | (with_reducible first | exact HB.out | apply below_alloc | apply pw_below_drewN | apply below_drew1) | exact HB.out))); (case aF => exact (fun k_ h_ => Nat.le_trans (below_size HB.out) h_)); (case aO => exact (by (with_reducible repeat (first | apply Kd.R_alloc | apply Kd.R_drewN | apply Kd.R_drew)); exact HO218.out)); (case aS => exact (below_size (by repeat (first | (with_reducible first | exact HB.out | apply below_alloc | apply pw_below_drewN | apply below_drew1) | exact HB.out)))); (case aL => have := HL.out; simp only [List.length_nil]; omega); intro v220 w5 ho hb hg hat; have n0_ := Aside0.mk (hb); have n1_ := Aside0.mk (ho); clear HB; clear HO218; have HB := n0_; have HO221 := n1_; clear n0_ n1_; clear ho hb hg hat))
    go_ret
    exact ⟨_, by first | rfl | (simp [errW_none, errW_some] <;> rfl) | (simp [*, errW_none, errW_some] <;> rfl), by (with_reducible repeat (first | apply Kd.R_alloc | apply Kd.R_drewN | apply Kd.R_drew)); exact HO221.out, by repeat (first | (with_reducible first | exact HB.out | apply below_alloc | apply pw_below_drewN | apply below_drew1) | exact HB.out)⟩
def fuse_copied.f (k : Nat) (a0_0 : ByteArray) (a0_1 : Int) (a0_2 : Int) (l0_3 : List Int) (l0_4 : List S23) : Option (ByteArray × Int × Int × List Int × List S23) := if l0_3 = [] then (if l0_4.length < 1000000 then some (a0_0, a0_1, a0_2, [], l0_4) else none) else none
theorem fuse_copied.mono : ∀ a0 a1 a2 a3 a4 k, LeO (fuse_copied.f k a0 a1 a2 a3 a4) (fuse_copied.f (k + 1) a0 a1 a2 a3 a4) := fun _ _ _ _ _ _ => LeO.refl _
set_option maxHeartbeats 8000000 in
set_option maxRecDepth 100000 in
theorem fuse_copied.calls (k : Nat) (a0_0 : ByteArray) (a0_1 : Int) (a0_2 : Int) (A0_3 : Option Addr) (c0_3 : Nat) (l0_3 : List Int) (A0_4 : Option Addr) (c0_4 : Nat) (l0_4 : List (S23)) (r1 : ByteArray) (r2 : Int) (r3 : Int) (r4 : List Int) (r5 : List (S23)) (w : World) (hr0_3 : Kd.C (Kd.int .i64) w A0_3 l0_3.length l0_3) (hc0_3 : l0_3.length ≤ c0_3) (hr0_4 : Kd.C k23 w A0_4 l0_4.length l0_4) (hc0_4 : l0_4.length ≤ c0_4) (h : fuse_copied.f k a0_0 a0_1 a0_2 l0_3 l0_4 = some (r1, r2, r3, r4, r5)) :
    Calls Try.prog 12 #[.agg #[.string a0_0, .int .i64 a0_1, .int .i64 a0_2, .slice A0_3 l0_3.length c0_3, .slice A0_4 l0_4.length c0_4]] w fun e w' => ∃ v3_ v4_ : Value, e = .returned (.agg #[.string r1, .int .i64 r2, .int .i64 r3, v3_, v4_]) ∧ Kd.R (Kd.int .i64) 3 w' w.heap.size (fun k_ => (w.heap.size ≤ k_)) v3_ r4 ∧ Kd.V k23 23 w' w.heap.size (fun k_ => (w.heap.size ≤ k_) ∧ some k_ ≠ (v3_ : Value).ownBlock) v4_ r5 ∧ Below w.heap.size w w' := by
  unfold fuse_copied.f at h
  by_cases h3 : l0_3 = []
  rotate_left
  · rw [if_neg h3] at h
    cases h
  rw [if_pos h3] at h
  subst h3
  by_cases h4 : l0_4.length < 1000000
  rotate_left
  · rw [if_neg h4] at h
    cases h
  rw [if_pos h4] at h
  simp only [Option.some.injEq, Prod.mk.injEq] at h
  obtain ⟨rfl, rfl, rfl, rfl, rfl⟩ := h
  have HR4 := Aside0.mk hr0_4
  have HC4 := Aside0.mk hc0_4
  have HL4 := Aside0.mk h4
  clear hr0_3 hc0_3 hr0_4 hc0_4 h4
  simp only [List.length_nil]
  have hu23 := Try.underlying23
  have hu32 := Try.underlying32
  go_enter Try.func12, Try.ntmps12
  go_upto_region 1 with (fail)
  refine rebase (P := fun W_ => Code.wp _ _ _ _ W_) (fun W_ => W_.heap[w.heap.size]? = some (.cells #[.string a0_0, .int .i64 a0_1, .int .i64 a0_2, .slice A0_3 0 c0_3, .slice A0_4 l0_4.length c0_4] 32 (0, 0)) ∧ W_.heap[w.heap.size + 1]? = some (.cells #[.string (⟨#[]⟩ : ByteArray), .int .i64 0, .int .i64 0, .slice none 0 0, .slice none 0 0] 32 (0, 0)) ∧ Below w.heap.size w W_) ⟨blk_alloc (blk_new w _) _, ?_, below_alloc (below_alloc (Below.refl _ _) _) _⟩ ?_
  · have := blk_new (w.alloc (.cells #[.string a0_0, .int .i64 a0_1, .int .i64 a0_2, .slice A0_3 0 c0_3, .slice A0_4 l0_4.length c0_4] 32 (0, 0))) (.cells #[.string (⟨#[]⟩ : ByteArray), .int .i64 0, .int .i64 0, .slice none 0 0, .slice none 0 0] 32 (0, 0))
    rwa [World.size_alloc] at this
  rintro W1 ⟨h1A, h1R, h1B⟩
  have H1A := Aside0.mk h1A
  have H1R := Aside0.mk h1R
  have H1B := Aside0.mk h1B
  have hx3 : W1.cell? ⟨w.heap.size, 3, none⟩ = some (.slice A0_3 0 c0_3) := (blk_cell h1A 3).trans rfl
  clear h1A h1R h1B
  go_wp2
  clear hx3
  go_loopg [3, 9] 1 (fun kq v3 v9 w' => v3 = .slice none 0 0 ∧ v9 = .int .i64 0 ∧ Aside0 (w'.heap[w.heap.size]? = some (.cells #[.string a0_0, .int .i64 a0_1, .int .i64 a0_2, .slice A0_3 0 c0_3, .slice A0_4 l0_4.length c0_4] 32 (0, 0))) ∧ Aside0 (w'.heap[w.heap.size + 1]? = some (.cells #[.string (⟨#[]⟩ : ByteArray), .int .i64 0, .int .i64 0, .slice none 0 0, .slice none 0 0] 32 (0, 0))) ∧ Aside0 (Below w.heap.size w w'))
  case atStart => exact ⟨rfl, rfl, H1A, H1R, H1B⟩
  case round =>
    clear H1A H1R H1B
    obtain ⟨rfl, rfl, HA, HR, HB⟩ := hrel
    have hx0 : wr.cell? ⟨w.heap.size, 0, none⟩ = some (.string a0_0) := (blk_cell HA.out 0).trans rfl
    have hx1 : wr.cell? ⟨w.heap.size, 1, none⟩ = some (.int .i64 a0_1) := (blk_cell HA.out 1).trans rfl
    have hx2 : wr.cell? ⟨w.heap.size, 2, none⟩ = some (.int .i64 a0_2) := (blk_cell HA.out 2).trans rfl
    have hx3 : wr.cell? ⟨w.heap.size, 3, none⟩ = some (.slice A0_3 0 c0_3) := (blk_cell HA.out 3).trans rfl
    have hx4 : wr.cell? ⟨w.heap.size, 4, none⟩ = some (.slice A0_4 l0_4.length c0_4) := (blk_cell HA.out 4).trans rfl
    have hfa3 := blk_frozen HA.out 3
    have hfa4 := blk_frozen HA.out 4
    go_upto_region 10 with (go_at_call 18; refine (clipv_calls none 0 0 (Nat.le_refl _) _).mono ?_; rintro e w9 ⟨rfl, rfl⟩)
    refine rebase (P := fun W_ => Code.wp _ _ _ _ W_) (fun W_ => W_.heap[w.heap.size]? = some (.cells #[.string a0_0, .int .i64 a0_1, .int .i64 a0_2, .slice none 0 0, .slice A0_4 l0_4.length c0_4] 32 (0, 0)) ∧ W_.heap[w.heap.size + 1]? = some (.cells #[.string (⟨#[]⟩ : ByteArray), .int .i64 0, .int .i64 0, .slice none 0 0, .slice none 0 0] 32 (0, 0)) ∧ Below w.heap.size w W_) ⟨blk_put HA.out 3 _ rfl, blk_far HR.out (by show w.heap.size + 1 ≠ w.heap.size; omega) _, below_set HB.out (Nat.le_refl _)⟩ ?_
    clear hx0 hx1 hx2 hx3 hx4 hfa3 hfa4
    rintro W2 ⟨h2A, h2R, h2B⟩
    have hx0 : W2.cell? ⟨w.heap.size, 0, none⟩ = some (.string a0_0) := (blk_cell h2A 0).trans rfl
    have hx1 : W2.cell? ⟨w.heap.size, 1, none⟩ = some (.int .i64 a0_1) := (blk_cell h2A 1).trans rfl
    have hx2 : W2.cell? ⟨w.heap.size, 2, none⟩ = some (.int .i64 a0_2) := (blk_cell h2A 2).trans rfl
    have hx3 : W2.cell? ⟨w.heap.size, 3, none⟩ = some (.slice none 0 0) := (blk_cell h2A 3).trans rfl
    have hx4 : W2.cell? ⟨w.heap.size, 4, none⟩ = some (.slice A0_4 l0_4.length c0_4) := (blk_cell h2A 4).trans rfl
    have hfa0 := blk_frozen h2A 0
    have hfa1 := blk_frozen h2A 1
    have hfa2 := blk_frozen h2A 2
    have hfa3 := blk_frozen h2A 3
    have hfa4 := blk_frozen h2A 4
    go_upto_region 11 with (first | (go_at_call 20; refine (clone_calls A0_4 c0_4 l0_4 _ (Kd.C_below HR4.out h2B) HC4.out HL4.out).mono ?_; rintro e w5 ⟨v5, rfl, hO5, hb5⟩; have h5A := blk_below h2A hb5; have h5R := blk_below h2R hb5; have h5B := below_step h2B hb5; have hf5 := blk_frozen h5A 4; have hy4 : w5.cell? ⟨w.heap.size, 4, none⟩ = some (.slice A0_4 l0_4.length c0_4) := (blk_cell h5A 4).trans rfl; obtain ⟨Ac, cc, rfl⟩ := Kd.R_slice hO5; have hlc := (Kd.R_reads' hO5).2.1) | (go_at_call 19; refine (clipm_calls Ac l0_4.length cc hlc _).mono ?_; rintro e w6 ⟨rfl, rfl⟩))
    refine rebase (P := fun W_ => Code.wp _ _ _ _ W_) (fun W_ => W_.heap[w.heap.size]? = some (.cells #[.string a0_0, .int .i64 a0_1, .int .i64 a0_2, .slice none 0 0, .slice Ac l0_4.length l0_4.length] 32 (0, 0)) ∧ W_.heap[w.heap.size + 1]? = some (.cells #[.string (⟨#[]⟩ : ByteArray), .int .i64 0, .int .i64 0, .slice none 0 0, .slice none 0 0] 32 (0, 0)) ∧ Kd.R k23 23 W_ W2.heap.size (fun k_ => W2.heap.size ≤ k_) (.slice Ac l0_4.length cc) l0_4 ∧ Below w.heap.size w W_) ⟨blk_put h5A 4 _ rfl, blk_far h5R (by show w.heap.size + 1 ≠ w.heap.size; omega) _, ?_, below_set h5B (Nat.le_refl _)⟩ ?_
    · exact Kd.R_far (p := ⟨w.heap.size, 4, none⟩) hO5 (fun k_ hk => by show k_ ≠ w.heap.size; have := blk_lt h2A; omega) _
    clear hx0 hx1 hx2 hx3 hx4 hfa0 hfa1 hfa2 hfa3 hfa4
    rintro W3 ⟨h3A, h3R, h3O, h3B⟩
    have hx0 : W3.cell? ⟨w.heap.size, 0, none⟩ = some (.string a0_0) := (blk_cell h3A 0).trans rfl
    have hx1 : W3.cell? ⟨w.heap.size, 1, none⟩ = some (.int .i64 a0_1) := (blk_cell h3A 1).trans rfl
    have hx2 : W3.cell? ⟨w.heap.size, 2, none⟩ = some (.int .i64 a0_2) := (blk_cell h3A 2).trans rfl
    have hx3 : W3.cell? ⟨w.heap.size, 3, none⟩ = some (.slice none 0 0) := (blk_cell h3A 3).trans rfl
    have hx4 : W3.cell? ⟨w.heap.size, 4, none⟩ = some (.slice Ac l0_4.length l0_4.length) := (blk_cell h3A 4).trans rfl
    have hz0 : W3.cell? ⟨w.heap.size + 1, 0, none⟩ = some (.string (⟨#[]⟩ : ByteArray)) := (blk_cell h3R 0).trans rfl
    have hz1 : W3.cell? ⟨w.heap.size + 1, 1, none⟩ = some (.int .i64 0) := (blk_cell h3R 1).trans rfl
    have hz2 : W3.cell? ⟨w.heap.size + 1, 2, none⟩ = some (.int .i64 0) := (blk_cell h3R 2).trans rfl
    have hz3 : W3.cell? ⟨w.heap.size + 1, 3, none⟩ = some (.slice none 0 0) := (blk_cell h3R 3).trans rfl
    have hz4 : W3.cell? ⟨w.heap.size + 1, 4, none⟩ = some (.slice none 0 0) := (blk_cell h3R 4).trans rfl
    have hfz0 := blk_frozen h3R 0
    have hfz1 := blk_frozen h3R 1
    have hfz2 := blk_frozen h3R 2
    have hfz3 := blk_frozen h3R 3
    have hfz4 := blk_frozen h3R 4
    go_wp2
    refine bodyPost_ret (results_cell_row rfl _ _ (w.heap.size + 1) 32 #[.string a0_0, .int .i64 a0_1, .int .i64 a0_2, .slice none 0 0, .slice Ac l0_4.length l0_4.length] (0, 0) _ rfl (by refine blk_put (cs := #[.string a0_0, .int .i64 a0_1, .int .i64 a0_2, .slice none 0 0, .slice none 0 0]) ?_ 4 _ rfl; refine blk_put (cs := #[.string a0_0, .int .i64 a0_1, .int .i64 a0_2, .slice none 0 0, .slice none 0 0]) ?_ 3 _ rfl; refine blk_put (cs := #[.string a0_0, .int .i64 a0_1, .int .i64 0, .slice none 0 0, .slice none 0 0]) ?_ 2 _ rfl; refine blk_put (cs := #[.string a0_0, .int .i64 0, .int .i64 0, .slice none 0 0, .slice none 0 0]) ?_ 1 _ rfl; refine blk_put (cs := #[.string (⟨#[]⟩ : ByteArray), .int .i64 0, .int .i64 0, .slice none 0 0, .slice none 0 0]) ?_ 0 _ rfl; exact h3R) Try.underlying32 rfl (by kernel_rfl)) rfl ?_
    have hne1 : ∀ k_, W2.heap.size ≤ k_ → k_ ≠ w.heap.size + 1 := fun k_ hk => by have := blk_lt h2R; omega
    refine ⟨_, _, rfl, Kd.R_nil _ _ _ _ _, ?_, ?_⟩
    · have hR5 := (Kd.R_far (p := ⟨w.heap.size + 1, 4, none⟩) (Kd.R_far (p := ⟨w.heap.size + 1, 3, none⟩) (Kd.R_far (p := ⟨w.heap.size + 1, 2, none⟩) (Kd.R_far (p := ⟨w.heap.size + 1, 1, none⟩) (Kd.R_far (p := ⟨w.heap.size + 1, 0, none⟩) h3O hne1 (.string a0_0)) hne1 (.int .i64 a0_1)) hne1 (.int .i64 a0_2)) hne1 (.slice none 0 0)) hne1 (.slice Ac l0_4.length l0_4.length))
      obtain ⟨A_, c_, e_, _, hF_⟩ := Kd.R_V (base' := w.heap.size) hR5
      injection e_ with ea _ _
      subst ea
      have hle := below_size h2B
      exact Kd.V_mono (Kd.V_mk (Nat.le_refl _) hF_) (fun k_ hk => ⟨Nat.le_trans hle hk, by simp [Value.ownBlock]⟩)
    · repeat (first | exact h3B | refine below_set ?_ (by show w.heap.size ≤ w.heap.size + 1; omega))
end Go.Proofs.Ytglodkkhojgdiaa.PG
