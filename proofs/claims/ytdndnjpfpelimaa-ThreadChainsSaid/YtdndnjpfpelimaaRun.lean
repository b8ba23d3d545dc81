/- Function 5, the optimizer: the blocks are threaded, pruned and merged. -/
import Derived.Test.YtdndnjpfpelimaaSame
import Derived.Test.YtdndnjpfpelimaaEnds
import Derived.Test.YtdndnjpfpelimaaMerge
import Derived.Test.YtdndnjpfpelimaaSameFn
import Derived.Test.YtdndnjpfpelimaaPGx0
import Derived.Test.YtdndnjpfpelimaaU
namespace Go.Proofs.Ytdndnjpfpelimaa.PG
open Go.RowKit Go.Proofs.YtdndnjpfpelimaaW.PrintWords Go.Proofs.YtdndnjpfpelimaaW.PrintLast Go.Proofs.YtdndnjpfpelimaaW.PrintMore
attribute [local go_sem] max2_int min2_int max_two min_two max_three min_three max_four min_four   -- for this text's walks alone
set_option linter.unusedVariables false
set_option linter.unusedSimpArgs false
attribute [local go_sem] run_store_complex
set_option maxHeartbeats 4000000 in
set_option maxRecDepth 100000 in
theorem Run_calls (A : Option Addr) (c : Nat) (bs bs1 : List S37) (nm : ByteArray) (p q e_ : Int) (fin fin2 : Int → Int) (lx ly : List S32) (x1 x3 y1 y2 y3 : Int) (w : World) (hr : Kd.C k37 w A bs.length bs) (hc : bs.length ≤ c) (hk : NoK bs) (hk1 : NoK bs1) (he : EndsOK bs fin) (he1 : EndsOK bs1 fin2) (hp : 0 < bs.length)
    (h1 : bs.map (endOf fin) = bs1) (h2 : bs1.map (endOf fin2) = bs1) (hd : (rd_T37 bs 0).f1 ≠ (rd_T37 bs1 0).f1) (hu : UnOK bs1 e_ (⟨lx, ⟨1, x1, e_, x3⟩⟩ : S37) (⟨ly, ⟨3, y1, y2, y3⟩⟩ : S37)) (hz : NoK [(⟨lx ++ ly, ⟨3, y1, y2, y3⟩⟩ : S37)]) (hxy : NoK [(⟨lx, ⟨1, x1, 1, x3⟩⟩ : S37), (⟨ly, ⟨3, y1, y2, y3⟩⟩ : S37)]) :
    Calls Try.prog 5 #[.agg #[.string nm, .int .i64 p, .int .i64 q, .slice A bs.length c]] w (CopyOut nm p q [(⟨lx ++ ly, ⟨3, y1, y2, y3⟩⟩ : S37)] w) := by
  have hl1 : bs1.length = bs.length := by rw [← h1, List.length_map]
  have HR := Aside0.mk hr
  have HC := Aside0.mk hc
  have HK := Aside0.mk hk
  have HK1 := Aside0.mk hk1
  have HD := Aside0.mk hd
  have HU := Aside0.mk hu
  have HZ := Aside0.mk hz
  have HXY := Aside0.mk hxy
  have HL1 := Aside0.mk hl1
  have HH1 := Aside0.mk h1
  have HH2 := Aside0.mk h2
  have HE := Aside0.mk he
  have HE1 := Aside0.mk he1
  have HP := Aside0.mk hp
  clear hr hc hk hk1 hd hu hz hxy hl1 h1 h2 he he1 hp
  have hu24 := Try.underlying24
  go_enter Try.func5, Try.ntmps5
  go_upto_region 1 with (fail)
  refine rebase (P := fun W_ => Code.wp _ _ _ _ W_) (fun W_ => W_.heap[w.heap.size]? = some (.cells #[.string nm, .int .i64 p, .int .i64 q, .slice A bs.length c] 24 (0, 0)) ∧ W_.heap[w.heap.size + 1]? = some (.cells #[.string (⟨#[]⟩ : ByteArray), .int .i64 0, .int .i64 0, .slice none 0 0] 24 (0, 0)) ∧ Below w.heap.size w W_ ∧ W_.heap.size = w.heap.size + 2) ⟨new12 _ _ _, new2 _ _ _, below_alloc (below_alloc (Below.refl _ _) _) _, by rw [World.size_alloc, World.size_alloc]⟩ ?_
  rintro W1 ⟨h0, h1, hB, hs⟩
  have H0 := Aside0.mk h0
  have H1 := Aside0.mk h1
  have HB := Aside0.mk hB
  have HS := Aside0.mk hs
  obtain ⟨f0, f1, f2, f3⟩ := box4 h0
  clear h0 h1 hB hs
  have E1 := fun W hC => Ends_calls A c bs nm p q fin W hC HC.out HK.out HE.out HP.out
  rw [HH1.out] at E1
  have HE1c := Aside0.mk E1
  clear E1
  go_wp2_with (go_at_call 8; refine (HE1c.out _ (Kd.C_below HR.out HB.out)).mono ?_; rintro e w2 ⟨A2, c2, rfl, hc2, hN, hB⟩; have H0b := Aside0.mk (blk_below H0.out hB); have H1b := Aside0.mk (blk_below H1.out hB); have HBb := Aside0.mk (below_step HB.out hB); have HNb := Aside0.mk hN; have HC2 := Aside0.mk hc2; have HSb : Aside0 (w.heap.size + 2 ≤ w2.heap.size) := Aside0.mk (by have h1 := HS.out; have h2 := hB.size; omega); clear hc2 hN hB f0 f1 f2 f3)
  refine rebase (P := fun W_ => Code.wp _ _ _ _ W_) (fun W_ => W_.heap[w.heap.size]? = some (.cells #[.string nm, .int .i64 p, .int .i64 q, .slice A bs.length c] 24 (0, 0)) ∧ W_.heap[w.heap.size + 1]? = some (.cells #[.string (⟨#[]⟩ : ByteArray), .int .i64 0, .int .i64 0, .slice none 0 0] 24 (0, 0)) ∧ W_.heap[w2.heap.size]? = some (.cells #[.string nm, .int .i64 p, .int .i64 q, .slice A2 bs1.length bs1.length] 24 (0, 0)) ∧ Below w.heap.size w W_ ∧ Kd.N k37 37 W_ W1.heap.size (fun k => W1.heap.size + 2 ≤ k ∧ k < w2.heap.size) (.slice A2 bs1.length c2) bs1 ∧ w2.heap.size < W_.heap.size) ⟨blk_alloc H0b.out _, blk_alloc H1b.out _, new1 _ _, below_alloc HBb.out _, Kd.N_alloc (Kd.N_bound HNb.out) _, by rw [World.size_alloc]; exact Nat.lt_succ_self _⟩ ?_
  clear H0b H1b HBb HNb H0 H1 HB
  rintro W3 ⟨h0, h1, h3, hB, hN, hs⟩
  have H0 := Aside0.mk h0
  have H1 := Aside0.mk h1
  have H3 := Aside0.mk h3
  have HB := Aside0.mk hB
  have HN := Aside0.mk hN
  have HS3 := Aside0.mk hs
  obtain ⟨f0, f1, f2, f3⟩ := box4 h0
  obtain ⟨g0, g1, g2, g3⟩ := box4 h3
  clear h0 h1 h3 hB hN hs
  refine wp_loop_rounds 2 ?_
  rw [rounds_succ]
  go_wp2_with (go_at_call 9; refine (same_calls nm nm p q p q A c bs A2 bs1.length bs1 false _ (Kd.C_below HR.out HB.out) (Kd.N_reads' HN.out).2.2 HK.out.2.1 HL1.out.symm (Or.inr ⟨rfl, HP.out, HD.out⟩)).mono ?_; rintro e wq ⟨rfl, hb⟩; have H0q := Aside0.mk (blk_below H0.out hb); have H1q := Aside0.mk (blk_below H1.out hb); have H3q := Aside0.mk (blk_below H3.out hb); have HBq := Aside0.mk (below_step HB.out hb); have HN2q := Aside0.mk (Kd.N_below HN.out hb); have HSQ : Aside0 (w.heap.size + 2 ≤ w2.heap.size ∧ w2.heap.size < wq.heap.size) := Aside0.mk ⟨HSb.out, Nat.lt_of_lt_of_le HS3.out hb.size⟩; clear hb f0 f1 f2 f3 g0 g1 g2 g3)
  obtain ⟨f0, f1, f2, f3⟩ := box4 H3q.out
  have E2 := fun W hC => Ends_calls A2 bs1.length bs1 nm p q fin2 W hC (Nat.le_refl _) HK1.out HE1.out (by have h1 := HL1.out; have h2 := HP.out; omega)
  rw [HH2.out] at E2
  have HE2c := Aside0.mk E2
  clear E2
  refine start_ (n := 5) (S := fun w' => w'.cell? ⟨w2.heap.size, 0, none⟩ = some (.string nm) ∧ w'.cell? ⟨w2.heap.size, 1, none⟩ = some (.int .i64 p) ∧ w'.cell? ⟨w2.heap.size, 2, none⟩ = some (.int .i64 q) ∧ w'.cell? ⟨w2.heap.size, 3, none⟩ = some (.slice A2 bs1.length bs1.length)) (ds := [3, 4]) #[false, false, false, false, false] (by kernel_rfl) rfl rfl ⟨f0, f1, f2, f3⟩ (fun hHeld => ?_)
  refine take_ (i := 0) (N := some 10) (v := ?_) (a' := ?_) #[true, false, false, false, false] rfl rfl (by kernel_rfl) (fun _ _ _ h => h) (Or.inl ⟨by rfl, ?_⟩) hHeld ?_ ?_
  rotate_left
  · rintro w' ⟨s0, s1, s2, s3⟩
    go_simp
    with_reducible rfl
  rotate_left
  · simp only [Act.put, List.setIfInBounds_toArray, List.set_cons_zero, List.set_cons_succ, i64_w, i32_w]
    rfl
  refine take_ (i := 1) (N := some 11) (v := ?_) (a' := ?_) #[true, true, false, false, false] rfl rfl (by kernel_rfl) (fun _ _ _ h => h) (Or.inl ⟨by rfl, ?_⟩) hHeld ?_ ?_
  rotate_left
  · rintro w' ⟨s0, s1, s2, s3⟩
    go_simp
    with_reducible rfl
  rotate_left
  · simp only [Act.put, List.setIfInBounds_toArray, List.set_cons_zero, List.set_cons_succ, i64_w, i32_w]
    rfl
  refine one_ (i := 2) (N := (some 12)) #[true, true, true, false, false] rfl rfl (by kernel_rfl) (by decide) (fun K hK => ?_)
  refine goes_ (f := 8) Try.func8 (by kernel_rfl) rfl #[.agg #[.string nm, .int .i64 p, .int .i64 q, .slice A2 bs1.length bs1.length]] (by rfl) rfl rfl (by (try simp only [List.map_toArray, List.map_cons, List.map_nil]); first | done | rfl) ?_
  refine (HE2c.out _ (Kd.N_reads' (Kd.N_drew HN2q.out)).2.2).mono ?_
  rintro e w5 ⟨A3, c3, rfl, hc3, hN, hb⟩
  refine ⟨_, rfl, ?_⟩
  have H0c := Aside0.mk (blk_below (w := wq.drew) H0q.out hb)
  have H1c := Aside0.mk (blk_below (w := wq.drew) H1q.out hb)
  have H3c := Aside0.mk (blk_below (w := wq.drew) H3q.out hb)
  have HBc := Aside0.mk (below_step (below_drew1 HBq.out) hb)
  have HN2c := Aside0.mk (Kd.N_below (w := wq.drew) (Kd.N_drew HN2q.out) hb)
  have HN3 := Aside0.mk hN
  have HC3 := Aside0.mk hc3
  refine hK.out _ _ ⟨blk_cell H3c.out 0, blk_cell H3c.out 1, blk_cell H3c.out 2, blk_cell H3c.out 3⟩ (fun hHeld => ?_)
  clear hK K
  refine norm_ (a' := ?_) ?_ ?_
  rotate_left
  · show Act.put _ (some 12) _ = _
    simp only [Act.put, List.setIfInBounds_toArray, List.set_cons_zero, List.set_cons_succ, i64_w, i32_w]
    rfl
  have hU := setCells_upd [.string nm, .int .i64 p, .int .i64 q, .slice A2 bs1.length bs1.length] w5 _ 0 H0c.out
  have h3d := hU.other H3c.out (by have h1 := HSQ.out; omega)
  have h1d := hU.other H1c.out (by omega)
  have hbd := hU.below HBc.out (Nat.le_refl _)
  refine last_ (i := 3) (N := none) #[true, true, true, true, false] rfl rfl (by kernel_rfl) (by decide) (fun K hK => ?_)
  refine skip_ (w1 := w5.setCells w.heap.size 0 [.string nm, .int .i64 p, .int .i64 q, .slice A2 bs1.length bs1.length]) (by rfl) rfl (store_ev 24 (.tmp 1) (.tmp 10) rfl w.heap.size 0 _ [.string nm, .int .i64 p, .int .i64 q, .slice A2 bs1.length bs1.length] rfl rfl rfl 24 _ H0c.out size24 (Nat.le_of_ble_eq_true rfl) rfl) ?_
  refine hK.out _ _ ?_
  clear hK K
  have hU2 := setCells_upd [.string nm, .int .i64 p, .int .i64 q, .slice A3 bs1.length bs1.length] (w5.setCells w.heap.size 0 [.string nm, .int .i64 p, .int .i64 q, .slice A2 bs1.length bs1.length]) _ 0 h3d
  refine last_ (i := 4) (N := none) #[true, true, true, true, true] rfl rfl (by kernel_rfl) (by decide) (fun K hK => ?_)
  refine skip_ (w1 := (w5.setCells w.heap.size 0 [.string nm, .int .i64 p, .int .i64 q, .slice A2 bs1.length bs1.length]).setCells w2.heap.size 0 [.string nm, .int .i64 p, .int .i64 q, .slice A3 bs1.length bs1.length]) (by rfl) rfl (store_ev 24 (.tmp 3) (.tmp 12) rfl w2.heap.size 0 _ [.string nm, .int .i64 p, .int .i64 q, .slice A3 bs1.length bs1.length] rfl rfl rfl 24 _ h3d size24 (Nat.le_of_ble_eq_true rfl) rfl) ?_
  refine hK.out _ _ ?_
  clear hK K
  refine done_ (by kernel_rfl) ?_
  refine rebase (P := fun W_ => Exit.inBlock _ _ _ _ W_) (fun W_ => W_.heap[w.heap.size]? = some (.cells #[.string nm, .int .i64 p, .int .i64 q, .slice A2 bs1.length bs1.length] 24 (0, 0)) ∧ W_.heap[w.heap.size + 1]? = some (.cells #[.string (⟨#[]⟩ : ByteArray), .int .i64 0, .int .i64 0, .slice none 0 0] 24 (0, 0)) ∧ W_.heap[w2.heap.size]? = some (.cells #[.string nm, .int .i64 p, .int .i64 q, .slice A3 bs1.length bs1.length] 24 (0, 0)) ∧ Below w.heap.size w W_ ∧ Kd.N k37 37 W_ W1.heap.size (fun k => W1.heap.size + 2 ≤ k ∧ k < w2.heap.size) (.slice A2 bs1.length c2) bs1 ∧ Kd.N k37 37 W_ w.heap.size (fun k => w.heap.size + 2 ≤ k) (.slice A3 bs1.length c3) bs1) ⟨hU2.other hU.blk (by have h1 := HSQ.out; omega), hU2.other h1d (by have h1 := HSQ.out; omega), hU2.blk, hU2.below hbd (by have h1 := HSQ.out; omega), ?m1, ?m2⟩ ?_
  case m1 => exact Kd.N_keep (Kd.N_keep HN2c.out hU.keep (fun k hk => by have h1 := HS.out; omega)) hU2.keep (fun k hk => by omega)
  case m2 => exact Kd.N_lower (Kd.N_mono (Kd.N_keep (Kd.N_keep HN3.out hU.keep (fun k hk => by have h1 := HSQ.out; have h2 : wq.heap.size + 2 ≤ k := hk; omega)) hU2.keep (fun k hk => by have h1 := HSQ.out; have h2 : wq.heap.size + 2 ≤ k := hk; omega)) (fun k hk => by have h1 := HSQ.out; have h2 : wq.heap.size + 2 ≤ k := hk; omega)) (by have h1 := HSQ.out; show w.heap.size ≤ wq.heap.size; omega)
  clear hU hU2 h3d h1d hbd f0 f1 f2 f3 H0q H1q H3q HBq HN2q H0c H1c H3c HBc HN2c HN3 hHeld
  rintro W7 ⟨h0, h1, h3, hB, hN2, hN3⟩
  have H0z := Aside0.mk h0
  have H1z := Aside0.mk h1
  have H3z := Aside0.mk h3
  have HBz := Aside0.mk hB
  have HNy := Aside0.mk hN2
  have HNz := Aside0.mk hN3
  obtain ⟨f0, f1, f2, f3⟩ := box4 h0
  obtain ⟨g0, g1, g2, g3⟩ := box4 h3
  clear h0 h1 h3 hB hN2 hN3
  go_wp2
  rw [rounds_succ]
  go_wp2_with (first | (go_at_call 9; refine (same_calls nm nm p q p q A2 bs1.length bs1 A3 bs1.length bs1 true _ (Kd.N_reads' HNy.out).2.2 (Kd.N_reads' HNz.out).2.2 HK1.out.2.1 rfl (Or.inl ⟨rfl, fun _ _ _ => rfl⟩)).mono ?_; rintro e wp ⟨rfl, hb⟩; have H1p := Aside0.mk (blk_below H1z.out hb); have H3p := Aside0.mk (blk_below H3z.out hb); have HBp := Aside0.mk (below_step HBz.out hb); have HNp := Aside0.mk (Kd.N_below HNz.out hb); clear hb f0 f1 f2 f3 g0 g1 g2 g3; obtain ⟨g0, g1, g2, g3⟩ := box4 H3p.out) | (go_at_call 11; refine (Unreach_calls A3 bs1.length bs1 nm p q e_ (⟨lx, ⟨1, x1, e_, x3⟩⟩ : S37) (⟨ly, ⟨3, y1, y2, y3⟩⟩ : S37) _ (Kd.N_reads' HNp.out).2.2 (Nat.le_refl _) HK1.out HU.out).mono ?_; rintro e w8 ⟨A8, c8, rfl, hc8, hN, hb⟩; have H1v := Aside0.mk (blk_below H1p.out hb); have HBv := Aside0.mk (below_step HBp.out hb); have HNv := Aside0.mk hN; have HCv := Aside0.mk hc8; clear hc8 hN hb g0 g1 g2 g3) | (go_at_call 10; refine (Merge_calls A8 2 lx ly x1 x3 y1 y2 y3 nm p q _ (Kd.N_reads' HNv.out).2.2 (Nat.le_refl _) HXY.out HZ.out).mono ?_; rintro e w9 ⟨A9, c9, rfl, hc9, hN, hb⟩; have H1u := Aside0.mk (blk_below H1v.out hb); have HBu := Aside0.mk (below_step HBv.out hb); have HN9 := Aside0.mk hN; have HC9 := Aside0.mk hc9; have HS9 : Aside0 (w.heap.size + 2 ≤ w8.heap.size) := Aside0.mk (by have h1 := blk_lt H1v.out; omega); clear hc9 hN hb) | ((with_reducible refine gate_store (t := 24) (p := 2) (v := .tmp 15) rfl ?_); refine wpList_upd rfl 24 2 (.tmp 15) rfl rfl (w.heap.size + 1) #[.string nm, .int .i64 p, .int .i64 q, .slice A9 1 1] rfl rfl 24 #[.string (⟨#[]⟩ : ByteArray), .int .i64 0, .int .i64 0, .slice none 0 0] H1u.out size24 rfl rfl ?_; intro W10 hV_; have hV := Aside0.mk hV_; clear hV_))
  refine bodyPost_ret (results_cell_row rfl _ _ (w.heap.size + 1) 24 _ (0, 0) _ rfl hV.out.blk Try.underlying24 rfl size24) rfl ?_
  refine ⟨A9, c9, rfl, HC9.out, ?_, hV.out.below HBu.out (by omega)⟩
  exact Kd.N_lower (Kd.N_mono (Kd.N_keep HN9.out hV.out.keep (fun k hk => by have h1 := HS9.out; omega)) (fun k hk => by have h1 := HS9.out; omega)) (by have h1 := HS9.out; omega)
end Go.Proofs.Ytdndnjpfpelimaa.PG
