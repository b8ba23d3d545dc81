/- Function 10: a block and its only follower become one. -/
import Derived.Test.YtdndnjpfpelimaaApp
import Derived.Test.YtdndnjpfpelimaaUnreach
import Derived.Test.YtdndnjpfpelimaaWithout
import Derived.Test.YtdndnjpfpelimaaNext
import Derived.Test.YtdndnjpfpelimaaPGx0
import Derived.Test.YtdndnjpfpelimaaU
namespace Go.Proofs.Ytdndnjpfpelimaa.PG
open Go.RowKit Go.Proofs.YtdndnjpfpelimaaW.PrintWords Go.Proofs.YtdndnjpfpelimaaW.PrintLast Go.Proofs.YtdndnjpfpelimaaW.PrintMore
attribute [local go_sem] max2_int min2_int max_two min_two max_three min_three max_four min_four   -- for this text's walks alone
set_option linter.unusedVariables false
set_option linter.unusedSimpArgs false
attribute [local go_sem] run_store_complex
theorem hne0 {n : Nat} (g : Nat) (h : n + 2 ≤ g) : n ≠ g := by omega
theorem hne1 {n : Nat} (g : Nat) (h : n + 2 ≤ g) : n + 1 ≠ g := by omega
theorem hle0 {n : Nat} (g : Nat) (h : n + 2 ≤ g) : n ≤ g := by omega
set_option maxHeartbeats 4000000 in
set_option maxRecDepth 100000 in
theorem Merge_calls (A : Option Addr) (c : Nat) (lx ly : List S32) (x1 x3 y1 y2 y3 : Int) (nm : ByteArray) (p q : Int) (w : World) (hr : Kd.C k37 w A 2 [(⟨lx, ⟨1, x1, 1, x3⟩⟩ : S37), (⟨ly, ⟨3, y1, y2, y3⟩⟩ : S37)]) (hc : 2 ≤ c) (hk : NoK [(⟨lx, ⟨1, x1, 1, x3⟩⟩ : S37), (⟨ly, ⟨3, y1, y2, y3⟩⟩ : S37)]) (hk2 : NoK [(⟨lx ++ ly, ⟨3, y1, y2, y3⟩⟩ : S37)]) :
    Calls Try.prog 10 #[.agg #[.string nm, .int .i64 p, .int .i64 q, .slice A 2 c]] w (CopyOut nm p q [(⟨lx ++ ly, ⟨3, y1, y2, y3⟩⟩ : S37)] w) := by
  have HR := Aside0.mk hr
  have HC := Aside0.mk hc
  have HK := Aside0.mk hk
  have HK2 := Aside0.mk hk2
  clear hr hc hk hk2
  have hu24 := Try.underlying24
  have hu37 := Try.underlying37
  have hu35 := Try.underlying35
  go_enter Try.func10, Try.ntmps10
  go_upto_region 1 with (fail)
  refine rebase (P := fun W_ => Code.wp _ _ _ _ W_) (fun W_ => W_.heap[w.heap.size]? = some (.cells #[.string nm, .int .i64 p, .int .i64 q, .slice A 2 c] 24 (0, 0)) ∧ W_.heap[w.heap.size + 1]? = some (.cells #[.string (⟨#[]⟩ : ByteArray), .int .i64 0, .int .i64 0, .slice none 0 0] 24 (0, 0)) ∧ Below w.heap.size w W_ ∧ W_.heap.size = w.heap.size + 2) ⟨new12 _ _ _, new2 _ _ _, below_alloc (below_alloc (Below.refl _ _) _) _, by rw [World.size_alloc, World.size_alloc]⟩ ?_
  rintro W1 ⟨h0, h1, hB, hs⟩
  have H0 := Aside0.mk h0
  have H1 := Aside0.mk h1
  have HB := Aside0.mk hB
  have HS := Aside0.mk hs
  obtain ⟨f0, f1, f2, f3⟩ := box4 h0
  clear h0 h1 hB hs
  go_upto_region 2 with (first | (go_at_call 14; refine (Copy_calls_c A c [(⟨lx, ⟨1, x1, 1, x3⟩⟩ : S37), (⟨ly, ⟨3, y1, y2, y3⟩⟩ : S37)] nm p q _ (Kd.C_below HR.out HB.out) HC.out HK.out).mono ?_; rintro e w2 ⟨A2, c2, rfl, hc2, hN, hB⟩; have H0b := Aside0.mk (blk_below H0.out hB); have H1b := Aside0.mk (blk_below H1.out hB); have HBb := Aside0.mk (below_step HB.out hB); have HNb := Aside0.mk hN; clear hc2 hN hB f0 f1 f2 f3; obtain ⟨g, cap, hA2, hg1, hg2, _⟩ := Kd.N_form HNb.out (by simp); injection hA2 with hA2 _ _; subst hA2) | ((with_reducible refine gate_store (t := 24) (p := 1) (v := .tmp 6) rfl ?_); refine wpList_upd rfl 24 1 (.tmp 6) rfl rfl w.heap.size #[.string nm, .int .i64 p, .int .i64 q, .slice (some ⟨g, 0, none⟩) 2 2] rfl rfl 24 #[.string nm, .int .i64 p, .int .i64 q, .slice A 2 c] H0b.out size24 rfl rfl ?_; intro W2 hV_; have hV := Aside0.mk hV_; clear hV_))
  have HN0 : Aside0 (Kd.N k37c 37 w2 w.heap.size (fun k => w.heap.size + 2 ≤ k) (.slice (some ⟨g, 0, none⟩) 2 c2) [(⟨lx, ⟨1, x1, 1, x3⟩⟩ : S37), (⟨ly, ⟨3, y1, y2, y3⟩⟩ : S37)]) := ⟨Kd.N_lower (Kd.N_mono HNb.out (fun k hk => by have h1 := HS.out; omega)) (by have h1 := HS.out; omega)⟩
  have GG : Aside0 (w.heap.size + 2 ≤ g) := ⟨HN0.out.1 g (by simp [Value.ownBlock])⟩
  refine rebase (P := fun W_ => Code.wp _ _ _ _ W_) (fun W_ => W_.heap[w.heap.size]? = some (.cells #[.string nm, .int .i64 p, .int .i64 q, .slice (some ⟨g, 0, none⟩) 2 2] 24 (0, 0)) ∧ W_.heap[w.heap.size + 1]? = some (.cells #[.string (⟨#[]⟩ : ByteArray), .int .i64 0, .int .i64 0, .slice none 0 0] 24 (0, 0)) ∧ Below w.heap.size w W_ ∧ Kd.N k37c 37 W_ w.heap.size (fun k => w.heap.size + 2 ≤ k) (.slice (some ⟨g, 0, none⟩) 2 c2) [(⟨lx, ⟨1, x1, 1, x3⟩⟩ : S37), (⟨ly, ⟨3, y1, y2, y3⟩⟩ : S37)]) ⟨hV.out.blk, hV.out.other H1b.out (by omega), hV.out.below HBb.out (Nat.le_refl _), Kd.N_keep HN0.out hV.out.keep (fun k hk => by omega)⟩ ?_
  clear hV H0b H1b HBb HNb hg1 hg2 H0 H1 HB HS HN0
  rintro W3 ⟨h0, h1, hB, hN⟩
  have H0 := Aside0.mk h0
  have H1 := Aside0.mk h1
  have HB := Aside0.mk hB
  have HN := Aside0.mk hN
  obtain ⟨f0, f1, f2, f3⟩ := box4 h0
  clear h0 h1 hB hN
  go_wp2_with (go_at_call 17; refine (next2_calls (some ⟨g, 0, none⟩) 2 lx ly x1 x3 y1 y2 y3 nm p q _ (Kd.N_reads' (N_unclip HN.out)).2.2).mono ?_; rintro e w4 ⟨rfl, hb⟩; have H0b := Aside0.mk (blk_below H0.out hb); have H1b := Aside0.mk (blk_below H1.out hb); have HBb := Aside0.mk (below_step HB.out hb); have HNb := Aside0.mk (Kd.N_below HN.out hb); clear hb f0 f1 f2 f3)
  clear H0 H1 HB HN
  refine wp_loop_rounds 2 ?_
  rw [rounds_succ]
  obtain ⟨f0, f1, f2, f3⟩ := box4 H0b.out
  obtain ⟨A0, hF0, hA0, z0, z1, z2, z3, z4, _⟩ := row_at_c HNb.out 0 (by decide) (by decide) (l := lx) (t := ⟨1, x1, 1, x3⟩) rfl
  obtain ⟨A1, hF1, hA1, v0, v1, v2, v3, v4, _⟩ := row_at_c HNb.out 1 (by decide) (by decide) (l := ly) (t := ⟨3, y1, y2, y3⟩) rfl
  dsimp only at z1 z2 z3 z4 v1 v2 v3 v4
  simp only [Int.toNat_zero, Nat.zero_mul, Nat.zero_add] at z0 z1 z2 z3 z4
  have e5 : (1 : Int).toNat * 5 = 5 := rfl
  simp only [e5] at v0 v1 v2 v3 v4
  obtain ⟨A9, c9, W9, hle9, hap, hgr, hF9⟩ := append_ins (W := w4.drew) ly.length 33 (Kd.F_drew hF0) (Kd.F_drew hF1) hA0 (by have h1 := HK2.out.2.2 (⟨lx ++ ly, ⟨3, y1, y2, y3⟩⟩ : S37) (by simp); simpa using h1)
  have hle9' : lx.length + ly.length ≤ c9 := by simpa using hle9
  have HLE := Aside0.mk hle9
  have HGR := Aside0.mk hgr
  have HF9 := Aside0.mk hF9
  have HN9 := Aside0.mk (Kd.N_grown (Kd.N_drew (N_unclip HNb.out)) hgr (fun k hk he => by cases he))
  have H09 := Aside0.mk (blk_grown (w := w4.drew) H0b.out hgr (by simp))
  have H19 := Aside0.mk (blk_grown (w := w4.drew) H1b.out hgr (by simp))
  have HB9 : Aside0 (Below w.heap.size w W9) := ⟨(below_drew1 HBb.out).grown hgr (below_drew1 HBb.out).size (fun k hk => by cases hk)⟩
  have HC9 : Aside0 (W9.cell? ⟨g, 0, none⟩ = some (.slice A0 lx.length lx.length) ∧ W9.cell? ⟨g, 5, none⟩ = some (.slice A1 ly.length ly.length)) := ⟨(World.cell?_of_block (w := w4.drew) (a := ⟨g, 0, none⟩) (hgr.block g (World.block_lt_of_cell? w4 _ z0) (by simp))).trans z0, (World.cell?_of_block (w := w4.drew) (a := ⟨g, 5, none⟩) (hgr.block g (World.block_lt_of_cell? w4 _ v0) (by simp))).trans v0⟩
  have HW4 : Aside0 (w.heap.size + 2 ≤ w4.heap.size ∧ g < w4.heap.size) := ⟨by have h1 := blk_lt H1b.out; omega, Kd.N_lt HNb.out g (by simp [Value.ownBlock])⟩
  clear hF0 hF1 hle9 hle9' hgr hF9 hA0 hA1 e5
  go_wp2
  refine start_ (n := 19) (S := fun w' => w'.cell? ⟨w.heap.size, 3, none⟩ = some (.slice (some ⟨g, 0, none⟩) 2 2) ∧ w'.cell? ⟨g, 0, none⟩ = some (.slice A0 lx.length lx.length) ∧ w'.cell? ⟨g, 5, none⟩ = some (.slice A1 ly.length ly.length)) (ds := [18]) #[false, false, false, false, false, false, false, false, false, false, false, false, false, false, false, false, false, false, false] (by kernel_rfl) rfl rfl ⟨f3, z0, v0⟩ (fun hHeld => ?_)
  refine pure_ (i := 0) (N := some 20) (v := ?_) (a' := ?_) #[true, false, false, false, false, false, false, false, false, false, false, false, false, false, false, false, false, false, false] rfl rfl (by kernel_rfl) (fun _ _ _ h => h) (Or.inl ⟨by rfl, ?_⟩) ?_ ?_
  rotate_left
  · intro w'
    go_simp
    with_reducible rfl
  rotate_left
  · simp only [Act.put, List.setIfInBounds_toArray, List.set_cons_zero, List.set_cons_succ, i64_w, i32_w]
    rfl
  refine pure_ (i := 2) (N := some 22) (v := ?_) (a' := ?_) #[true, false, true, false, false, false, false, false, false, false, false, false, false, false, false, false, false, false, false] rfl rfl (by kernel_rfl) (fun _ _ _ h => h) (Or.inl ⟨by rfl, ?_⟩) ?_ ?_
  rotate_left
  · intro w'
    go_simp
    with_reducible rfl
  rotate_left
  · simp only [Act.put, List.setIfInBounds_toArray, List.set_cons_zero, List.set_cons_succ, i64_w, i32_w]
    rfl
  refine pure_ (i := 3) (N := some 23) (v := ?_) (a' := ?_) #[true, false, true, true, false, false, false, false, false, false, false, false, false, false, false, false, false, false, false] rfl rfl (by kernel_rfl) (fun _ _ _ h => h) (Or.inl ⟨by rfl, ?_⟩) ?_ ?_
  rotate_left
  · intro w'
    go_simp
    with_reducible rfl
  rotate_left
  · simp only [Act.put, List.setIfInBounds_toArray, List.set_cons_zero, List.set_cons_succ, i64_w, i32_w]
    rfl
  refine pure_ (i := 5) (N := some 25) (v := ?_) (a' := ?_) #[true, false, true, true, false, true, false, false, false, false, false, false, false, false, false, false, false, false, false] rfl rfl (by kernel_rfl) (fun _ _ _ h => h) (Or.inl ⟨by rfl, ?_⟩) ?_ ?_
  rotate_left
  · intro w'
    go_simp
    with_reducible rfl
  rotate_left
  · simp only [Act.put, List.setIfInBounds_toArray, List.set_cons_zero, List.set_cons_succ, i64_w, i32_w]
    rfl
  refine pure_ (i := 9) (N := some 29) (v := ?_) (a' := ?_) #[true, false, true, true, false, true, false, false, false, true, false, false, false, false, false, false, false, false, false] rfl rfl (by kernel_rfl) (fun _ _ _ h => h) (Or.inl ⟨by rfl, ?_⟩) ?_ ?_
  rotate_left
  · intro w'
    go_simp
    with_reducible rfl
  rotate_left
  · simp only [Act.put, List.setIfInBounds_toArray, List.set_cons_zero, List.set_cons_succ, i64_w, i32_w]
    rfl
  refine pure_ (i := 11) (N := some 31) (v := ?_) (a' := ?_) #[true, false, true, true, false, true, false, false, false, true, false, true, false, false, false, false, false, false, false] rfl rfl (by kernel_rfl) (fun _ _ _ h => h) (Or.inl ⟨by rfl, ?_⟩) ?_ ?_
  rotate_left
  · intro w'
    go_simp
    with_reducible rfl
  rotate_left
  · simp only [Act.put, List.setIfInBounds_toArray, List.set_cons_zero, List.set_cons_succ, i64_w, i32_w]
    rfl
  refine take_ (i := 1) (N := some 21) (v := ?_) (a' := ?_) #[true, true, true, true, false, true, false, false, false, true, false, true, false, false, false, false, false, false, false] rfl rfl (by kernel_rfl) (fun _ _ _ h => h) (Or.inl ⟨by rfl, ?_⟩) hHeld ?_ ?_
  rotate_left
  · rintro w' ⟨s0, s1, s2⟩
    go_simp
    with_reducible rfl
  rotate_left
  · simp only [Act.put, List.setIfInBounds_toArray, List.set_cons_zero, List.set_cons_succ, i64_w, i32_w]
    rfl
  refine take_ (i := 4) (N := some 24) (v := ?_) (a' := ?_) #[true, true, true, true, true, true, false, false, false, true, false, true, false, false, false, false, false, false, false] rfl rfl (by kernel_rfl) (fun _ _ _ h => h) (Or.inl ⟨by rfl, ?_⟩) hHeld ?_ ?_
  rotate_left
  · rintro w' ⟨s0, s1, s2⟩
    go_simp
    with_reducible rfl
  rotate_left
  · simp only [Act.put, List.setIfInBounds_toArray, List.set_cons_zero, List.set_cons_succ, i64_w, i32_w]
    rfl
  refine take_ (i := 10) (N := some 30) (v := ?_) (a' := ?_) #[true, true, true, true, true, true, false, false, false, true, true, true, false, false, false, false, false, false, false] rfl rfl (by kernel_rfl) (fun _ _ _ h => h) (Or.inl ⟨by rfl, ?_⟩) hHeld ?_ ?_
  rotate_left
  · rintro w' ⟨s0, s1, s2⟩
    go_simp
    with_reducible rfl
  rotate_left
  · simp only [Act.put, List.setIfInBounds_toArray, List.set_cons_zero, List.set_cons_succ, i64_w, i32_w]
    rfl
  refine pure_ (i := 6) (N := some 26) (v := ?_) (a' := ?_) #[true, true, true, true, true, true, true, false, false, true, true, true, false, false, false, false, false, false, false] rfl rfl (by kernel_rfl) (fun _ _ _ h => h) (Or.inl ⟨by rfl, ?_⟩) ?_ ?_
  rotate_left
  · intro w'
    go_simp
    with_reducible rfl
  rotate_left
  · simp only [Act.put, List.setIfInBounds_toArray, List.set_cons_zero, List.set_cons_succ, i64_w, i32_w]
    rfl
  refine pure_ (i := 7) (N := some 27) (v := ?_) (a' := ?_) #[true, true, true, true, true, true, true, true, false, true, true, true, false, false, false, false, false, false, false] rfl rfl (by kernel_rfl) (fun _ _ _ h => h) (Or.inl ⟨by rfl, ?_⟩) ?_ ?_
  rotate_left
  · intro w'
    go_simp
    with_reducible rfl
  rotate_left
  · simp only [Act.put, List.setIfInBounds_toArray, List.set_cons_zero, List.set_cons_succ, i64_w, i32_w]
    rfl
  refine pure_ (i := 12) (N := some 32) (v := ?_) (a' := ?_) #[true, true, true, true, true, true, true, true, false, true, true, true, true, false, false, false, false, false, false] rfl rfl (by kernel_rfl) (fun _ _ _ h => h) (Or.inl ⟨by rfl, ?_⟩) ?_ ?_
  rotate_left
  · intro w'
    go_simp
    with_reducible rfl
  rotate_left
  · simp only [Act.put, List.setIfInBounds_toArray, List.set_cons_zero, List.set_cons_succ, i64_w, i32_w]
    rfl
  refine pure_ (i := 13) (N := some 33) (v := ?_) (a' := ?_) #[true, true, true, true, true, true, true, true, false, true, true, true, true, true, false, false, false, false, false] rfl rfl (by kernel_rfl) (fun _ _ _ h => h) (Or.inl ⟨by rfl, ?_⟩) ?_ ?_
  rotate_left
  · intro w'
    go_simp
    with_reducible rfl
  rotate_left
  · simp only [Act.put, List.setIfInBounds_toArray, List.set_cons_zero, List.set_cons_succ, i64_w, i32_w]
    rfl
  refine take_ (i := 8) (N := some 28) (v := ?_) (a' := ?_) #[true, true, true, true, true, true, true, true, true, true, true, true, true, true, false, false, false, false, false] rfl rfl (by kernel_rfl) (fun _ _ _ h => h) (Or.inl ⟨by rfl, ?_⟩) hHeld ?_ ?_
  rotate_left
  · rintro w' ⟨s0, s1, s2⟩
    go_simp
    with_reducible rfl
  rotate_left
  · simp only [Act.put, List.setIfInBounds_toArray, List.set_cons_zero, List.set_cons_succ, i64_w, i32_w]
    rfl
  refine take_ (i := 14) (N := some 34) (v := ?_) (a' := ?_) #[true, true, true, true, true, true, true, true, true, true, true, true, true, true, true, false, false, false, false] rfl rfl (by kernel_rfl) (fun _ _ _ h => h) (Or.inl ⟨by rfl, ?_⟩) hHeld ?_ ?_
  rotate_left
  · rintro w' ⟨s0, s1, s2⟩
    go_simp
    with_reducible rfl
  rotate_left
  · simp only [Act.put, List.setIfInBounds_toArray, List.set_cons_zero, List.set_cons_succ, i64_w, i32_w]
    rfl
  refine one_ (i := 15) (N := (some 35)) #[true, true, true, true, true, true, true, true, true, true, true, true, true, true, true, true, false, false, false] rfl rfl (by kernel_rfl) (by decide) (fun K hK => ?_)
  refine value_ (w1 := W9) (v := .slice A9 (lx ++ ly).length c9) (by rfl) rfl (append_ev (.tmp 28) (.tmp 34) 33 33 rfl rfl rfl hap) ?_
  refine hK.out _ _ ⟨blk_cell H09.out 3, HC9.out.1, HC9.out.2⟩ (fun hHeld => ?_)
  clear hK K
  refine norm_ (a' := ?_) ?_ ?_
  rotate_left
  · show Act.put _ (some 35) _ = _
    simp only [Act.put, List.setIfInBounds_toArray, List.set_cons_zero, List.set_cons_succ, i64_w, i32_w]
    rfl
  obtain ⟨_, _, _, _, u0, u1, u2, u3, u4, uf⟩ := row_at HN9.out 0 (by decide) (by decide) (l := lx) (t := ⟨1, x1, 1, x3⟩) rfl
  simp only [Int.toNat_zero, Nat.zero_mul] at u0
  have uf0 := uf 0
  simp only [Int.toNat_zero, Nat.zero_mul, Nat.zero_add] at uf0
  refine pure_ (i := 16) (N := some 36) (v := ?_) (a' := ?_) #[true, true, true, true, true, true, true, true, true, true, true, true, true, true, true, true, true, false, false] rfl rfl (by kernel_rfl) (fun _ _ _ h => h) (Or.inl ⟨by rfl, ?_⟩) ?_ ?_
  rotate_left
  · intro w'
    go_simp
    with_reducible rfl
  rotate_left
  · simp only [Act.put, List.setIfInBounds_toArray, List.set_cons_zero, List.set_cons_succ, i64_w, i32_w]
    rfl
  refine pure_ (i := 17) (N := some 37) (v := ?_) (a' := ?_) #[true, true, true, true, true, true, true, true, true, true, true, true, true, true, true, true, true, true, false] rfl rfl (by kernel_rfl) (fun _ _ _ h => h) (Or.inl ⟨by rfl, ?_⟩) ?_ ?_
  rotate_left
  · intro w'
    go_simp
    with_reducible rfl
  rotate_left
  · simp only [Act.put, List.setIfInBounds_toArray, List.set_cons_zero, List.set_cons_succ, i64_w, i32_w]
    rfl
  refine last_ (i := 18) (N := none) #[true, true, true, true, true, true, true, true, true, true, true, true, true, true, true, true, true, true, true] rfl rfl (by kernel_rfl) (by decide) (fun K hK => ?_)
  refine skip_ (w1 := ?_) (by rfl) rfl ?_ ?_
  rotate_left
  · go_simp
    rfl
  refine hK.out _ _ ?_
  clear hK K
  refine done_ (by kernel_rfl) ?_
  have HN6 : Aside0 (Kd.N k37 37 (W9.setCell ⟨g, 0, none⟩ (.slice A9 (lx.length + ly.length) c9)) w.heap.size (fun k => w.heap.size + 2 ≤ k) (.slice (some ⟨g, 0, none⟩) 2 c2) [(⟨lx ++ ly, ⟨1, x1, 1, x3⟩⟩ : S37), (⟨ly, ⟨3, y1, y2, y3⟩⟩ : S37)]) := ⟨by
    have h9 := row_ins (t := ⟨1, x1, 1, x3⟩) (l := lx) HN9.out 0 (by decide) (by decide) rfl HLE.out HF9.out (fun k hk => by
      rcases hk with hk | hk
      · exact hk
      · have h1 := HW4.out; have h2 : w4.heap.size ≤ k := hk; exact ⟨by omega, by omega⟩)
    rw [List.length_append] at h9
    exact h9⟩
  refine rebase (P := fun W_ => Exit.then _ _ _ _ W_) (fun W_ => W_.heap[w.heap.size]? = some (.cells #[.string nm, .int .i64 p, .int .i64 q, .slice (some ⟨g, 0, none⟩) 2 2] 24 (0, 0)) ∧ W_.heap[w.heap.size + 1]? = some (.cells #[.string (⟨#[]⟩ : ByteArray), .int .i64 0, .int .i64 0, .slice none 0 0] 24 (0, 0)) ∧ Below w.heap.size w W_ ∧ Kd.N k37 37 W_ w.heap.size (fun k => w.heap.size + 2 ≤ k) (.slice (some ⟨g, 0, none⟩) 2 c2) [(⟨lx ++ ly, ⟨1, x1, 1, x3⟩⟩ : S37), (⟨ly, ⟨3, y1, y2, y3⟩⟩ : S37)]) ⟨blk_far H09.out (by have h1 := GG.out; show w.heap.size ≠ g; omega) _, blk_far H19.out (by have h1 := GG.out; show w.heap.size + 1 ≠ g; omega) _, below_set HB9.out (by have h1 := GG.out; omega), HN6.out⟩ ?_
  clear f0 f1 f2 f3 z0 z1 z2 z3 z4 v0 v1 v2 v3 v4 hap HN6 H09 H19 HB9 HC9 HN9 HF9 HGR HNb H0b H1b HBb u0 u1 u2 u3 u4 uf uf0 HLE
  rintro W10 ⟨h0, h1, h2, h3⟩
  have H0 := Aside0.mk h0
  have H1 := Aside0.mk h1
  have HB := Aside0.mk h2
  have HN := Aside0.mk h3
  obtain ⟨f0, f1, f2, f3⟩ := box4 h0
  obtain ⟨A0, c0, _, _, z0, z1, z2, z3, z4, zf⟩ := row_at h3 0 (by decide) (by decide) (l := lx ++ ly) (t := ⟨1, x1, 1, x3⟩) rfl
  obtain ⟨A1, c1, _, _, v0, v1, v2, v3, v4, _⟩ := row_at h3 1 (by decide) (by decide) (l := ly) (t := ⟨3, y1, y2, y3⟩) rfl
  dsimp only at z1 z2 z3 z4 v1 v2 v3 v4
  simp only [Int.toNat_zero, Nat.zero_mul, Nat.zero_add] at z0 z1 z2 z3 z4
  have e5 : (1 : Int).toNat * 5 = 5 := rfl
  simp only [e5] at v0 v1 v2 v3 v4
  have zf1 := zf 1
  have zf2 := zf 2
  have zf3 := zf 3
  have zf4 := zf 4
  simp only [Int.toNat_zero, Nat.zero_mul, Nat.zero_add] at zf1 zf2 zf3 zf4
  clear h0 h1 h2 h3 e5 zf
  go_wp2
  refine start_ (n := 12) (S := fun w' => w'.cell? ⟨w.heap.size, 3, none⟩ = some (.slice (some ⟨g, 0, none⟩) 2 2) ∧ w'.cell? ⟨g, 6, none⟩ = some (.int .i64 3) ∧ w'.cell? ⟨g, 7, none⟩ = some (.int .i64 y1) ∧ w'.cell? ⟨g, 8, none⟩ = some (.int .i64 y2) ∧ w'.cell? ⟨g, 9, none⟩ = some (.int .i64 y3)) (ds := [11]) #[false, false, false, false, false, false, false, false, false, false, false, false] (by kernel_rfl) rfl rfl ⟨f3, v1, v2, v3, v4⟩ (fun hHeld => ?_)
  refine pure_ (i := 0) (N := some 38) (v := ?_) (a' := ?_) #[true, false, false, false, false, false, false, false, false, false, false, false] rfl rfl (by kernel_rfl) (fun _ _ _ h => h) (Or.inl ⟨by rfl, ?_⟩) ?_ ?_
  rotate_left
  · intro w'
    go_simp
    with_reducible rfl
  rotate_left
  · simp only [Act.put, List.setIfInBounds_toArray, List.set_cons_zero, List.set_cons_succ, i64_w, i32_w]
    rfl
  refine pure_ (i := 2) (N := some 40) (v := ?_) (a' := ?_) #[true, false, true, false, false, false, false, false, false, false, false, false] rfl rfl (by kernel_rfl) (fun _ _ _ h => h) (Or.inl ⟨by rfl, ?_⟩) ?_ ?_
  rotate_left
  · intro w'
    go_simp
    with_reducible rfl
  rotate_left
  · simp only [Act.put, List.setIfInBounds_toArray, List.set_cons_zero, List.set_cons_succ, i64_w, i32_w]
    rfl
  refine pure_ (i := 3) (N := some 41) (v := ?_) (a' := ?_) #[true, false, true, true, false, false, false, false, false, false, false, false] rfl rfl (by kernel_rfl) (fun _ _ _ h => h) (Or.inl ⟨by rfl, ?_⟩) ?_ ?_
  rotate_left
  · intro w'
    go_simp
    with_reducible rfl
  rotate_left
  · simp only [Act.put, List.setIfInBounds_toArray, List.set_cons_zero, List.set_cons_succ, i64_w, i32_w]
    rfl
  refine pure_ (i := 5) (N := some 43) (v := ?_) (a' := ?_) #[true, false, true, true, false, true, false, false, false, false, false, false] rfl rfl (by kernel_rfl) (fun _ _ _ h => h) (Or.inl ⟨by rfl, ?_⟩) ?_ ?_
  rotate_left
  · intro w'
    go_simp
    with_reducible rfl
  rotate_left
  · simp only [Act.put, List.setIfInBounds_toArray, List.set_cons_zero, List.set_cons_succ, i64_w, i32_w]
    rfl
  refine take_ (i := 1) (N := some 39) (v := ?_) (a' := ?_) #[true, true, true, true, false, true, false, false, false, false, false, false] rfl rfl (by kernel_rfl) (fun _ _ _ h => h) (Or.inl ⟨by rfl, ?_⟩) hHeld ?_ ?_
  rotate_left
  · rintro w' ⟨s0, s1, s2, s3, s4⟩
    go_simp
    with_reducible rfl
  rotate_left
  · simp only [Act.put, List.setIfInBounds_toArray, List.set_cons_zero, List.set_cons_succ, i64_w, i32_w]
    rfl
  refine take_ (i := 4) (N := some 42) (v := ?_) (a' := ?_) #[true, true, true, true, true, true, false, false, false, false, false, false] rfl rfl (by kernel_rfl) (fun _ _ _ h => h) (Or.inl ⟨by rfl, ?_⟩) hHeld ?_ ?_
  rotate_left
  · rintro w' ⟨s0, s1, s2, s3, s4⟩
    go_simp
    with_reducible rfl
  rotate_left
  · simp only [Act.put, List.setIfInBounds_toArray, List.set_cons_zero, List.set_cons_succ, i64_w, i32_w]
    rfl
  refine pure_ (i := 6) (N := some 44) (v := ?_) (a' := ?_) #[true, true, true, true, true, true, true, false, false, false, false, false] rfl rfl (by kernel_rfl) (fun _ _ _ h => h) (Or.inl ⟨by rfl, ?_⟩) ?_ ?_
  rotate_left
  · intro w'
    go_simp
    with_reducible rfl
  rotate_left
  · simp only [Act.put, List.setIfInBounds_toArray, List.set_cons_zero, List.set_cons_succ, i64_w, i32_w]
    rfl
  refine pure_ (i := 7) (N := some 45) (v := ?_) (a' := ?_) #[true, true, true, true, true, true, true, true, false, false, false, false] rfl rfl (by kernel_rfl) (fun _ _ _ h => h) (Or.inl ⟨by rfl, ?_⟩) ?_ ?_
  rotate_left
  · intro w'
    go_simp
    with_reducible rfl
  rotate_left
  · simp only [Act.put, List.setIfInBounds_toArray, List.set_cons_zero, List.set_cons_succ, i64_w, i32_w]
    rfl
  refine take_ (i := 8) (N := some 46) (v := ?_) (a' := ?_) #[true, true, true, true, true, true, true, true, true, false, false, false] rfl rfl (by kernel_rfl) (fun _ _ _ h => h) (Or.inl ⟨by rfl, ?_⟩) hHeld ?_ ?_
  rotate_left
  · rintro w' ⟨s0, s1, s2, s3, s4⟩
    go_simp
    with_reducible rfl
  rotate_left
  · simp only [Act.put, List.setIfInBounds_toArray, List.set_cons_zero, List.set_cons_succ, i64_w, i32_w]
    rfl
  refine pure_ (i := 9) (N := some 47) (v := ?_) (a' := ?_) #[true, true, true, true, true, true, true, true, true, true, false, false] rfl rfl (by kernel_rfl) (fun _ _ _ h => h) (Or.inl ⟨by rfl, ?_⟩) ?_ ?_
  rotate_left
  · intro w'
    go_simp
    with_reducible rfl
  rotate_left
  · simp only [Act.put, List.setIfInBounds_toArray, List.set_cons_zero, List.set_cons_succ, i64_w, i32_w]
    rfl
  refine pure_ (i := 10) (N := some 48) (v := ?_) (a' := ?_) #[true, true, true, true, true, true, true, true, true, true, true, false] rfl rfl (by kernel_rfl) (fun _ _ _ h => h) (Or.inl ⟨by rfl, ?_⟩) ?_ ?_
  rotate_left
  · intro w'
    go_simp
    with_reducible rfl
  rotate_left
  · simp only [Act.put, List.setIfInBounds_toArray, List.set_cons_zero, List.set_cons_succ, i64_w, i32_w]
    rfl
  have z1d : W10.drew.cell? ⟨g, 1, none⟩ = some (.int .i64 1) := z1
  have z2d : W10.drew.cell? ⟨g, 2, none⟩ = some (.int .i64 x1) := z2
  have z3d : W10.drew.cell? ⟨g, 3, none⟩ = some (.int .i64 1) := z3
  have z4d : W10.drew.cell? ⟨g, 4, none⟩ = some (.int .i64 x3) := z4
  have zf1d : W10.drew.frozen? ⟨g, 1, none⟩ = false := zf1
  have zf2d : W10.drew.frozen? ⟨g, 2, none⟩ = false := zf2
  have zf3d : W10.drew.frozen? ⟨g, 3, none⟩ = false := zf3
  have zf4d : W10.drew.frozen? ⟨g, 4, none⟩ = false := zf4
  refine last_ (i := 11) (N := none) #[true, true, true, true, true, true, true, true, true, true, true, true] rfl rfl (by kernel_rfl) (by decide) (fun K hK => ?_)
  refine skip_ (w1 := ?_) (by rfl) rfl ?_ ?_
  rotate_left
  · go_simp
    rfl
  refine hK.out _ _ ?_
  clear hK K
  refine done_ (by kernel_rfl) ?_
  refine rebase (P := fun W_ => Exit.then _ _ _ _ W_) (fun W_ => W_.heap[w.heap.size]? = some (.cells #[.string nm, .int .i64 p, .int .i64 q, .slice (some ⟨g, 0, none⟩) 2 2] 24 (0, 0)) ∧ W_.heap[w.heap.size + 1]? = some (.cells #[.string (⟨#[]⟩ : ByteArray), .int .i64 0, .int .i64 0, .slice none 0 0] 24 (0, 0)) ∧ Below w.heap.size w W_ ∧ Kd.N k37 37 W_ w.heap.size (fun k => w.heap.size + 2 ≤ k) (.slice (some ⟨g, 0, none⟩) 2 c2) [(⟨lx ++ ly, ⟨3, y1, y2, y3⟩⟩ : S37), (⟨ly, ⟨3, y1, y2, y3⟩⟩ : S37)]) ⟨blk_far (blk_far (blk_far (blk_far H0.out (hne0 g GG.out) _) (hne0 g GG.out) _) (hne0 g GG.out) _) (hne0 g GG.out) _, blk_far (blk_far (blk_far (blk_far H1.out (hne1 g GG.out) _) (hne1 g GG.out) _) (hne1 g GG.out) _) (hne1 g GG.out) _, below_drew1 (below_set (below_set (below_set (below_set HB.out (hle0 g GG.out)) (hle0 g GG.out)) (hle0 g GG.out)) (hle0 g GG.out)), Kd.N_drew (row_term HN.out 0 (by decide) (by decide) (l := lx ++ ly) (t := ⟨1, x1, 1, x3⟩) rfl ⟨3, y1, y2, y3⟩)⟩ ?_
  clear f0 f1 f2 f3 z0 z1 z2 z3 z4 v0 v1 v2 v3 v4 zf1 zf2 zf3 zf4 z1d z2d z3d z4d zf1d zf2d zf3d zf4d HN H0 H1 HB hHeld
  rintro W11 ⟨h0, h1, h2, h3⟩
  have H0 := Aside0.mk h0
  have H1 := Aside0.mk h1
  have HB := Aside0.mk h2
  have HN := Aside0.mk h3
  clear h0 h1 h2 h3
  go_wp2_with (first | (go_at_call 18; refine (without_calls w.heap.size g w.heap.size c2 (fun k => w.heap.size + 2 ≤ k) nm p q (lx ++ ly) y1 y2 y3 (⟨ly, ⟨3, y1, y2, y3⟩⟩ : S37) _ H0.out HN.out (fun k hk => by omega)).mono ?_; rintro e w12 ⟨rfl, hh0, hh1, hh2, hh3⟩; have H0x := Aside0.mk hh0; have H1x : Aside0 (w12.heap[w.heap.size + 1]? = some (.cells #[.string (⟨#[]⟩ : ByteArray), .int .i64 0, .int .i64 0, .slice none 0 0] 24 (0, 0))) := Aside0.mk ((hh2.2 _ (blk_lt H1.out) (fun h => by have h1 := GG.out; rcases h with h | h <;> omega)).trans H1.out); have HNx := Aside0.mk hh1; have HBx := Aside0.mk (hh3 HB.out (Nat.le_refl _) (by have h1 := GG.out; omega)); obtain ⟨f0, f1, f2, f3⟩ := box4 hh0; clear hh0 hh1 hh2 hh3) | (go_at_call 17; refine (next1_calls (some ⟨g, 0, none⟩) 2 (lx ++ ly) y1 y2 y3 nm p q _ (Kd.N_reads' HNx.out).2.2).mono ?_; rintro e w13 ⟨rfl, hb⟩; have H0y := Aside0.mk (blk_below H0x.out hb); have H1y := Aside0.mk (blk_below H1x.out hb); have HBy := Aside0.mk (below_step HBx.out hb); have HNy := Aside0.mk (Kd.N_below HNx.out hb); obtain ⟨f0, f1, f2, f3⟩ := box4 H0y.out; clear hb))
  rw [rounds_succ]
  go_wp2_with (first | (go_at_call 14; refine (Copy_calls (some ⟨g, 0, none⟩) 2 [(⟨lx ++ ly, ⟨3, y1, y2, y3⟩⟩ : S37)] nm p q _ (Kd.N_reads' HNy.out).2.2 (by simp) HK2.out).mono ?_; rintro e w14 ⟨A7, c7, rfl, hc7, hN, hB⟩; have H1z := Aside0.mk (blk_below H1y.out hB); have HBz := Aside0.mk (below_step HBy.out hB); have HN7 := Aside0.mk hN; have HZ7 := Aside0.mk hc7; have HSZ : Aside0 (w.heap.size + 2 ≤ w13.heap.size) := Aside0.mk (by have h1 := blk_lt H1y.out; omega); clear hc7 hN hB f0 f1 f2 f3) | ((with_reducible refine gate_store (t := 24) (p := 2) (v := .tmp 52) rfl ?_); refine wpList_upd rfl 24 2 (.tmp 52) rfl rfl (w.heap.size + 1) #[.string nm, .int .i64 p, .int .i64 q, .slice A7 1 1] rfl rfl 24 #[.string (⟨#[]⟩ : ByteArray), .int .i64 0, .int .i64 0, .slice none 0 0] H1z.out size24 rfl rfl ?_; intro W15 hV_; have hV := Aside0.mk hV_; clear hV_))
  refine bodyPost_ret (results_cell_row rfl _ _ (w.heap.size + 1) 24 _ (0, 0) _ rfl hV.out.blk Try.underlying24 rfl size24) rfl ?_
  refine ⟨A7, c7, rfl, HZ7.out, ?_, hV.out.below HBz.out (by omega)⟩
  exact Kd.N_lower (Kd.N_mono (Kd.N_keep HN7.out hV.out.keep (fun k hk => by have h1 := HSZ.out; omega)) (fun k hk => by have h1 := HSZ.out; omega)) (by have h1 := HSZ.out; omega)
end Go.Proofs.Ytdndnjpfpelimaa.PG
