/- Function 6 on two rows of blocks that read alike: true. -/
import Derived.Test.YtdndnjpfpelimaaPGx1
import Derived.Test.YtdndnjpfpelimaaUnreach
import Derived.Test.YtdndnjpfpelimaaSameIns
import Derived.Test.YtdndnjpfpelimaaPGx0
import Derived.Test.YtdndnjpfpelimaaU
namespace Go.Proofs.Ytdndnjpfpelimaa.PG
open Go.RowKit Go.Proofs.YtdndnjpfpelimaaW.PrintWords Go.Proofs.YtdndnjpfpelimaaW.PrintLast Go.Proofs.YtdndnjpfpelimaaW.PrintMore
attribute [local go_sem] max2_int min2_int max_two min_two max_three min_three max_four min_four   -- for this text's walks alone
set_option linter.unusedVariables false
set_option linter.unusedSimpArgs false
attribute [local go_sem] run_store_complex
attribute [local go_sem high] eqA35
set_option maxHeartbeats 4000000 in
set_option maxRecDepth 100000 in
theorem SameFn_calls (nm : ByteArray) (p q : Int) (A : Option Addr) (c : Nat) (xs : List S37) (B : Option Addr) (d : Nat) (w : World) (hr : Kd.C k37 w A xs.length xs) (hr2 : Kd.C k37 w B xs.length xs) (hk : NoK xs) :
    Calls Try.prog 6 #[.agg #[.string nm, .int .i64 p, .int .i64 q, .slice A xs.length c], .agg #[.string nm, .int .i64 p, .int .i64 q, .slice B xs.length d]] w fun e w' => e = .returned (.bool true) ∧ Below w.heap.size w w' := by
  have HR := Aside0.mk hr
  have HR2 := Aside0.mk hr2
  have HK := Aside0.mk hk
  clear hr hr2 hk
  have hu24 := Try.underlying24
  have hu37 := Try.underlying37
  have hu35 := Try.underlying35
  have hu32 := Try.underlying32
  go_enter Try.func6, Try.ntmps6
  go_wp2
  refine rebase (P := fun W_ => Code.wp _ _ _ _ W_) (fun W_ => W_.heap[w.heap.size]? = some (.cells #[.string nm, .int .i64 p, .int .i64 q, .slice A xs.length c] 24 (0, 0)) ∧ W_.heap[w.heap.size + 1]? = some (.cells #[.string nm, .int .i64 p, .int .i64 q, .slice B xs.length d] 24 (0, 0)) ∧ Below w.heap.size w W_) ⟨new12 _ _ _, new2 _ _ _, below_alloc (below_alloc (Below.refl _ _) _) _⟩ ?_
  rintro W1 ⟨h0, h1, hB⟩
  have H0 := Aside0.mk h0
  have H1 := Aside0.mk h1
  have HB := Aside0.mk hB
  clear h0 h1 hB
  go_loopg [5] xs.length (fun kq v5 w' => ∃ i : Int, v5 = .int .i64 i ∧ Aside0 (0 ≤ i ∧ i + kq = xs.length) ∧ Aside0 (Below W1.heap.size W1 w'))
  case atStart => exact ⟨0, rfl, ⟨by omega, by simp⟩, ⟨Below.refl _ _⟩⟩
  case round =>
    obtain ⟨i, rfl, HI, HW⟩ := hrel
    obtain ⟨ko, rfl⟩ : ∃ ko : Nat, ko = gk := ⟨_, rfl⟩
    have h0 := blk_below H0.out HW.out
    have h1 := blk_below H1.out HW.out
    by_cases hi : i < (xs.length : Int)
    · have hib : decide (i < (xs.length : Int)) = true := decide_eq_true hi
      have hi0 := HI.out.1
      obtain ⟨ad, A0, c0, rfl, x0, x1, x2, x3, x4, _, hC0⟩ := at_T37 HR.out i hi0 hi
      obtain ⟨ad2, B0, d0, rfl, y0, y1, y2, y3, y4, _, hC1⟩ := at_T37 HR2.out i hi0 hi
      have hbz : (∀ x ∈ (rd_T37 xs i).f0, x.f6 = z29) ∧ (rd_T37 xs i).f0.length < 1000 := ⟨HK.out.1 _ (rd37_mem xs i hi0 hi), HK.out.2.2 _ (rd37_mem xs i hi0 hi)⟩
      generalize rd_T37 xs i = b at x0 x1 x2 x3 x4 y0 y1 y2 y3 y4 hC0 hC1 hbz
      obtain ⟨l, b0, b1, b2, b3⟩ := b
      dsimp only at x0 x1 x2 x3 x4 y0 y1 y2 y3 y4 hC0 hC1 hbz
      have HC0 := Aside0.mk hC0
      have HC1 := Aside0.mk hC1
      have HBZ := Aside0.mk hbz
      have hb := below_step HB.out HW.out
      replace x0 := (hb.cell (World.block_lt_of_cell? w _ x0)).trans x0
      replace x1 := (hb.cell (World.block_lt_of_cell? w _ x1)).trans x1
      replace x2 := (hb.cell (World.block_lt_of_cell? w _ x2)).trans x2
      replace x3 := (hb.cell (World.block_lt_of_cell? w _ x3)).trans x3
      replace x4 := (hb.cell (World.block_lt_of_cell? w _ x4)).trans x4
      replace y0 := (hb.cell (World.block_lt_of_cell? w _ y0)).trans y0
      replace y1 := (hb.cell (World.block_lt_of_cell? w _ y1)).trans y1
      replace y2 := (hb.cell (World.block_lt_of_cell? w _ y2)).trans y2
      replace y3 := (hb.cell (World.block_lt_of_cell? w _ y3)).trans y3
      replace y4 := (hb.cell (World.block_lt_of_cell? w _ y4)).trans y4
      have f3 : wr.cell? ⟨w.heap.size, 3, none⟩ = some (.slice (some ad) xs.length c) := blk_cell h0 3
      have h3 : wr.cell? ⟨w.heap.size + 1, 3, none⟩ = some (.slice (some ad2) xs.length d) := blk_cell h1 3
      have HWS := Aside0.mk (wrapS hi0 hi (by have h1 := HK.out.2.1; omega))
      have HII := Aside0.mk hi
      have hi0t := eq_true hi0
      have hi1t := eq_true hi
      have HSB : Aside0 (∀ W, Below wr.heap.size wr W → (fun w' => w'.cell? ⟨w.heap.size, 3, none⟩ = some (.slice (some ad) xs.length c) ∧ w'.cell? ⟨w.heap.size + 1, 3, none⟩ = some (.slice (some ad2) xs.length d) ∧ w'.cell? (ad.add (i.toNat * 5)) = some (.slice A0 l.length c0) ∧ w'.cell? ⟨(ad.add (i.toNat * 5)).block, (ad.add (i.toNat * 5)).off + 1, none⟩ = some (.int .i64 b0) ∧ w'.cell? ⟨(ad.add (i.toNat * 5)).block, (ad.add (i.toNat * 5)).off + 2, none⟩ = some (.int .i64 b1) ∧ w'.cell? ⟨(ad.add (i.toNat * 5)).block, (ad.add (i.toNat * 5)).off + 3, none⟩ = some (.int .i64 b2) ∧ w'.cell? ⟨(ad.add (i.toNat * 5)).block, (ad.add (i.toNat * 5)).off + 4, none⟩ = some (.int .i64 b3) ∧ w'.cell? (ad2.add (i.toNat * 5)) = some (.slice B0 l.length d0) ∧ w'.cell? ⟨(ad2.add (i.toNat * 5)).block, (ad2.add (i.toNat * 5)).off + 1, none⟩ = some (.int .i64 b0) ∧ w'.cell? ⟨(ad2.add (i.toNat * 5)).block, (ad2.add (i.toNat * 5)).off + 2, none⟩ = some (.int .i64 b1) ∧ w'.cell? ⟨(ad2.add (i.toNat * 5)).block, (ad2.add (i.toNat * 5)).off + 3, none⟩ = some (.int .i64 b2) ∧ w'.cell? ⟨(ad2.add (i.toNat * 5)).block, (ad2.add (i.toNat * 5)).off + 4, none⟩ = some (.int .i64 b3)) W) := ⟨fun W h => ⟨(h.cell (World.block_lt_of_cell? wr _ f3)).trans f3, (h.cell (World.block_lt_of_cell? wr _ h3)).trans h3, (h.cell (World.block_lt_of_cell? wr _ x0)).trans x0, (h.cell (World.block_lt_of_cell? wr _ x1)).trans x1, (h.cell (World.block_lt_of_cell? wr _ x2)).trans x2, (h.cell (World.block_lt_of_cell? wr _ x3)).trans x3, (h.cell (World.block_lt_of_cell? wr _ x4)).trans x4, (h.cell (World.block_lt_of_cell? wr _ y0)).trans y0, (h.cell (World.block_lt_of_cell? wr _ y1)).trans y1, (h.cell (World.block_lt_of_cell? wr _ y2)).trans y2, (h.cell (World.block_lt_of_cell? wr _ y3)).trans y3, (h.cell (World.block_lt_of_cell? wr _ y4)).trans y4⟩⟩
      clear hC0 hC1 hbz hb hi hi0 h0 h1
      go_wp2
      refine start_ (n := 14) (S := fun w' => w'.cell? ⟨w.heap.size, 3, none⟩ = some (.slice (some ad) xs.length c) ∧ w'.cell? ⟨w.heap.size + 1, 3, none⟩ = some (.slice (some ad2) xs.length d) ∧ w'.cell? (ad.add (i.toNat * 5)) = some (.slice A0 l.length c0) ∧ w'.cell? ⟨(ad.add (i.toNat * 5)).block, (ad.add (i.toNat * 5)).off + 1, none⟩ = some (.int .i64 b0) ∧ w'.cell? ⟨(ad.add (i.toNat * 5)).block, (ad.add (i.toNat * 5)).off + 2, none⟩ = some (.int .i64 b1) ∧ w'.cell? ⟨(ad.add (i.toNat * 5)).block, (ad.add (i.toNat * 5)).off + 3, none⟩ = some (.int .i64 b2) ∧ w'.cell? ⟨(ad.add (i.toNat * 5)).block, (ad.add (i.toNat * 5)).off + 4, none⟩ = some (.int .i64 b3) ∧ w'.cell? (ad2.add (i.toNat * 5)) = some (.slice B0 l.length d0) ∧ w'.cell? ⟨(ad2.add (i.toNat * 5)).block, (ad2.add (i.toNat * 5)).off + 1, none⟩ = some (.int .i64 b0) ∧ w'.cell? ⟨(ad2.add (i.toNat * 5)).block, (ad2.add (i.toNat * 5)).off + 2, none⟩ = some (.int .i64 b1) ∧ w'.cell? ⟨(ad2.add (i.toNat * 5)).block, (ad2.add (i.toNat * 5)).off + 3, none⟩ = some (.int .i64 b2) ∧ w'.cell? ⟨(ad2.add (i.toNat * 5)).block, (ad2.add (i.toNat * 5)).off + 4, none⟩ = some (.int .i64 b3)) (ds := [13]) #[false, false, false, false, false, false, false, false, false, false, false, false, false, false] (by kernel_rfl) rfl rfl ⟨f3, h3, x0, x1, x2, x3, x4, y0, y1, y2, y3, y4⟩ (fun hHeld => ?_)
      refine pure_ (i := 0) (N := some 44) (v := ?_) (a' := ?_) #[true, false, false, false, false, false, false, false, false, false, false, false, false, false] rfl rfl (by kernel_rfl) (fun _ _ _ h => h) (Or.inl ⟨by rfl, ?_⟩) ?_ ?_
      rotate_left
      · intro w'
        go_simp
        with_reducible rfl
      rotate_left
      · simp only [Act.put, List.setIfInBounds_toArray, List.set_cons_zero, List.set_cons_succ, i64_w, i32_w]
        rfl
      refine pure_ (i := 2) (N := some 46) (v := ?_) (a' := ?_) #[true, false, true, false, false, false, false, false, false, false, false, false, false, false] rfl rfl (by kernel_rfl) (fun _ _ _ h => h) (Or.inl ⟨by rfl, ?_⟩) ?_ ?_
      rotate_left
      · intro w'
        go_simp
        with_reducible rfl
      rotate_left
      · simp only [Act.put, List.setIfInBounds_toArray, List.set_cons_zero, List.set_cons_succ, i64_w, i32_w]
        rfl
      refine pure_ (i := 5) (N := some 49) (v := ?_) (a' := ?_) #[true, false, true, false, false, true, false, false, false, false, false, false, false, false] rfl rfl (by kernel_rfl) (fun _ _ _ h => h) (Or.inl ⟨by rfl, ?_⟩) ?_ ?_
      rotate_left
      · intro w'
        go_simp
        with_reducible rfl
      rotate_left
      · simp only [Act.put, List.setIfInBounds_toArray, List.set_cons_zero, List.set_cons_succ, i64_w, i32_w]
        rfl
      refine pure_ (i := 7) (N := some 51) (v := ?_) (a' := ?_) #[true, false, true, false, false, true, false, true, false, false, false, false, false, false] rfl rfl (by kernel_rfl) (fun _ _ _ h => h) (Or.inl ⟨by rfl, ?_⟩) ?_ ?_
      rotate_left
      · intro w'
        go_simp
        with_reducible rfl
      rotate_left
      · simp only [Act.put, List.setIfInBounds_toArray, List.set_cons_zero, List.set_cons_succ, i64_w, i32_w]
        rfl
      refine take_ (i := 1) (N := some 45) (v := ?_) (a' := ?_) #[true, true, true, false, false, true, false, true, false, false, false, false, false, false] rfl rfl (by kernel_rfl) (fun _ _ _ h => h) (Or.inl ⟨by rfl, ?_⟩) hHeld ?_ ?_
      rotate_left
      · rintro w' ⟨s0, s1, s2, s3, s4, s5, s6, s7, s8, s9, s10, s11⟩
        go_simp
        with_reducible rfl
      rotate_left
      · simp only [Act.put, List.setIfInBounds_toArray, List.set_cons_zero, List.set_cons_succ, i64_w, i32_w]
        rfl
      refine take_ (i := 6) (N := some 50) (v := ?_) (a' := ?_) #[true, true, true, false, false, true, true, true, false, false, false, false, false, false] rfl rfl (by kernel_rfl) (fun _ _ _ h => h) (Or.inl ⟨by rfl, ?_⟩) hHeld ?_ ?_
      rotate_left
      · rintro w' ⟨s0, s1, s2, s3, s4, s5, s6, s7, s8, s9, s10, s11⟩
        go_simp
        with_reducible rfl
      rotate_left
      · simp only [Act.put, List.setIfInBounds_toArray, List.set_cons_zero, List.set_cons_succ, i64_w, i32_w]
        rfl
      refine pure_ (i := 3) (N := some 47) (v := ?_) (a' := ?_) #[true, true, true, true, false, true, true, true, false, false, false, false, false, false] rfl rfl (by kernel_rfl) (fun _ _ _ h => h) (Or.inl ⟨by rfl, ?_⟩) ?_ ?_
      rotate_left
      · intro w'
        go_simp
        with_reducible rfl
      rotate_left
      · simp only [Act.put, List.setIfInBounds_toArray, List.set_cons_zero, List.set_cons_succ, i64_w, i32_w]
        rfl
      refine pure_ (i := 8) (N := some 52) (v := ?_) (a' := ?_) #[true, true, true, true, false, true, true, true, true, false, false, false, false, false] rfl rfl (by kernel_rfl) (fun _ _ _ h => h) (Or.inl ⟨by rfl, ?_⟩) ?_ ?_
      rotate_left
      · intro w'
        go_simp
        with_reducible rfl
      rotate_left
      · simp only [Act.put, List.setIfInBounds_toArray, List.set_cons_zero, List.set_cons_succ, i64_w, i32_w]
        rfl
      refine take_ (i := 4) (N := some 48) (v := ?_) (a' := ?_) #[true, true, true, true, true, true, true, true, true, false, false, false, false, false] rfl rfl (by kernel_rfl) (fun _ _ _ h => h) (Or.inl ⟨by rfl, ?_⟩) hHeld ?_ ?_
      rotate_left
      · rintro w' ⟨s0, s1, s2, s3, s4, s5, s6, s7, s8, s9, s10, s11⟩
        go_simp
        with_reducible rfl
      rotate_left
      · simp only [Act.put, List.setIfInBounds_toArray, List.set_cons_zero, List.set_cons_succ, i64_w, i32_w]
        rfl
      refine take_ (i := 9) (N := some 53) (v := ?_) (a' := ?_) #[true, true, true, true, true, true, true, true, true, true, false, false, false, false] rfl rfl (by kernel_rfl) (fun _ _ _ h => h) (Or.inl ⟨by rfl, ?_⟩) hHeld ?_ ?_
      rotate_left
      · rintro w' ⟨s0, s1, s2, s3, s4, s5, s6, s7, s8, s9, s10, s11⟩
        go_simp
        with_reducible rfl
      rotate_left
      · simp only [Act.put, List.setIfInBounds_toArray, List.set_cons_zero, List.set_cons_succ, i64_w, i32_w]
        rfl
      refine join_ (σ := Nat × Nat) 2 #[true, true, true, true, true, true, true, true, true, true, true, true, false, false] (fun s => [(6, .pointer (some ⟨s.1, 0, none⟩)), (7, .pointer (some ⟨s.2, 0, none⟩))]) (fun s w' => w'.heap[s.1]? = some (.cells #[.slice none 0 0, .int .i64 0, .int .i64 0, .int .i64 0, .int .i64 0] 37 (0, 0)) ∧ w'.heap[s.2]? = some (.cells #[.slice none 0 0, .int .i64 0, .int .i64 0, .int .i64 0, .int .i64 0] 37 (0, 0)) ∧ s.1 ≠ s.2 ∧ wr.heap.size ≤ s.1 ∧ wr.heap.size ≤ s.2 ∧ Below wr.heap.size wr w') ?_ ?_
      rotate_left
      · intro hjoin
        refine two_ (i := 10) (j := 11) (Ni := some 6) (Nj := some 7) #[true, true, true, true, true, true, true, true, true, true, true, false, false, false] #[true, true, true, true, true, true, true, true, true, true, false, true, false, false] rfl rfl rfl rfl (by kernel_rfl) (by decide) (by decide) ?_ ?_
        · intro K hK
          refine value_ (w1 := ?_) (v := ?_) (by rfl) rfl ?_ ?_
          rotate_left 2
          · go_simp
            constructor
            · rfl
            · rfl
          refine hK.out _ _ (HSB.out _ (below_alloc (below_drew (Below.refl _ _)) _)) (fun hHeld => ?_)
          clear hK K
          refine norm_ (a' := ?_) ?_ ?_
          rotate_left
          · show Act.put _ (some 6) _ = _
            simp only [Act.put, List.setIfInBounds_toArray, List.set_cons_zero, List.set_cons_succ, i64_w, i32_w]
            rfl
          refine one_ (i := 11) (N := some 7) #[true, true, true, true, true, true, true, true, true, true, true, true, false, false] rfl rfl (by kernel_rfl) (by decide) (fun K hK => ?_)
          refine value_ (w1 := ?_) (v := ?_) (by rfl) rfl ?_ ?_
          rotate_left 2
          · go_simp
            constructor
            · rfl
            · rfl
          refine hK.out _ _ (HSB.out _ (below_alloc (below_alloc (below_drew (Below.refl _ _)) _) _)) (fun hHeld => ?_)
          clear hK K
          refine norm_ (a' := ?_) ?_ ?_
          rotate_left
          · show Act.put _ (some 7) _ = _
            simp only [Act.put, List.setIfInBounds_toArray, List.set_cons_zero, List.set_cons_succ, i64_w, i32_w]
            rfl
          exact hjoin (wr.heap.size, wr.heap.size + 1) _ ⟨new12 wr.drew _ _, new2 wr.drew _ _, by simp, Nat.le_refl _, Nat.le_succ _, below_alloc (below_alloc (below_drew (Below.refl _ _)) _) _⟩
        · intro K hK
          refine value_ (w1 := ?_) (v := ?_) (by rfl) rfl ?_ ?_
          rotate_left 2
          · go_simp
            constructor
            · rfl
            · rfl
          refine hK.out _ _ (HSB.out _ (below_alloc (below_drew (Below.refl _ _)) _)) (fun hHeld => ?_)
          clear hK K
          refine norm_ (a' := ?_) ?_ ?_
          rotate_left
          · show Act.put _ (some 7) _ = _
            simp only [Act.put, List.setIfInBounds_toArray, List.set_cons_zero, List.set_cons_succ, i64_w, i32_w]
            rfl
          refine one_ (i := 10) (N := some 6) #[true, true, true, true, true, true, true, true, true, true, true, true, false, false] rfl rfl (by kernel_rfl) (by decide) (fun K hK => ?_)
          refine value_ (w1 := ?_) (v := ?_) (by rfl) rfl ?_ ?_
          rotate_left 2
          · go_simp
            constructor
            · rfl
            · rfl
          refine hK.out _ _ (HSB.out _ (below_alloc (below_alloc (below_drew (Below.refl _ _)) _) _)) (fun hHeld => ?_)
          clear hK K
          refine norm_ (a' := ?_) ?_ ?_
          rotate_left
          · show Act.put _ (some 6) _ = _
            simp only [Act.put, List.setIfInBounds_toArray, List.set_cons_zero, List.set_cons_succ, i64_w, i32_w]
            rfl
          exact hjoin (wr.heap.size + 1, wr.heap.size) _ ⟨new2 wr.drew _ _, new12 wr.drew _ _, by simp, Nat.le_succ _, Nat.le_refl _, below_alloc (below_alloc (below_drew (Below.refl _ _)) _) _⟩
      rintro ⟨g6, g7⟩ w3 ⟨hg6, hg7, hne, hle6, hle7, hbw⟩
      dsimp only at hg6 hg7 hne hle6 hle7
      refine norm_ (a' := ?_) ?_ ?_
      rotate_left
      · show putAll _ _ = _
        simp only [putAll, Act.put, List.setIfInBounds_toArray, List.set_cons_zero, List.set_cons_succ, i64_w, i32_w]
        rfl
      have hU := setCells_upd [.slice A0 l.length c0, .int .i64 b0, .int .i64 b1, .int .i64 b2, .int .i64 b3] w3 _ 0 hg6
      have hb4 := hU.below hbw hle6
      have hg7b := hU.other hg7 (Ne.symm hne)
      refine one_ (i := 12) (N := none) #[true, true, true, true, true, true, true, true, true, true, true, true, true, false] rfl rfl (by kernel_rfl) (by decide) (fun K hK => ?_)
      refine skip_ (w1 := w3.setCells g6 0 [.slice A0 l.length c0, .int .i64 b0, .int .i64 b1, .int .i64 b2, .int .i64 b3]) (by rfl) rfl (store_ev 37 (.tmp 6) (.tmp 48) rfl g6 0 _ [.slice A0 l.length c0, .int .i64 b0, .int .i64 b1, .int .i64 b2, .int .i64 b3] rfl rfl rfl 37 _ hg6 size37 (Nat.le_of_ble_eq_true rfl) rfl) ?_
      refine hK.out _ _ (HSB.out _ hb4) (fun hHeld => ?_)
      clear hK K
      have hU2 := setCells_upd [.slice B0 l.length d0, .int .i64 b0, .int .i64 b1, .int .i64 b2, .int .i64 b3] (w3.setCells g6 0 [.slice A0 l.length c0, .int .i64 b0, .int .i64 b1, .int .i64 b2, .int .i64 b3]) _ 0 hg7b
      have hb5 := hU2.below hb4 hle7
      have hg6b := hU2.other hU.blk hne
      refine last_ (i := 13) (N := none) #[true, true, true, true, true, true, true, true, true, true, true, true, true, true] rfl rfl (by kernel_rfl) (by decide) (fun K hK => ?_)
      refine skip_ (w1 := (w3.setCells g6 0 [.slice A0 l.length c0, .int .i64 b0, .int .i64 b1, .int .i64 b2, .int .i64 b3]).setCells g7 0 [.slice B0 l.length d0, .int .i64 b0, .int .i64 b1, .int .i64 b2, .int .i64 b3]) (by rfl) rfl (store_ev 37 (.tmp 7) (.tmp 53) rfl g7 0 _ [.slice B0 l.length d0, .int .i64 b0, .int .i64 b1, .int .i64 b2, .int .i64 b3] rfl rfl rfl 37 _ hg7b size37 (Nat.le_of_ble_eq_true rfl) rfl) ?_
      refine hK.out _ _ ?_
      clear hK K
      refine rebase (P := fun W_ => wpAnyLast _ _ _ _ _ _ _ _ _ W_) (fun W_ => W_.heap[g6]? = some (.cells #[.slice A0 l.length c0, .int .i64 b0, .int .i64 b1, .int .i64 b2, .int .i64 b3] 37 (0, 0)) ∧ W_.heap[g7]? = some (.cells #[.slice B0 l.length d0, .int .i64 b0, .int .i64 b1, .int .i64 b2, .int .i64 b3] 37 (0, 0)) ∧ Below wr.heap.size wr W_) ⟨hg6b, hU2.blk, hb5⟩ ?_
      clear hU hU2 hb4 hb5 hg6 hg7 hg6b hg7b hbw HSB f3 h3 x0 x1 x2 x3 x4 y0 y1 y2 y3 y4
      rintro W5 ⟨hg6, hg7, hb5⟩
      have HG6 := Aside0.mk hg6
      have HG7 := Aside0.mk hg7
      have HB5 := Aside0.mk hb5
      clear hg6 hg7 hb5
      refine done_ (by kernel_rfl) ?_
      obtain ⟨u0, u1, u2, u3, u4⟩ := box5 HG6.out
      obtain ⟨v0, v1, v2, v3, v4⟩ := box5 HG7.out
      go_wp2
      clear u1 u2 u3 u4 v1 v2 v3 v4 u0 v0
      obtain ⟨wo, rfl⟩ : ∃ wo : World, wo = wr := ⟨_, rfl⟩
      go_loopg [8] l.length (fun kq v8 w' => ∃ j : Int, v8 = .int .i64 j ∧ Aside0 (0 ≤ j ∧ j + kq = l.length) ∧ Aside0 (Below W5.heap.size W5 w'))
      case atStart => exact ⟨0, rfl, ⟨by omega, by simp⟩, ⟨Below.refl _ _⟩⟩
      case round =>
        obtain ⟨j, rfl, HJ, HV⟩ := hrel
        have h6 := blk_below HG6.out HV.out
        have h7 := blk_below HG7.out HV.out
        have u0 : wr.cell? ⟨g6, 0, none⟩ = some (.slice A0 l.length c0) := blk_cell h6 0
        have v0 : wr.cell? ⟨g7, 0, none⟩ = some (.slice B0 l.length d0) := blk_cell h7 0
        by_cases hj : j < (l.length : Int)
        · have hjb : decide (j < (l.length : Int)) = true := decide_eq_true hj
          have hj0 := HJ.out.1
          obtain ⟨ad3, rfl, p0, p1, p2, p3, p4, p5, p6, p7, p8, p9, p10, p11⟩ := at_T32 HC0.out j hj0 hj
          obtain ⟨ad4, rfl, q0, q1, q2, q3, q4, q5, q6, q7, q8, q9, q10, q11⟩ := at_T32 HC1.out j hj0 hj
          have hxz : (rd_T32 l j).f6 = z29 := by
            refine HBZ.out.1 _ ?_
            unfold rd_T32
            rw [List.getD_eq_getElem?_getD, List.getElem?_eq_getElem (by omega)]
            exact List.getElem_mem _
          generalize rd_T32 l j = x at p0 p1 p2 p3 p4 p5 p6 p7 q0 q1 q2 q3 q4 q5 q6 q7 hxz
          obtain ⟨a0, a1, a2, a3, a4, a5, xz, a7⟩ := x
          dsimp only at p0 p1 p2 p3 p4 p5 p6 p7 q0 q1 q2 q3 q4 q5 q6 q7 hxz
          subst hxz
          simp only [z29] at p6 p7 q6 q7
          have hb := below_step HB.out (below_step HW.out (below_step HB5.out HV.out))
          replace p0 := (hb.cell (World.block_lt_of_cell? w _ p0)).trans p0
          replace p1 := (hb.cell (World.block_lt_of_cell? w _ p1)).trans p1
          replace p2 := (hb.cell (World.block_lt_of_cell? w _ p2)).trans p2
          replace p3 := (hb.cell (World.block_lt_of_cell? w _ p3)).trans p3
          replace p4 := (hb.cell (World.block_lt_of_cell? w _ p4)).trans p4
          replace p5 := (hb.cell (World.block_lt_of_cell? w _ p5)).trans p5
          replace p6 := (hb.cell (World.block_lt_of_cell? w _ p6)).trans p6
          replace p7 := (hb.cell (World.block_lt_of_cell? w _ p7)).trans p7
          replace p8 := (hb.cell (World.block_lt_of_cell? w _ p8)).trans p8
          replace p9 := (hb.cell (World.block_lt_of_cell? w _ p9)).trans p9
          replace p10 := (hb.cell (World.block_lt_of_cell? w _ p10)).trans p10
          replace p11 := (hb.cell (World.block_lt_of_cell? w _ p11)).trans p11
          replace q0 := (hb.cell (World.block_lt_of_cell? w _ q0)).trans q0
          replace q1 := (hb.cell (World.block_lt_of_cell? w _ q1)).trans q1
          replace q2 := (hb.cell (World.block_lt_of_cell? w _ q2)).trans q2
          replace q3 := (hb.cell (World.block_lt_of_cell? w _ q3)).trans q3
          replace q4 := (hb.cell (World.block_lt_of_cell? w _ q4)).trans q4
          replace q5 := (hb.cell (World.block_lt_of_cell? w _ q5)).trans q5
          replace q6 := (hb.cell (World.block_lt_of_cell? w _ q6)).trans q6
          replace q7 := (hb.cell (World.block_lt_of_cell? w _ q7)).trans q7
          replace q8 := (hb.cell (World.block_lt_of_cell? w _ q8)).trans q8
          replace q9 := (hb.cell (World.block_lt_of_cell? w _ q9)).trans q9
          replace q10 := (hb.cell (World.block_lt_of_cell? w _ q10)).trans q10
          replace q11 := (hb.cell (World.block_lt_of_cell? w _ q11)).trans q11
          have HWJ := Aside0.mk (wrapS hj0 hj (by have h1 := HBZ.out.2; omega))
          have HJJ := Aside0.mk hj
          have hj0t := eq_true hj0
          have hj1t := eq_true hj
          have HSB : Aside0 (∀ W, Below wr.heap.size wr W → (fun w' => w'.cell? ⟨g6, 0, none⟩ = some (.slice (some ad3) l.length c0) ∧ w'.cell? ⟨g7, 0, none⟩ = some (.slice (some ad4) l.length d0) ∧ w'.cell? (ad3.add (j.toNat * 12)) = some (.int .i64 a0) ∧ w'.cell? ⟨(ad3.add (j.toNat * 12)).block, (ad3.add (j.toNat * 12)).off + 1, none⟩ = some (.int .i64 a1) ∧ w'.cell? ⟨(ad3.add (j.toNat * 12)).block, (ad3.add (j.toNat * 12)).off + 2, none⟩ = some (.int .i64 a2) ∧ w'.cell? ⟨(ad3.add (j.toNat * 12)).block, (ad3.add (j.toNat * 12)).off + 3, none⟩ = some (.int .i64 a3) ∧ w'.cell? ⟨(ad3.add (j.toNat * 12)).block, (ad3.add (j.toNat * 12)).off + 4, none⟩ = some (.int .i64 a4) ∧ w'.cell? ⟨(ad3.add (j.toNat * 12)).block, (ad3.add (j.toNat * 12)).off + 5, none⟩ = some (.int .i64 a5) ∧ w'.cell? ⟨(ad3.add (j.toNat * 12)).block, (ad3.add (j.toNat * 12)).off + 6, none⟩ = some (.int .i64 0) ∧ w'.cell? ⟨(ad3.add (j.toNat * 12)).block, (ad3.add (j.toNat * 12)).off + 7, none⟩ = some (.int .i64 0) ∧ w'.cell? ⟨(ad3.add (j.toNat * 12)).block, (ad3.add (j.toNat * 12)).off + 8, none⟩ = some (.complex .f64 0 0) ∧ w'.cell? ⟨(ad3.add (j.toNat * 12)).block, (ad3.add (j.toNat * 12)).off + 9, none⟩ = some (.string (⟨#[]⟩ : ByteArray)) ∧ w'.cell? ⟨(ad3.add (j.toNat * 12)).block, (ad3.add (j.toNat * 12)).off + 10, none⟩ = some (.slice none 0 0) ∧ w'.cell? ⟨(ad3.add (j.toNat * 12)).block, (ad3.add (j.toNat * 12)).off + 11, none⟩ = some (.slice none 0 0) ∧ w'.cell? (ad4.add (j.toNat * 12)) = some (.int .i64 a0) ∧ w'.cell? ⟨(ad4.add (j.toNat * 12)).block, (ad4.add (j.toNat * 12)).off + 1, none⟩ = some (.int .i64 a1) ∧ w'.cell? ⟨(ad4.add (j.toNat * 12)).block, (ad4.add (j.toNat * 12)).off + 2, none⟩ = some (.int .i64 a2) ∧ w'.cell? ⟨(ad4.add (j.toNat * 12)).block, (ad4.add (j.toNat * 12)).off + 3, none⟩ = some (.int .i64 a3) ∧ w'.cell? ⟨(ad4.add (j.toNat * 12)).block, (ad4.add (j.toNat * 12)).off + 4, none⟩ = some (.int .i64 a4) ∧ w'.cell? ⟨(ad4.add (j.toNat * 12)).block, (ad4.add (j.toNat * 12)).off + 5, none⟩ = some (.int .i64 a5) ∧ w'.cell? ⟨(ad4.add (j.toNat * 12)).block, (ad4.add (j.toNat * 12)).off + 6, none⟩ = some (.int .i64 0) ∧ w'.cell? ⟨(ad4.add (j.toNat * 12)).block, (ad4.add (j.toNat * 12)).off + 7, none⟩ = some (.int .i64 0) ∧ w'.cell? ⟨(ad4.add (j.toNat * 12)).block, (ad4.add (j.toNat * 12)).off + 8, none⟩ = some (.complex .f64 0 0) ∧ w'.cell? ⟨(ad4.add (j.toNat * 12)).block, (ad4.add (j.toNat * 12)).off + 9, none⟩ = some (.string (⟨#[]⟩ : ByteArray)) ∧ w'.cell? ⟨(ad4.add (j.toNat * 12)).block, (ad4.add (j.toNat * 12)).off + 10, none⟩ = some (.slice none 0 0) ∧ w'.cell? ⟨(ad4.add (j.toNat * 12)).block, (ad4.add (j.toNat * 12)).off + 11, none⟩ = some (.slice none 0 0)) W) := ⟨fun W h => ⟨(h.cell (World.block_lt_of_cell? wr _ u0)).trans u0, (h.cell (World.block_lt_of_cell? wr _ v0)).trans v0, (h.cell (World.block_lt_of_cell? wr _ p0)).trans p0, (h.cell (World.block_lt_of_cell? wr _ p1)).trans p1, (h.cell (World.block_lt_of_cell? wr _ p2)).trans p2, (h.cell (World.block_lt_of_cell? wr _ p3)).trans p3, (h.cell (World.block_lt_of_cell? wr _ p4)).trans p4, (h.cell (World.block_lt_of_cell? wr _ p5)).trans p5, (h.cell (World.block_lt_of_cell? wr _ p6)).trans p6, (h.cell (World.block_lt_of_cell? wr _ p7)).trans p7, (h.cell (World.block_lt_of_cell? wr _ p8)).trans p8, (h.cell (World.block_lt_of_cell? wr _ p9)).trans p9, (h.cell (World.block_lt_of_cell? wr _ p10)).trans p10, (h.cell (World.block_lt_of_cell? wr _ p11)).trans p11, (h.cell (World.block_lt_of_cell? wr _ q0)).trans q0, (h.cell (World.block_lt_of_cell? wr _ q1)).trans q1, (h.cell (World.block_lt_of_cell? wr _ q2)).trans q2, (h.cell (World.block_lt_of_cell? wr _ q3)).trans q3, (h.cell (World.block_lt_of_cell? wr _ q4)).trans q4, (h.cell (World.block_lt_of_cell? wr _ q5)).trans q5, (h.cell (World.block_lt_of_cell? wr _ q6)).trans q6, (h.cell (World.block_lt_of_cell? wr _ q7)).trans q7, (h.cell (World.block_lt_of_cell? wr _ q8)).trans q8, (h.cell (World.block_lt_of_cell? wr _ q9)).trans q9, (h.cell (World.block_lt_of_cell? wr _ q10)).trans q10, (h.cell (World.block_lt_of_cell? wr _ q11)).trans q11⟩⟩
          clear hb hj hj0 h6 h7
          go_wp2
          refine start_ (n := 12) (S := fun w' => w'.cell? ⟨g6, 0, none⟩ = some (.slice (some ad3) l.length c0) ∧ w'.cell? ⟨g7, 0, none⟩ = some (.slice (some ad4) l.length d0) ∧ w'.cell? (ad3.add (j.toNat * 12)) = some (.int .i64 a0) ∧ w'.cell? ⟨(ad3.add (j.toNat * 12)).block, (ad3.add (j.toNat * 12)).off + 1, none⟩ = some (.int .i64 a1) ∧ w'.cell? ⟨(ad3.add (j.toNat * 12)).block, (ad3.add (j.toNat * 12)).off + 2, none⟩ = some (.int .i64 a2) ∧ w'.cell? ⟨(ad3.add (j.toNat * 12)).block, (ad3.add (j.toNat * 12)).off + 3, none⟩ = some (.int .i64 a3) ∧ w'.cell? ⟨(ad3.add (j.toNat * 12)).block, (ad3.add (j.toNat * 12)).off + 4, none⟩ = some (.int .i64 a4) ∧ w'.cell? ⟨(ad3.add (j.toNat * 12)).block, (ad3.add (j.toNat * 12)).off + 5, none⟩ = some (.int .i64 a5) ∧ w'.cell? ⟨(ad3.add (j.toNat * 12)).block, (ad3.add (j.toNat * 12)).off + 6, none⟩ = some (.int .i64 0) ∧ w'.cell? ⟨(ad3.add (j.toNat * 12)).block, (ad3.add (j.toNat * 12)).off + 7, none⟩ = some (.int .i64 0) ∧ w'.cell? ⟨(ad3.add (j.toNat * 12)).block, (ad3.add (j.toNat * 12)).off + 8, none⟩ = some (.complex .f64 0 0) ∧ w'.cell? ⟨(ad3.add (j.toNat * 12)).block, (ad3.add (j.toNat * 12)).off + 9, none⟩ = some (.string (⟨#[]⟩ : ByteArray)) ∧ w'.cell? ⟨(ad3.add (j.toNat * 12)).block, (ad3.add (j.toNat * 12)).off + 10, none⟩ = some (.slice none 0 0) ∧ w'.cell? ⟨(ad3.add (j.toNat * 12)).block, (ad3.add (j.toNat * 12)).off + 11, none⟩ = some (.slice none 0 0) ∧ w'.cell? (ad4.add (j.toNat * 12)) = some (.int .i64 a0) ∧ w'.cell? ⟨(ad4.add (j.toNat * 12)).block, (ad4.add (j.toNat * 12)).off + 1, none⟩ = some (.int .i64 a1) ∧ w'.cell? ⟨(ad4.add (j.toNat * 12)).block, (ad4.add (j.toNat * 12)).off + 2, none⟩ = some (.int .i64 a2) ∧ w'.cell? ⟨(ad4.add (j.toNat * 12)).block, (ad4.add (j.toNat * 12)).off + 3, none⟩ = some (.int .i64 a3) ∧ w'.cell? ⟨(ad4.add (j.toNat * 12)).block, (ad4.add (j.toNat * 12)).off + 4, none⟩ = some (.int .i64 a4) ∧ w'.cell? ⟨(ad4.add (j.toNat * 12)).block, (ad4.add (j.toNat * 12)).off + 5, none⟩ = some (.int .i64 a5) ∧ w'.cell? ⟨(ad4.add (j.toNat * 12)).block, (ad4.add (j.toNat * 12)).off + 6, none⟩ = some (.int .i64 0) ∧ w'.cell? ⟨(ad4.add (j.toNat * 12)).block, (ad4.add (j.toNat * 12)).off + 7, none⟩ = some (.int .i64 0) ∧ w'.cell? ⟨(ad4.add (j.toNat * 12)).block, (ad4.add (j.toNat * 12)).off + 8, none⟩ = some (.complex .f64 0 0) ∧ w'.cell? ⟨(ad4.add (j.toNat * 12)).block, (ad4.add (j.toNat * 12)).off + 9, none⟩ = some (.string (⟨#[]⟩ : ByteArray)) ∧ w'.cell? ⟨(ad4.add (j.toNat * 12)).block, (ad4.add (j.toNat * 12)).off + 10, none⟩ = some (.slice none 0 0) ∧ w'.cell? ⟨(ad4.add (j.toNat * 12)).block, (ad4.add (j.toNat * 12)).off + 11, none⟩ = some (.slice none 0 0)) (ds := []) #[false, false, false, false, false, false, false, false, false, false, false, false] (by kernel_rfl) rfl rfl ⟨u0, v0, p0, p1, p2, p3, p4, p5, p6, p7, p8, p9, p10, p11, q0, q1, q2, q3, q4, q5, q6, q7, q8, q9, q10, q11⟩ (fun hHeld => ?_)
          refine pure_ (i := 0) (N := some 75) (v := ?_) (a' := ?_) #[true, false, false, false, false, false, false, false, false, false, false, false] rfl rfl (by kernel_rfl) (fun _ _ _ h => h) (Or.inl ⟨by rfl, ?_⟩) ?_ ?_
          rotate_left
          · intro w'
            go_simp
            with_reducible rfl
          rotate_left
          · simp only [Act.put, List.setIfInBounds_toArray, List.set_cons_zero, List.set_cons_succ, i64_w, i32_w]
            rfl
          refine pure_ (i := 2) (N := some 77) (v := ?_) (a' := ?_) #[true, false, true, false, false, false, false, false, false, false, false, false] rfl rfl (by kernel_rfl) (fun _ _ _ h => h) (Or.inl ⟨by rfl, ?_⟩) ?_ ?_
          rotate_left
          · intro w'
            go_simp
            with_reducible rfl
          rotate_left
          · simp only [Act.put, List.setIfInBounds_toArray, List.set_cons_zero, List.set_cons_succ, i64_w, i32_w]
            rfl
          refine pure_ (i := 5) (N := some 80) (v := ?_) (a' := ?_) #[true, false, true, false, false, true, false, false, false, false, false, false] rfl rfl (by kernel_rfl) (fun _ _ _ h => h) (Or.inl ⟨by rfl, ?_⟩) ?_ ?_
          rotate_left
          · intro w'
            go_simp
            with_reducible rfl
          rotate_left
          · simp only [Act.put, List.setIfInBounds_toArray, List.set_cons_zero, List.set_cons_succ, i64_w, i32_w]
            rfl
          refine pure_ (i := 7) (N := some 82) (v := ?_) (a' := ?_) #[true, false, true, false, false, true, false, true, false, false, false, false] rfl rfl (by kernel_rfl) (fun _ _ _ h => h) (Or.inl ⟨by rfl, ?_⟩) ?_ ?_
          rotate_left
          · intro w'
            go_simp
            with_reducible rfl
          rotate_left
          · simp only [Act.put, List.setIfInBounds_toArray, List.set_cons_zero, List.set_cons_succ, i64_w, i32_w]
            rfl
          refine take_ (i := 1) (N := some 76) (v := ?_) (a' := ?_) #[true, true, true, false, false, true, false, true, false, false, false, false] rfl rfl (by kernel_rfl) (fun _ _ _ h => h) (Or.inl ⟨by rfl, ?_⟩) hHeld ?_ ?_
          rotate_left
          · rintro w' ⟨s0, s1, s2, s3, s4, s5, s6, s7, s8, s9, s10, s11, s12, s13, s14, s15, s16, s17, s18, s19, s20, s21, s22, s23, s24, s25⟩
            go_simp
            with_reducible rfl
          rotate_left
          · simp only [Act.put, List.setIfInBounds_toArray, List.set_cons_zero, List.set_cons_succ, i64_w, i32_w]
            rfl
          refine take_ (i := 6) (N := some 81) (v := ?_) (a' := ?_) #[true, true, true, false, false, true, true, true, false, false, false, false] rfl rfl (by kernel_rfl) (fun _ _ _ h => h) (Or.inl ⟨by rfl, ?_⟩) hHeld ?_ ?_
          rotate_left
          · rintro w' ⟨s0, s1, s2, s3, s4, s5, s6, s7, s8, s9, s10, s11, s12, s13, s14, s15, s16, s17, s18, s19, s20, s21, s22, s23, s24, s25⟩
            go_simp
            with_reducible rfl
          rotate_left
          · simp only [Act.put, List.setIfInBounds_toArray, List.set_cons_zero, List.set_cons_succ, i64_w, i32_w]
            rfl
          refine pure_ (i := 3) (N := some 78) (v := ?_) (a' := ?_) #[true, true, true, true, false, true, true, true, false, false, false, false] rfl rfl (by kernel_rfl) (fun _ _ _ h => h) (Or.inl ⟨by rfl, ?_⟩) ?_ ?_
          rotate_left
          · intro w'
            go_simp
            with_reducible rfl
          rotate_left
          · simp only [Act.put, List.setIfInBounds_toArray, List.set_cons_zero, List.set_cons_succ, i64_w, i32_w]
            rfl
          refine pure_ (i := 8) (N := some 83) (v := ?_) (a' := ?_) #[true, true, true, true, false, true, true, true, true, false, false, false] rfl rfl (by kernel_rfl) (fun _ _ _ h => h) (Or.inl ⟨by rfl, ?_⟩) ?_ ?_
          rotate_left
          · intro w'
            go_simp
            with_reducible rfl
          rotate_left
          · simp only [Act.put, List.setIfInBounds_toArray, List.set_cons_zero, List.set_cons_succ, i64_w, i32_w]
            rfl
          refine take_ (i := 4) (N := some 79) (v := ?_) (a' := ?_) #[true, true, true, true, true, true, true, true, true, false, false, false] rfl rfl (by kernel_rfl) (fun _ _ _ h => h) (Or.inl ⟨by rfl, ?_⟩) hHeld ?_ ?_
          rotate_left
          · rintro w' ⟨s0, s1, s2, s3, s4, s5, s6, s7, s8, s9, s10, s11, s12, s13, s14, s15, s16, s17, s18, s19, s20, s21, s22, s23, s24, s25⟩
            go_simp
            with_reducible rfl
          rotate_left
          · simp only [Act.put, List.setIfInBounds_toArray, List.set_cons_zero, List.set_cons_succ, i64_w, i32_w]
            rfl
          refine take_ (i := 9) (N := some 84) (v := ?_) (a' := ?_) #[true, true, true, true, true, true, true, true, true, true, false, false] rfl rfl (by kernel_rfl) (fun _ _ _ h => h) (Or.inl ⟨by rfl, ?_⟩) hHeld ?_ ?_
          rotate_left
          · rintro w' ⟨s0, s1, s2, s3, s4, s5, s6, s7, s8, s9, s10, s11, s12, s13, s14, s15, s16, s17, s18, s19, s20, s21, s22, s23, s24, s25⟩
            go_simp
            with_reducible rfl
          rotate_left
          · simp only [Act.put, List.setIfInBounds_toArray, List.set_cons_zero, List.set_cons_succ, i64_w, i32_w]
            rfl
          refine one_ (i := 10) (N := (some 85)) #[true, true, true, true, true, true, true, true, true, true, true, false] rfl rfl (by kernel_rfl) (by decide) (fun K hK => ?_)
          refine goes_ (f := 12) Try.func12 (by kernel_rfl) rfl #[.agg #[.int .i64 a0, .int .i64 a1, .int .i64 a2, .int .i64 a3, .int .i64 a4, .int .i64 a5, .int .i64 0, .int .i64 0, .complex .f64 0 0, .string (⟨#[]⟩ : ByteArray), .slice none 0 0, .slice none 0 0], .agg #[.int .i64 a0, .int .i64 a1, .int .i64 a2, .int .i64 a3, .int .i64 a4, .int .i64 a5, .int .i64 0, .int .i64 0, .complex .f64 0 0, .string (⟨#[]⟩ : ByteArray), .slice none 0 0, .slice none 0 0]] (by rfl) rfl rfl (by (try simp only [List.map_toArray, List.map_cons, List.map_nil]); first | done | rfl) ?_
          refine (SameIns_z a0 a1 a2 a3 a4 a5 _).mono ?_
          rintro e w7 ⟨rfl, hb⟩
          refine ⟨_, rfl, ?_⟩
          have HVc := Aside0.mk (below_step HV.out (below_step (below_drew1 (Below.refl wr.heap.size wr)) hb))
          refine hK.out _ _ (HSB.out _ (below_step (below_drew1 (Below.refl wr.heap.size wr)) hb)) (fun hHeld => ?_)
          clear hK K
          refine norm_ (a' := ?_) ?_ ?_
          rotate_left
          · show Act.put _ (some 85) _ = _
            simp only [Act.put, List.setIfInBounds_toArray, List.set_cons_zero, List.set_cons_succ, i64_w, i32_w]
            rfl
          refine pure_ (i := 11) (N := some 86) (v := ?_) (a' := ?_) #[true, true, true, true, true, true, true, true, true, true, true, true] rfl rfl (by kernel_rfl) (fun _ _ _ h => h) (Or.inl ⟨by rfl, ?_⟩) ?_ ?_
          rotate_left
          · intro w'
            go_simp
            with_reducible rfl
          rotate_left
          · simp only [Act.put, List.setIfInBounds_toArray, List.set_cons_zero, List.set_cons_succ, i64_w, i32_w]
            rfl
          refine done_ (by kernel_rfl) ?_
          go_wp2
          go_roundg (gk - 1)
          case measure => have h1 := HJ.out; have h2 := HJJ.out; omega
          case rel =>
            have h2 := HJ.out
            have h3 := HJJ.out
            exact ⟨wrap64 (j + 1), rfl, ⟨by rw [HWJ.out]; omega, by rw [HWJ.out]; omega⟩, HVc⟩
        · have hjb : decide (j < (l.length : Int)) = false := decide_eq_false hj
          go_wp2
          go_roundg (ko - 1)
          case measure => have h1 := HI.out; have h2 := HII.out; omega
          case rel =>
            have h2 := HI.out
            have h3 := HII.out
            exact ⟨wrap64 (i + 1), rfl, ⟨by rw [HWS.out]; omega, by rw [HWS.out]; omega⟩, ⟨below_step HW.out (below_step HB5.out HV.out)⟩⟩
    · have hib : decide (i < (xs.length : Int)) = false := decide_eq_false hi
      have f3 : wr.cell? ⟨w.heap.size, 3, none⟩ = some (.slice A xs.length c) := blk_cell h0 3
      go_wp2
      go_ret
      exact ⟨rfl, below_step HB.out HW.out⟩
end Go.Proofs.Ytdndnjpfpelimaa.PG
