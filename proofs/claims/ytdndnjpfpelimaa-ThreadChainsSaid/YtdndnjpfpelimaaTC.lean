/- Function 3, the law ThreadChains: true for each two numbers, and memory that stood before stays. -/
import Derived.Test.YtdndnjpfpelimaaChainA
import Derived.Test.YtdndnjpfpelimaaPGx0
import Derived.Test.YtdndnjpfpelimaaU
namespace Go.Proofs.Ytdndnjpfpelimaa.PG
open Go.RowKit Go.Proofs.YtdndnjpfpelimaaW.PrintWords Go.Proofs.YtdndnjpfpelimaaW.PrintLast Go.Proofs.YtdndnjpfpelimaaW.PrintMore
attribute [local go_sem] max2_int min2_int max_two min_two max_three min_three max_four min_four   -- for this text's walks alone
set_option linter.unusedVariables false
set_option linter.unusedSimpArgs false
attribute [local go_sem] run_store_complex
theorem ch1_end (n m i : Int) (h0 : 0 ≤ i) (hE : i + 1 = n) : ch1 n m (i + 1).toNat = ch1 n m i.toNat ++ [(⟨[], ⟨1, 0, 1 + n + m, 0⟩⟩ : S37)] := by
  rw [show (i + 1).toNat = i.toNat + 1 by omega, ch1_succ]
  unfold c1B
  rw [if_pos (by omega)]
theorem ch1_go (n m i : Int) (h0 : 0 ≤ i) (h1 : i < 40) (hE : wrap64 (i + 1) ≠ n) : ch1 n m (i + 1).toNat = ch1 n m i.toNat ++ [(⟨[], ⟨1, 0, wrap64 (2 + i), 0⟩⟩ : S37)] := by
  have hw : wrap64 (i + 1) = i + 1 := by unfold wrap64; omega
  rw [hw] at hE
  rw [show (i + 1).toNat = i.toNat + 1 by omega, ch1_succ]
  unfold c1B
  rw [if_neg (by omega), show wrap64 (2 + i) = 2 + (i.toNat : Int) by unfold wrap64; omega]
theorem ch2_go (n m i : Int) (h0 : 0 ≤ i) (h1 : i < 40) (n1 : 0 ≤ n) (n2 : n < 40) : ch2 n m (i + 1).toNat = ch2 n m i.toNat ++ [(⟨[], ⟨1, 0, wrap64 (2 + n + i), 0⟩⟩ : S37)] := by
  rw [show (i + 1).toNat = i.toNat + 1 by omega, ch2_succ]
  unfold c2B
  rw [show wrap64 (2 + n + i) = 2 + n + (i.toNat : Int) by unfold wrap64; omega]
theorem first_w (n m : Int) (n1 : 0 ≤ n) (n2 : n < 40) (e_ : Int) (P0 : Addr) (w : World) (hp : w.cell? P0 = some (.int .i64 e_)) : Calls Try.prog 4 #[.int .i64 m, .int .i64 (wrap64 (1 + n)), .pointer (some P0)] w fun e w' => e = .returned (.int .i64 (fst_ m (1 + n) e_)) ∧ w' = w := by
  rw [show wrap64 (1 + n) = 1 + n by unfold wrap64; omega]
  exact first_calls m (1 + n) e_ P0 w hp
theorem size_alloc_lt' (w : World) (o : Obj) : w.heap.size < (w.alloc o).heap.size := by rw [World.size_alloc]; exact Nat.lt_succ_self _
set_option maxHeartbeats 4000000 in
set_option maxRecDepth 100000 in
theorem TC_calls (n0 m0 : Int) (w : World) : Calls Try.prog 3 #[.int .i64 n0, .int .i64 m0] w fun e w' => e = .returned (.bool true) ∧ Below w.heap.size w w' := by
  have hu24 := Try.underlying24
  have hu37 := Try.underlying37
  have hu35 := Try.underlying35
  have hu32 := Try.underlying32
  have hmf : ∀ (fn : Fn) (first cap : Array Value) (w : World), (Instr.makeFunc fn first cap).run Try.prog w = .ok (.func fn first cap) w := fun _ _ _ _ => rfl
  go_enter Try.func3, Try.ntmps3
  go_upto_region 2 with (fail)
  have hn := capT n0
  have hm := capT m0
  generalize (bits BinOp.and IntKind.i64 n0 65535).tmod 40 = n at hn ⊢
  generalize (bits BinOp.and IntKind.i64 m0 65535).tmod 40 = m at hm ⊢
  obtain ⟨n1, n2⟩ := hn
  obtain ⟨m1, m2⟩ := hm
  go_upto_region 5 with (fail)
  clear hmf
  refine rebase (P := fun W_ => Code.wp _ _ _ _ W_) (fun W_ => W_.heap[w.heap.size]? = some (.cells #[.string (⟨#[]⟩ : ByteArray), .int .i64 1, .int .i64 1, .slice none 0 0] 24 (0, 0)) ∧ W_.heap[w.heap.size + 1]? = some (.cells #[.int .i64 (1 + n + m)] 3 (0, 0)) ∧ Below w.heap.size w W_ ∧ w.heap.size + 2 ≤ W_.heap.size) ⟨new12 _ _ _, new2 _ _ _, below_alloc (below_alloc (Below.refl _ _) _) _, by rw [World.size_alloc, World.size_alloc]; omega⟩ ?_
  rintro W1 ⟨h0, h1, hB, hs⟩
  have H0 := Aside0.mk h0
  have H1 := Aside0.mk h1
  have HB := Aside0.mk hB
  have HS := Aside0.mk hs
  obtain ⟨f0, f1, f2, f3⟩ := box4 h0
  have z0 : W1.cell? ⟨w.heap.size + 1, 0, none⟩ = some (.int .i64 (1 + n + m)) := blk_cell h1 0
  have HSB : Aside0 (∀ W, Below W1.heap.size W1 W → (fun w' => w'.cell? ⟨w.heap.size, 3, none⟩ = some (.slice none 0 0) ∧ w'.cell? ⟨w.heap.size + 1, 0, none⟩ = some (.int .i64 (1 + n + m))) W) := ⟨fun W h => ⟨(h.cell (World.block_lt_of_cell? W1 _ f3)).trans f3, (h.cell (World.block_lt_of_cell? W1 _ z0)).trans z0⟩⟩
  clear h0 h1 hB hs
  refine start_ (n := 18) (S := fun w' => w'.cell? ⟨w.heap.size, 3, none⟩ = some (.slice none 0 0) ∧ w'.cell? ⟨w.heap.size + 1, 0, none⟩ = some (.int .i64 (1 + n + m))) (ds := [15, 17]) #[false, false, false, false, false, false, false, false, false, false, false, false, false, false, false, false, false, false] (by kernel_rfl) rfl rfl ⟨f3, z0⟩ (fun hHeld => ?_)
  refine pure_ (i := 0) (N := some 25) (v := ?_) (a' := ?_) #[true, false, false, false, false, false, false, false, false, false, false, false, false, false, false, false, false, false] rfl rfl (by kernel_rfl) (fun _ _ _ h => h) (Or.inl ⟨by rfl, ?_⟩) ?_ ?_
  rotate_left
  · intro w'
    go_simp
    with_reducible rfl
  rotate_left
  · simp only [Act.put, List.setIfInBounds_toArray, List.set_cons_zero, List.set_cons_succ, i64_w, i32_w]
    rfl
  refine pure_ (i := 2) (N := some 27) (v := ?_) (a' := ?_) #[true, false, true, false, false, false, false, false, false, false, false, false, false, false, false, false, false, false] rfl rfl (by kernel_rfl) (fun _ _ _ h => h) (Or.inl ⟨by rfl, ?_⟩) ?_ ?_
  rotate_left
  · intro w'
    go_simp
    with_reducible rfl
  rotate_left
  · simp only [Act.put, List.setIfInBounds_toArray, List.set_cons_zero, List.set_cons_succ, i64_w, i32_w]
    rfl
  refine pure_ (i := 4) (N := some 29) (v := ?_) (a' := ?_) #[true, false, true, false, true, false, false, false, false, false, false, false, false, false, false, false, false, false] rfl rfl (by kernel_rfl) (fun _ _ _ h => h) (Or.inl ⟨by rfl, ?_⟩) ?_ ?_
  rotate_left
  · intro w'
    go_simp
    with_reducible rfl
  rotate_left
  · simp only [Act.put, List.setIfInBounds_toArray, List.set_cons_zero, List.set_cons_succ, i64_w, i32_w]
    rfl
  refine pure_ (i := 5) (N := some 30) (v := ?_) (a' := ?_) #[true, false, true, false, true, true, false, false, false, false, false, false, false, false, false, false, false, false] rfl rfl (by kernel_rfl) (fun _ _ _ h => h) (Or.inl ⟨by rfl, ?_⟩) ?_ ?_
  rotate_left
  · intro w'
    go_simp
    with_reducible rfl
  rotate_left
  · simp only [Act.put, List.setIfInBounds_toArray, List.set_cons_zero, List.set_cons_succ, i64_w, i32_w]
    rfl
  refine pure_ (i := 7) (N := some 32) (v := ?_) (a' := ?_) #[true, false, true, false, true, true, false, true, false, false, false, false, false, false, false, false, false, false] rfl rfl (by kernel_rfl) (fun _ _ _ h => h) (Or.inl ⟨by rfl, ?_⟩) ?_ ?_
  rotate_left
  · intro w'
    go_simp
    with_reducible rfl
  rotate_left
  · simp only [Act.put, List.setIfInBounds_toArray, List.set_cons_zero, List.set_cons_succ, i64_w, i32_w]
    rfl
  refine pure_ (i := 8) (N := some 33) (v := ?_) (a' := ?_) #[true, false, true, false, true, true, false, true, true, false, false, false, false, false, false, false, false, false] rfl rfl (by kernel_rfl) (fun _ _ _ h => h) (Or.inl ⟨by rfl, ?_⟩) ?_ ?_
  rotate_left
  · intro w'
    go_simp
    with_reducible rfl
  rotate_left
  · simp only [Act.put, List.setIfInBounds_toArray, List.set_cons_zero, List.set_cons_succ, i64_w, i32_w]
    rfl
  refine pure_ (i := 9) (N := some 34) (v := ?_) (a' := ?_) #[true, false, true, false, true, true, false, true, true, true, false, false, false, false, false, false, false, false] rfl rfl (by kernel_rfl) (fun _ _ _ h => h) (Or.inl ⟨by rfl, ?_⟩) ?_ ?_
  rotate_left
  · intro w'
    go_simp
    with_reducible rfl
  rotate_left
  · simp only [Act.put, List.setIfInBounds_toArray, List.set_cons_zero, List.set_cons_succ, i64_w, i32_w]
    rfl
  refine pure_ (i := 10) (N := some 35) (v := ?_) (a' := ?_) #[true, false, true, false, true, true, false, true, true, true, true, false, false, false, false, false, false, false] rfl rfl (by kernel_rfl) (fun _ _ _ h => h) (Or.inl ⟨by rfl, ?_⟩) ?_ ?_
  rotate_left
  · intro w'
    go_simp
    with_reducible rfl
  rotate_left
  · simp only [Act.put, List.setIfInBounds_toArray, List.set_cons_zero, List.set_cons_succ, i64_w, i32_w]
    rfl
  refine take_ (i := 1) (N := some 26) (v := ?_) (a' := ?_) #[true, true, true, false, true, true, false, true, true, true, true, false, false, false, false, false, false, false] rfl rfl (by kernel_rfl) (fun _ _ _ h => h) (Or.inl ⟨by rfl, ?_⟩) hHeld ?_ ?_
  rotate_left
  · rintro w' ⟨s0, s1⟩
    go_simp
    with_reducible rfl
  rotate_left
  · simp only [Act.put, List.setIfInBounds_toArray, List.set_cons_zero, List.set_cons_succ, i64_w, i32_w]
    rfl
  refine join_ (σ := Unit) 5 #[true, true, true, true, true, true, true, true, true, true, true, true, true, false, false, false, false, false] (fun _ => [(28, .slice (some ⟨W1.heap.size, 0, none⟩) 1 1), (31, .int .i64 (fst_ n 1 (1 + n + m))), (36, .int .i64 (fst_ m (1 + n) (1 + n + m))), (37, .agg #[.int .i64 2, .int .i64 0, .int .i64 (fst_ n 1 (1 + n + m)), .int .i64 (fst_ m (1 + n) (1 + n + m))])]) (fun _ w' => w' = W1.drew.alloc (.cells #[.int .i64 6, .int .i64 0, .int .i64 0, .int .i64 0, .int .i64 0, .int .i64 0, .int .i64 0, .int .i64 0, .complex .f64 0 0, .string (⟨#[]⟩ : ByteArray), .slice none 0 0, .slice none 0 0] 32)) ?_ ?_
  rotate_left
  · intro hjoin
    refine two_ (i := 3) (j := 6) (Ni := some 28) (Nj := some 31) #[true, true, true, true, true, true, false, true, true, true, true, false, false, false, false, false, false, false] #[true, true, true, false, true, true, true, true, true, true, true, false, false, false, false, false, false, false] rfl rfl rfl rfl (by kernel_rfl) (by decide) (by decide) ?_ ?_
    · intro K hK
      refine value_ (w1 := ?_) (v := ?_) (by rfl) rfl ?_ ?_
      rotate_left 2
      · go_simp
        constructor
        · rfl
        · rfl
      refine hK.out _ _ (HSB.out _ (below_alloc (below_drew (Below.refl _ _)) _)) (fun hHeld => ?_)
      clear hK K
      refine norm_ (a' := ?_) ?_ ?_
      rotate_left
      · show Act.put _ (some 28) _ = _
        simp only [Act.put, List.setIfInBounds_toArray, List.set_cons_zero, List.set_cons_succ, i64_w, i32_w]
        rfl
      refine one_ (i := 6) (N := some 31) #[true, true, true, true, true, true, true, true, true, true, true, false, false, false, false, false, false, false] rfl rfl (by kernel_rfl) (by decide) (fun K hK => ?_)
      refine goesS_ (f := 4) Try.func4 (by kernel_rfl) rfl #[.int .i64 n, .int .i64 1] #[.pointer (some ⟨w.heap.size + 1, 0, none⟩)] #[.int .i64 n, .int .i64 1, .pointer (some ⟨w.heap.size + 1, 0, none⟩)] (by rfl) rfl rfl rfl (by (try simp only [List.map_toArray, List.map_cons, List.map_nil]); first | done | rfl) rfl ?_
      refine (first_calls n 1 (1 + n + m) ⟨w.heap.size + 1, 0, none⟩ _ hHeld.2).mono ?_
      rintro e w7 ⟨rfl, rfl⟩
      refine ⟨_, rfl, ?_⟩
      refine hK.out _ _ hHeld (fun hHeld => ?_)
      clear hK K
      refine norm_ (a' := ?_) ?_ ?_
      rotate_left
      · show Act.put _ (some 31) _ = _
        simp only [Act.put, List.setIfInBounds_toArray, List.set_cons_zero, List.set_cons_succ, i64_w, i32_w]
        rfl
      refine one_ (i := 11) (N := some 36) #[true, true, true, true, true, true, true, true, true, true, true, true, false, false, false, false, false, false] rfl rfl (by kernel_rfl) (by decide) (fun K hK => ?_)
      refine goesS_ (f := 4) Try.func4 (by kernel_rfl) rfl #[.int .i64 m, .int .i64 (wrap64 (1 + n))] #[.pointer (some ⟨w.heap.size + 1, 0, none⟩)] #[.int .i64 m, .int .i64 (wrap64 (1 + n)), .pointer (some ⟨w.heap.size + 1, 0, none⟩)] (by rfl) rfl rfl rfl (by (try simp only [List.map_toArray, List.map_cons, List.map_nil]); first | done | rfl) rfl ?_
      refine (first_w n m n1 n2 (1 + n + m) ⟨w.heap.size + 1, 0, none⟩ _ hHeld.2).mono ?_
      rintro e w7 ⟨rfl, rfl⟩
      refine ⟨_, rfl, ?_⟩
      refine hK.out _ _ hHeld (fun hHeld => ?_)
      clear hK K
      refine norm_ (a' := ?_) ?_ ?_
      rotate_left
      · show Act.put _ (some 36) _ = _
        simp only [Act.put, List.setIfInBounds_toArray, List.set_cons_zero, List.set_cons_succ, i64_w, i32_w]
        rfl
      refine pure_ (i := 12) (N := some 37) (v := ?_) (a' := ?_) #[true, true, true, true, true, true, true, true, true, true, true, true, true, false, false, false, false, false] rfl rfl (by kernel_rfl) (fun _ _ _ h => h) (Or.inl ⟨by rfl, ?_⟩) ?_ ?_
      rotate_left
      · intro w'
        go_simp
        with_reducible rfl
      rotate_left
      · simp only [Act.put, List.setIfInBounds_toArray, List.set_cons_zero, List.set_cons_succ, i64_w, i32_w]
        rfl
      exact hjoin () _ rfl
    · intro K hK
      refine goesS_ (f := 4) Try.func4 (by kernel_rfl) rfl #[.int .i64 n, .int .i64 1] #[.pointer (some ⟨w.heap.size + 1, 0, none⟩)] #[.int .i64 n, .int .i64 1, .pointer (some ⟨w.heap.size + 1, 0, none⟩)] (by rfl) rfl rfl rfl (by (try simp only [List.map_toArray, List.map_cons, List.map_nil]); first | done | rfl) rfl ?_
      refine (first_calls n 1 (1 + n + m) ⟨w.heap.size + 1, 0, none⟩ _ hHeld.2).mono ?_
      rintro e w7 ⟨rfl, rfl⟩
      refine ⟨_, rfl, ?_⟩
      refine hK.out _ _ hHeld (fun hHeld => ?_)
      clear hK K
      refine norm_ (a' := ?_) ?_ ?_
      rotate_left
      · show Act.put _ (some 31) _ = _
        simp only [Act.put, List.setIfInBounds_toArray, List.set_cons_zero, List.set_cons_succ, i64_w, i32_w]
        rfl
      refine two_ (i := 3) (j := 11) (Ni := some 28) (Nj := some 36) #[true, true, true, true, true, true, true, true, true, true, true, false, false, false, false, false, false, false] #[true, true, true, false, true, true, true, true, true, true, true, true, false, false, false, false, false, false] rfl rfl rfl rfl (by kernel_rfl) (by decide) (by decide) ?_ ?_
      · intro K hK
        refine value_ (w1 := ?_) (v := ?_) (by rfl) rfl ?_ ?_
        rotate_left 2
        · go_simp
          constructor
          · rfl
          · rfl
        refine hK.out _ _ (HSB.out _ (below_alloc (below_drew (Below.refl _ _)) _)) (fun hHeld => ?_)
        clear hK K
        refine norm_ (a' := ?_) ?_ ?_
        rotate_left
        · show Act.put _ (some 28) _ = _
          simp only [Act.put, List.setIfInBounds_toArray, List.set_cons_zero, List.set_cons_succ, i64_w, i32_w]
          rfl
        refine one_ (i := 11) (N := some 36) #[true, true, true, true, true, true, true, true, true, true, true, true, false, false, false, false, false, false] rfl rfl (by kernel_rfl) (by decide) (fun K hK => ?_)
        refine goesS_ (f := 4) Try.func4 (by kernel_rfl) rfl #[.int .i64 m, .int .i64 (wrap64 (1 + n))] #[.pointer (some ⟨w.heap.size + 1, 0, none⟩)] #[.int .i64 m, .int .i64 (wrap64 (1 + n)), .pointer (some ⟨w.heap.size + 1, 0, none⟩)] (by rfl) rfl rfl rfl (by (try simp only [List.map_toArray, List.map_cons, List.map_nil]); first | done | rfl) rfl ?_
        refine (first_w n m n1 n2 (1 + n + m) ⟨w.heap.size + 1, 0, none⟩ _ hHeld.2).mono ?_
        rintro e w7 ⟨rfl, rfl⟩
        refine ⟨_, rfl, ?_⟩
        refine hK.out _ _ hHeld (fun hHeld => ?_)
        clear hK K
        refine norm_ (a' := ?_) ?_ ?_
        rotate_left
        · show Act.put _ (some 36) _ = _
          simp only [Act.put, List.setIfInBounds_toArray, List.set_cons_zero, List.set_cons_succ, i64_w, i32_w]
          rfl
        refine pure_ (i := 12) (N := some 37) (v := ?_) (a' := ?_) #[true, true, true, true, true, true, true, true, true, true, true, true, true, false, false, false, false, false] rfl rfl (by kernel_rfl) (fun _ _ _ h => h) (Or.inl ⟨by rfl, ?_⟩) ?_ ?_
        rotate_left
        · intro w'
          go_simp
          with_reducible rfl
        rotate_left
        · simp only [Act.put, List.setIfInBounds_toArray, List.set_cons_zero, List.set_cons_succ, i64_w, i32_w]
          rfl
        exact hjoin () _ rfl
      · intro K hK
        refine goesS_ (f := 4) Try.func4 (by kernel_rfl) rfl #[.int .i64 m, .int .i64 (wrap64 (1 + n))] #[.pointer (some ⟨w.heap.size + 1, 0, none⟩)] #[.int .i64 m, .int .i64 (wrap64 (1 + n)), .pointer (some ⟨w.heap.size + 1, 0, none⟩)] (by rfl) rfl rfl rfl (by (try simp only [List.map_toArray, List.map_cons, List.map_nil]); first | done | rfl) rfl ?_
        refine (first_w n m n1 n2 (1 + n + m) ⟨w.heap.size + 1, 0, none⟩ _ hHeld.2).mono ?_
        rintro e w7 ⟨rfl, rfl⟩
        refine ⟨_, rfl, ?_⟩
        refine hK.out _ _ hHeld (fun hHeld => ?_)
        clear hK K
        refine norm_ (a' := ?_) ?_ ?_
        rotate_left
        · show Act.put _ (some 36) _ = _
          simp only [Act.put, List.setIfInBounds_toArray, List.set_cons_zero, List.set_cons_succ, i64_w, i32_w]
          rfl
        refine pure_ (i := 12) (N := some 37) (v := ?_) (a' := ?_) #[true, true, true, false, true, true, true, true, true, true, true, true, true, false, false, false, false, false] rfl rfl (by kernel_rfl) (fun _ _ _ h => h) (Or.inl ⟨by rfl, ?_⟩) ?_ ?_
        rotate_left
        · intro w'
          go_simp
          with_reducible rfl
        rotate_left
        · simp only [Act.put, List.setIfInBounds_toArray, List.set_cons_zero, List.set_cons_succ, i64_w, i32_w]
          rfl
        refine one_ (i := 3) (N := some 28) #[true, true, true, true, true, true, true, true, true, true, true, true, true, false, false, false, false, false] rfl rfl (by kernel_rfl) (by decide) (fun K hK => ?_)
        refine value_ (w1 := ?_) (v := ?_) (by rfl) rfl ?_ ?_
        rotate_left 2
        · go_simp
          constructor
          · rfl
          · rfl
        refine hK.out _ _ (HSB.out _ (below_alloc (below_drew (Below.refl _ _)) _)) (fun hHeld => ?_)
        clear hK K
        refine norm_ (a' := ?_) ?_ ?_
        rotate_left
        · show Act.put _ (some 28) _ = _
          simp only [Act.put, List.setIfInBounds_toArray, List.set_cons_zero, List.set_cons_succ, i64_w, i32_w]
          rfl
        exact hjoin () _ rfl
  rintro ⟨⟩ w3 rfl
  refine norm_ (a' := ?_) ?_ ?_
  rotate_left
  · show putAll _ _ = _
    simp only [putAll, Act.put, List.setIfInBounds_toArray, List.set_cons_zero, List.set_cons_succ, i64_w, i32_w]
    rfl
  refine pure_ (i := 13) (N := some 38) (v := ?_) (a' := ?_) #[true, true, true, true, true, true, true, true, true, true, true, true, true, true, false, false, false, false] rfl rfl (by kernel_rfl) (fun _ _ _ h => h) (Or.inl ⟨by rfl, ?_⟩) ?_ ?_
  rotate_left
  · intro w'
    go_simp
    with_reducible rfl
  rotate_left
  · simp only [Act.put, List.setIfInBounds_toArray, List.set_cons_zero, List.set_cons_succ, i64_w, i32_w]
    rfl
  refine one_ (i := 14) (N := (some 39)) #[true, true, true, true, true, true, true, true, true, true, true, true, true, true, true, false, false, false] rfl rfl (by kernel_rfl) (by decide) (fun K hK => ?_)
  refine value_ (w1 := ?_) (v := ?_) (by rfl) rfl ?_ ?_
  rotate_left 2
  · go_simp
    constructor
    · rfl
    · rfl
  refine hK.out _ _ (HSB.out _ (below_alloc (below_alloc (below_drew (Below.refl _ _)) _) _)) (fun hHeld => ?_)
  clear hK K
  refine norm_ (a' := ?_) ?_ ?_
  rotate_left
  · show Act.put _ (some 39) _ = _
    simp only [Act.put, List.setIfInBounds_toArray, List.set_cons_zero, List.set_cons_succ, i64_w, i32_w]
    rfl
  have hF := F_one (new1 W1.drew (.cells #[.int .i64 6, .int .i64 0, .int .i64 0, .int .i64 0, .int .i64 0, .int .i64 0, .int .i64 0, .int .i64 0, .complex .f64 0 0, .string (⟨#[]⟩ : ByteArray), .slice none 0 0, .slice none 0 0] 32))
  refine last_ (i := 15) (N := (some 40)) #[true, true, true, true, true, true, true, true, true, true, true, true, true, true, true, true, false, false] rfl rfl (by kernel_rfl) (by decide) (fun K hK => ?_)
  refine Kd.N_append_step k37 (w0 := w) w.heap.size (by rfl) (.tmp 26) (.tmp 39) 22 37 (.agg #[.slice none 0 0, .int .i64 0, .int .i64 0, .int .i64 0, .int .i64 0]) 56 rfl Try.underlying22 info37 rfl (by decide) (by omega) (.slice none 0 0) [] (entB n m) [.slice (some ⟨W1.heap.size, 0, none⟩) 1 1, .int .i64 2, .int .i64 0, .int .i64 (fst_ n 1 (1 + n + m)), .int .i64 (fst_ m (1 + n) (1 + n + m))] (fun k => w.heap.size + 2 ≤ k) (fun k => k = W1.heap.size) rfl ?hx (k37_mkF _ _ (entB n m) (Nat.le_refl _) hF) ?aP (fun k hk => Nat.le_trans HS.out (Nat.le_trans (Nat.le_of_lt (size_alloc_lt' W1.drew _)) hk)) (Kd.N_nil _ _ _ _ _) (below_alloc (below_drew1 HB.out) _) ?aS ?aL ?_
  (case hx => exact congrArg (fun k => Value.slice (some ⟨k, 0, none⟩) 1 1) (World.size_alloc _ _).symm)
  (case aP => exact fun k hk => ⟨by rw [hk]; exact HS.out, by simp [Value.ownBlock]⟩)
  (case aS => exact Nat.le_trans HB.out.size (Nat.le_of_lt (size_alloc_lt' W1.drew _)))
  (case aL => decide)
  intro v1 w5 ho hb hg hat
  have H0c := Aside0.mk (blk_grown (blk_alloc (w := W1.drew) H0.out _) hg (by simp [Value.ownBlock]))
  have H1c := Aside0.mk (blk_grown (blk_alloc (w := W1.drew) H1.out _) hg (by simp [Value.ownBlock]))
  have HBc := Aside0.mk hb
  have HNc : Aside0 (Kd.N k37 37 w5 w.heap.size (fun k => w.heap.size + 2 ≤ k) v1 (ch1 n m 0)) := Aside0.mk ho
  clear ho hb hg hat
  refine hK.out _ _ ?_
  clear hK K
  refine norm_ (a' := ?_) ?_ ?_
  rotate_left
  · show Act.put _ (some 40) _ = _
    simp only [Act.put, List.setIfInBounds_toArray, List.set_cons_zero, List.set_cons_succ, i64_w, i32_w]
    rfl
  obtain ⟨A1, c1, rfl⟩ := Kd.N_slice HNc.out
  have hU := setCells_upd [.slice A1 (ch1 n m 0).length c1] w5 _ 3 H0c.out
  refine pure_ (i := 16) (N := some 41) (v := ?_) (a' := ?_) #[true, true, true, true, true, true, true, true, true, true, true, true, true, true, true, true, true, false] rfl rfl (by kernel_rfl) (fun _ _ _ h => h) (Or.inl ⟨by rfl, ?_⟩) ?_ ?_
  rotate_left
  · intro w'
    go_simp
    with_reducible rfl
  rotate_left
  · simp only [Act.put, List.setIfInBounds_toArray, List.set_cons_zero, List.set_cons_succ, i64_w, i32_w]
    rfl
  refine last_ (i := 17) (N := none) #[true, true, true, true, true, true, true, true, true, true, true, true, true, true, true, true, true, true] rfl rfl (by kernel_rfl) (by decide) (fun K hK => ?_)
  refine skip_ (w1 := w5.setCells w.heap.size 3 [.slice A1 (ch1 n m 0).length c1]) (by rfl) rfl (store_ev 22 (.tmp 41) (.tmp 40) rfl w.heap.size 3 _ [.slice A1 (ch1 n m 0).length c1] rfl rfl rfl 24 _ H0c.out size22 (Nat.le_of_ble_eq_true rfl) rfl) ?_
  refine hK.out _ _ ?_
  clear hK K
  refine rebase (P := fun W_ => wpAnyLast _ _ _ _ _ _ _ _ _ W_) (fun W_ => (∃ v, W_.heap[w.heap.size]? = some (.cells #[.string (⟨#[]⟩ : ByteArray), .int .i64 1, .int .i64 1, v] 24 (0, 0)) ∧ Kd.N k37 37 W_ w.heap.size (fun k => w.heap.size + 2 ≤ k) v (ch1 n m 0)) ∧ W_.heap[w.heap.size + 1]? = some (.cells #[.int .i64 (1 + n + m)] 3 (0, 0)) ∧ Below w.heap.size w W_) ⟨⟨_, hU.blk, Kd.N_keep HNc.out hU.keep (fun k hk => by omega)⟩, hU.other H1c.out (by omega), hU.below HBc.out (Nat.le_refl _)⟩ ?_
  clear hU H0c H1c HBc HNc HSB H0 H1 HB HS f0 f1 f2 f3 z0
  rintro W5 ⟨⟨v5, h0, hN⟩, h1, hB⟩
  have H0 := Aside0.mk h0
  have H1 := Aside0.mk h1
  have HB := Aside0.mk hB
  have HN := Aside0.mk hN
  clear h0 h1 hB hN
  refine done_ (by kernel_rfl) ?_
  clear hF hHeld
  go_wp2
  have HNR := Aside0.mk (And.intro n1 n2)
  have HMR := Aside0.mk (And.intro m1 m2)
  go_loopg [8] n.toNat (fun kq v8 w' => ∃ i : Int, v8 = .int .i64 i ∧ Aside0 (0 ≤ i ∧ i + kq = n) ∧ (∃ v, Aside0 (w'.heap[w.heap.size]? = some (.cells #[.string (⟨#[]⟩ : ByteArray), .int .i64 1, .int .i64 1, v] 24 (0, 0))) ∧ Aside0 (Kd.N k37 37 w' w.heap.size (fun k => w.heap.size + 2 ≤ k) v (ch1 n m i.toNat))) ∧ Aside0 (w'.heap[w.heap.size + 1]? = some (.cells #[.int .i64 (1 + n + m)] 3 (0, 0))) ∧ Aside0 (Below w.heap.size w w'))
  case atStart => exact ⟨0, rfl, ⟨by omega, by omega⟩, ⟨v5, H0, HN⟩, H1, HB⟩
  case round =>
    clear H0 H1 HB HN
    obtain ⟨i, rfl, HI, ⟨v, H0, HN⟩, H1, HB⟩ := hrel
    obtain ⟨ko, rfl⟩ : ∃ ko : Nat, ko = gk := ⟨_, rfl⟩
    obtain ⟨f0, f1, f2, f3⟩ := box4 H0.out
    have z0 : wr.cell? ⟨w.heap.size + 1, 0, none⟩ = some (.int .i64 (1 + n + m)) := blk_cell H1.out 0
    by_cases hi : i < n
    · have hib : decide (i < n) = true := decide_eq_true hi
      have HL_ : Aside0 ((ch1 n m i.toNat).length < 100) := ⟨by rw [ch1_length]; have h1 := HI.out; have h2 := HNR.out; omega⟩
      have HS_ : Aside0 (w.heap.size + 2 ≤ wr.heap.size) := ⟨blk_lt H1.out⟩
      have HWi : Aside0 (wrap64 (i + 1) = i + 1) := ⟨by unfold wrap64; have h1 := HI.out; have h2 := HNR.out; omega⟩
      have HW2 : Aside0 (wrap64 (2 + i) = 2 + i) := ⟨by unfold wrap64; have h1 := HI.out; have h2 := HNR.out; omega⟩
      have HII := Aside0.mk hi
      by_cases hE : wrap64 (i + 1) = n
      · have hEb : (wrap64 (i + 1) == n) = true := by rw [hE]; exact beq_self_eq_true n
        go_wp2_with (first | ((with_reducible refine gate_builtin (b := .append) (xs := #[.tmp 55, .tmp 59]) rfl ?_); at_builtin; refine Kd.N_append k37 (w0 := w) w.heap.size rfl (.tmp 55) (.tmp 59) 22 37 (.agg #[.slice none 0 0, .int .i64 0, .int .i64 0, .int .i64 0, .int .i64 0]) 56 rfl Try.underlying22 info37 rfl (by decide) (by omega) v (ch1 n m i.toNat) (⟨[], ⟨1, 0, (1 + n + m), 0⟩⟩ : S37) [.slice none 0 0, .int .i64 1, .int .i64 0, .int .i64 (1 + n + m), .int .i64 0] (fun k => w.heap.size + 2 ≤ k) (fun _ => False) rfl ?hx (k37_mkF _ _ (⟨[], ⟨1, 0, (1 + n + m), 0⟩⟩ : S37) (A0 := none) (c0 := 0) (Nat.le_refl _) (Kd.F_nil _ _ _)) ?aP ?aF HN.out HB.out ?aS ?aL ?_; (case hx => rfl); (case aP => exact fun k hk => hk.elim); (case aF => exact fun k hk => Nat.le_trans HS_.out hk); (case aS => exact HB.out.size); (case aL => have h1 := HL_.out; omega); intro v1 w9 ho hb hg hat; have H0n := Aside0.mk (blk_grown H0.out hg (fun he => by have h1 := HN.out.1 _ he.symm; omega)); have H1n := Aside0.mk (blk_grown H1.out hg (fun he => by have h1 := HN.out.1 _ he.symm; omega)); have HBn := Aside0.mk hb; have HNn := Aside0.mk ho; clear ho hb hg hat; obtain ⟨A1_, c1_, rfl⟩ := Kd.N_slice HNn.out; generalize hL_ : ((ch1 n m i.toNat) ++ [(⟨[], ⟨1, 0, (1 + n + m), 0⟩⟩ : S37)]).length = L_ at HNn ⊢; have HL9 := Aside0.mk hL_; clear hL_) | ((with_reducible refine gate_store (t := 22) (p := 61) (v := (.tmp 60)) rfl ?_); refine wpList_seg rfl 22 61 (.tmp 60) rfl rfl w.heap.size 3 _ [.slice A1_ L_ c1_] rfl rfl rfl 24 #[.string (⟨#[]⟩ : ByteArray), .int .i64 1, .int .i64 1, v] H0n.out size22 (Nat.le_of_ble_eq_true rfl) rfl ?_; intro W8 hU_; have hU : Aside0 (Upd _ W8 w.heap.size #[.string (⟨#[]⟩ : ByteArray), .int .i64 1, .int .i64 1, .slice A1_ L_ c1_] 24) := Aside0.mk hU_; clear hU_))
        go_roundg (ko - 1)
        case measure => have h1 := HI.out; have h2 := HII.out; omega
        case rel =>
          have h1 := HI.out
          have h2 := HII.out
          have h3 : wrap64 (i + 1) = i + 1 := HWi.out
          refine ⟨wrap64 (i + 1), rfl, ⟨by omega, by omega⟩, ⟨_, ⟨hU.out.blk⟩, ⟨?_⟩⟩, ⟨hU.out.other H1n.out (by omega)⟩, ⟨hU.out.below HBn.out (Nat.le_refl _)⟩⟩
          rw [h3, ch1_end n m i (by omega) (by omega)]
          exact Kd.N_keep HNn.out hU.out.keep (fun k hk => by omega)
      · have hEb : (wrap64 (i + 1) == n) = false := beq_eq_false_iff_ne.mpr hE
        have HE := Aside0.mk hE
        go_wp2_with (first | ((with_reducible refine gate_builtin (b := .append) (xs := #[.tmp 55, .tmp 59]) rfl ?_); at_builtin; refine Kd.N_append k37 (w0 := w) w.heap.size rfl (.tmp 55) (.tmp 59) 22 37 (.agg #[.slice none 0 0, .int .i64 0, .int .i64 0, .int .i64 0, .int .i64 0]) 56 rfl Try.underlying22 info37 rfl (by decide) (by omega) v (ch1 n m i.toNat) (⟨[], ⟨1, 0, (wrap64 (2 + i)), 0⟩⟩ : S37) [.slice none 0 0, .int .i64 1, .int .i64 0, .int .i64 (wrap64 (2 + i)), .int .i64 0] (fun k => w.heap.size + 2 ≤ k) (fun _ => False) rfl ?hx (k37_mkF _ _ (⟨[], ⟨1, 0, (wrap64 (2 + i)), 0⟩⟩ : S37) (A0 := none) (c0 := 0) (Nat.le_refl _) (Kd.F_nil _ _ _)) ?aP ?aF HN.out HB.out ?aS ?aL ?_; (case hx => rfl); (case aP => exact fun k hk => hk.elim); (case aF => exact fun k hk => Nat.le_trans HS_.out hk); (case aS => exact HB.out.size); (case aL => have h1 := HL_.out; omega); intro v1 w9 ho hb hg hat; have H0n := Aside0.mk (blk_grown H0.out hg (fun he => by have h1 := HN.out.1 _ he.symm; omega)); have H1n := Aside0.mk (blk_grown H1.out hg (fun he => by have h1 := HN.out.1 _ he.symm; omega)); have HBn := Aside0.mk hb; have HNn := Aside0.mk ho; clear ho hb hg hat; obtain ⟨A1_, c1_, rfl⟩ := Kd.N_slice HNn.out; generalize hL_ : ((ch1 n m i.toNat) ++ [(⟨[], ⟨1, 0, (wrap64 (2 + i)), 0⟩⟩ : S37)]).length = L_ at HNn ⊢; have HL9 := Aside0.mk hL_; clear hL_) | ((with_reducible refine gate_store (t := 22) (p := 61) (v := (.tmp 60)) rfl ?_); refine wpList_seg rfl 22 61 (.tmp 60) rfl rfl w.heap.size 3 _ [.slice A1_ L_ c1_] rfl rfl rfl 24 #[.string (⟨#[]⟩ : ByteArray), .int .i64 1, .int .i64 1, v] H0n.out size22 (Nat.le_of_ble_eq_true rfl) rfl ?_; intro W8 hU_; have hU : Aside0 (Upd _ W8 w.heap.size #[.string (⟨#[]⟩ : ByteArray), .int .i64 1, .int .i64 1, .slice A1_ L_ c1_] 24) := Aside0.mk hU_; clear hU_))
        go_roundg (ko - 1)
        case measure => have h1 := HI.out; have h2 := HII.out; omega
        case rel =>
          have h1 := HI.out
          have h2 := HII.out
          have h3 : wrap64 (i + 1) = i + 1 := HWi.out
          refine ⟨wrap64 (i + 1), rfl, ⟨by omega, by omega⟩, ⟨_, ⟨hU.out.blk⟩, ⟨?_⟩⟩, ⟨hU.out.other H1n.out (by omega)⟩, ⟨hU.out.below HBn.out (Nat.le_refl _)⟩⟩
          rw [h3, ch1_go n m i (by omega) (by omega) HE.out]
          exact Kd.N_keep HNn.out hU.out.keep (fun k hk => by omega)
    · have hib : decide (i < n) = false := decide_eq_false hi
      go_wp2
      have h1 := HI.out
      have HN0 : Aside0 (Kd.N k37 37 wr w.heap.size (fun k => w.heap.size + 2 ≤ k) v (ch2 n m 0)) := ⟨by rw [ch2_zero, show n.toNat = i.toNat by omega]; exact HN.out⟩
      clear h1 HN hi hib f0 f1 f2 f3 z0 HI
      obtain ⟨wo, rfl⟩ : ∃ wo : World, wo = wr := ⟨_, rfl⟩
      obtain ⟨v6, rfl⟩ : ∃ v6 : Value, v6 = v := ⟨_, rfl⟩
      obtain ⟨i6, rfl⟩ : ∃ i6 : Int, i6 = i := ⟨_, rfl⟩
      go_loopg [10] m.toNat (fun kq v10 w' => ∃ i : Int, v10 = .int .i64 i ∧ Aside0 (0 ≤ i ∧ i + kq = m) ∧ (∃ v, Aside0 (w'.heap[w.heap.size]? = some (.cells #[.string (⟨#[]⟩ : ByteArray), .int .i64 1, .int .i64 1, v] 24 (0, 0))) ∧ Aside0 (Kd.N k37 37 w' w.heap.size (fun k => w.heap.size + 2 ≤ k) v (ch2 n m i.toNat))) ∧ Aside0 (w'.heap[w.heap.size + 1]? = some (.cells #[.int .i64 (1 + n + m)] 3 (0, 0))) ∧ Aside0 (Below w.heap.size w w'))
      case atStart => exact ⟨0, rfl, ⟨by omega, by omega⟩, ⟨v6, H0, HN0⟩, H1, HB⟩
      case round =>
        clear H0 H1 HB HN0
        obtain ⟨i, rfl, HI, ⟨v, H0, HN⟩, H1, HB⟩ := hrel
        obtain ⟨ko, rfl⟩ : ∃ ko : Nat, ko = gk := ⟨_, rfl⟩
        obtain ⟨f0, f1, f2, f3⟩ := box4 H0.out
        have HL_ : Aside0 ((ch2 n m i.toNat).length < 100) := ⟨by rw [ch2_length]; have h1 := HI.out; have h2 := HNR.out; have h3 := HMR.out; omega⟩
        have HS_ : Aside0 (w.heap.size + 2 ≤ wr.heap.size) := ⟨blk_lt H1.out⟩
        by_cases hi : i < m
        · have hib : decide (i < m) = true := decide_eq_true hi
          have HWi : Aside0 (wrap64 (i + 1) = i + 1) := ⟨by unfold wrap64; have h1 := HI.out; have h2 := HMR.out; omega⟩
          have HII := Aside0.mk hi
          go_wp2_with (first | ((with_reducible refine gate_builtin (b := .append) (xs := #[.tmp 68, .tmp 75]) rfl ?_); at_builtin; refine Kd.N_append k37 (w0 := w) w.heap.size rfl (.tmp 68) (.tmp 75) 22 37 (.agg #[.slice none 0 0, .int .i64 0, .int .i64 0, .int .i64 0, .int .i64 0]) 56 rfl Try.underlying22 info37 rfl (by decide) (by omega) v (ch2 n m i.toNat) (⟨[], ⟨1, 0, wrap64 (2 + n + i), 0⟩⟩ : S37) [.slice none 0 0, .int .i64 1, .int .i64 0, .int .i64 (wrap64 (2 + n + i)), .int .i64 0] (fun k => w.heap.size + 2 ≤ k) (fun _ => False) rfl ?hx (k37_mkF _ _ (⟨[], ⟨1, 0, wrap64 (2 + n + i), 0⟩⟩ : S37) (A0 := none) (c0 := 0) (Nat.le_refl _) (Kd.F_nil _ _ _)) ?aP ?aF HN.out HB.out ?aS ?aL ?_; (case hx => rfl); (case aP => exact fun k hk => hk.elim); (case aF => exact fun k hk => Nat.le_trans HS_.out hk); (case aS => exact HB.out.size); (case aL => have h1 := HL_.out; omega); intro v1 w9 ho hb hg hat; have H0n := Aside0.mk (blk_grown H0.out hg (fun he => by have h1 := HN.out.1 _ he.symm; omega)); have H1n := Aside0.mk (blk_grown H1.out hg (fun he => by have h1 := HN.out.1 _ he.symm; omega)); have HBn := Aside0.mk hb; have HNn := Aside0.mk ho; clear ho hb hg hat; obtain ⟨A1_, c1_, rfl⟩ := Kd.N_slice HNn.out; generalize hL_ : ((ch2 n m i.toNat) ++ [(⟨[], ⟨1, 0, wrap64 (2 + n + i), 0⟩⟩ : S37)]).length = L_ at HNn ⊢; have HL9 := Aside0.mk hL_; clear hL_) | ((with_reducible refine gate_store (t := 22) (p := 77) (v := (.tmp 76)) rfl ?_); refine wpList_seg rfl 22 77 (.tmp 76) rfl rfl w.heap.size 3 _ [.slice A1_ L_ c1_] rfl rfl rfl 24 #[.string (⟨#[]⟩ : ByteArray), .int .i64 1, .int .i64 1, v] H0n.out size22 (Nat.le_of_ble_eq_true rfl) rfl ?_; intro W8 hU_; have hU : Aside0 (Upd _ W8 w.heap.size #[.string (⟨#[]⟩ : ByteArray), .int .i64 1, .int .i64 1, .slice A1_ L_ c1_] 24) := Aside0.mk hU_; clear hU_))
          go_roundg (ko - 1)
          case measure => have h1 := HI.out; have h2 := HII.out; omega
          case rel =>
            have h1 := HI.out
            have h2 := HII.out
            have h3 : wrap64 (i + 1) = i + 1 := HWi.out
            refine ⟨wrap64 (i + 1), rfl, ⟨by omega, by omega⟩, ⟨_, ⟨hU.out.blk⟩, ⟨?_⟩⟩, ⟨hU.out.other H1n.out (by omega)⟩, ⟨hU.out.below HBn.out (Nat.le_refl _)⟩⟩
            rw [h3, ch2_go n m i (by omega) (by omega) (by omega) (by omega)]
            exact Kd.N_keep HNn.out hU.out.keep (fun k hk => by omega)

        · have hib : decide (i < m) = false := decide_eq_false hi
          have h1 := HI.out
          have HNm : Aside0 (Kd.N k37 37 wr w.heap.size (fun k => w.heap.size + 2 ≤ k) v (ch2 n m m.toNat)) := ⟨by rw [show m.toNat = i.toNat by omega]; exact HN.out⟩
          have HLm : Aside0 ((ch2 n m m.toNat).length < 100) := ⟨by rw [show m.toNat = i.toNat by omega]; exact HL_.out⟩
          clear HN HL_ h1
          obtain ⟨HN, rfl⟩ : ∃ HN, HN = HNm := ⟨_, rfl⟩
          obtain ⟨HL_, rfl⟩ : ∃ HL_, HL_ = HLm := ⟨_, rfl⟩
          go_upto_region 18 with (first | ((with_reducible refine gate_builtin (b := .append) (xs := #[.tmp 79, .tmp 84]) rfl ?_); at_builtin; refine Kd.N_append k37 (w0 := w) w.heap.size rfl (.tmp 79) (.tmp 84) 22 37 (.agg #[.slice none 0 0, .int .i64 0, .int .i64 0, .int .i64 0, .int .i64 0]) 56 rfl Try.underlying22 info37 rfl (by decide) (by omega) v (ch2 n m m.toNat) lastB [.slice (some ⟨wr.heap.size, 0, none⟩) 1 1, .int .i64 3, .int .i64 0, .int .i64 0, .int .i64 0] (fun k => w.heap.size + 2 ≤ k) (fun k => k = wr.heap.size) rfl ?hx (k37_mkF _ _ lastB (Nat.le_refl _) (F_one (new1 wr (.cells #[.int .i64 6, .int .i64 0, .int .i64 0, .int .i64 0, .int .i64 0, .int .i64 0, .int .i64 0, .int .i64 0, .complex .f64 0 0, .string (⟨#[]⟩ : ByteArray), .slice none 0 0, .slice none 0 0] 32)))) ?aP ?aF (Kd.N_alloc HN.out _) (below_alloc HB.out _) ?aS ?aL ?_; (case hx => exact congrArg (fun k => Value.slice (some ⟨k, 0, none⟩) 1 1) (World.size_alloc _ _).symm); (case aP => exact fun k hk => ⟨by rw [hk]; exact HS_.out, fun he => by have h1 := Kd.N_lt HN.out k he.symm; omega⟩); (case aF => exact fun k hk => Nat.le_trans (Nat.le_trans HS_.out (Nat.le_of_lt (size_alloc_lt' wr _))) hk); (case aS => exact Nat.le_trans HB.out.size (Nat.le_of_lt (size_alloc_lt' wr _))); (case aL => have h1 := HL_.out; omega); intro v1 w9 ho hb hg hat; have H0n := Aside0.mk (blk_grown (blk_alloc H0.out _) hg (fun he => by have h1 := HN.out.1 _ he.symm; omega)); have H1n := Aside0.mk (blk_grown (blk_alloc H1.out _) hg (fun he => by have h1 := HN.out.1 _ he.symm; omega)); have HBn := Aside0.mk hb; have HNn := Aside0.mk ho; clear ho hb hg hat; obtain ⟨A1_, c1_, rfl⟩ := Kd.N_slice HNn.out; generalize hL_ : ((ch2 n m m.toNat) ++ [lastB]).length = L_ at HNn ⊢; have HL9 := Aside0.mk hL_; clear hL_) | ((with_reducible refine gate_store (t := 22) (p := 86) (v := (.tmp 85)) rfl ?_); refine wpList_seg rfl 22 86 (.tmp 85) rfl rfl w.heap.size 3 _ [.slice A1_ L_ c1_] rfl rfl rfl 24 #[.string (⟨#[]⟩ : ByteArray), .int .i64 1, .int .i64 1, v] H0n.out size22 (Nat.le_of_ble_eq_true rfl) rfl ?_; intro W8 hU_; have hU : Aside0 (Upd _ W8 w.heap.size #[.string (⟨#[]⟩ : ByteArray), .int .i64 1, .int .i64 1, .slice A1_ L_ c1_] 24) := Aside0.mk hU_; clear hU_))
          have hN8 : Kd.N k37 37 W8 w.heap.size (fun k => w.heap.size + 2 ≤ k) (.slice A1_ L_ c1_) (chain n m) := Kd.N_keep HNn.out hU.out.keep (fun k hk => by omega)
          have hR8 := Kd.N_reads' hN8
          have HR8 : Aside0 (L_ = (chain n m).length ∧ L_ ≤ c1_ ∧ Kd.C k37 W8 A1_ L_ (chain n m)) := ⟨hR8.1, hR8.2.1, by rw [hR8.1]; exact hR8.2.2⟩
          have HB8 := Aside0.mk (hU.out.below HBn.out (Nat.le_refl _))
          obtain ⟨f0, f1, f2, f3⟩ := box4 hU.out.blk
          clear hR8 hN8 hU HNn HBn H0n H1n HL9 HN HL_ H0 H1 HB
          go_upto_region 19 with (go_at_call 5; refine (Run_chain n m n1 n2 m1 m2 A1_ L_ HR8.out.1 c1_ _ HR8.out.2.2 HR8.out.2.1).mono ?_; rintro e w10 ⟨A9, c9, rfl, hc9, hN, hb⟩; have HB10 := Aside0.mk (below_step HB8.out hb); have HN10 := Aside0.mk hN; clear hc9 hN hb f0 f1 f2 f3)
          refine rebase (P := fun W_ => Code.wp _ _ _ _ W_) (fun W_ => W_.heap[w10.heap.size]? = some (.cells #[.string (⟨#[]⟩ : ByteArray), .int .i64 1, .int .i64 1, .slice A9 1 1] 24 (0, 0)) ∧ Kd.C k37 W_ A9 1 [(⟨[rout, rout], ⟨3, 0, 0, 0⟩⟩ : S37)] ∧ Below w.heap.size w W_) ⟨new1 _ _, Kd.C_alloc (Kd.N_reads' HN10.out).2.2 _, below_alloc HB10.out _⟩ ?_
          clear HB10 HN10 HR8 HB8
          rintro W11 ⟨h0, h1, hB⟩
          have H0 := Aside0.mk h0
          have H1 := Aside0.mk h1
          have HB := Aside0.mk hB
          clear h0 h1 hB
          go_upto_region 20 with (fail)
          refine rebase (P := fun W_ => Code.wp _ _ _ _ W_) (fun W_ => W_.heap[w10.heap.size]? = some (.cells #[.string (⟨#[]⟩ : ByteArray), .int .i64 1, .int .i64 1, .slice A9 1 1] 24 (0, 0)) ∧ W_.heap[W11.heap.size + 2]? = some (.cells #[.string (⟨#[]⟩ : ByteArray), .int .i64 1, .int .i64 1, .slice (some ⟨W11.heap.size + 1, 0, none⟩) 1 1] 24 (0, 0)) ∧ Kd.C k37 W_ A9 1 [(⟨[rout, rout], ⟨3, 0, 0, 0⟩⟩ : S37)] ∧ Kd.C k37 W_ (some ⟨W11.heap.size + 1, 0, none⟩) 1 [(⟨[rout, rout], ⟨3, 0, 0, 0⟩⟩ : S37)] ∧ Below w.heap.size w W_) ⟨blk_alloc (blk_alloc (blk_alloc H0.out _) _) _, new3 _ _ _ _, Kd.C_alloc (Kd.C_alloc (Kd.C_alloc H1.out _) _) _, C_want (i := W11.heap.size) (blk_alloc (new2 _ _ _) _) (blk_alloc (new12 _ _ _) _), below_alloc (below_alloc (below_alloc HB.out _) _) _⟩ ?_
          clear H0 H1 HB
          rintro W12 ⟨h0, h2, hC1, hC2, hB⟩
          have H0 := Aside0.mk h0
          have H2 := Aside0.mk h2
          have HC1 := Aside0.mk hC1
          have HC2 := Aside0.mk hC2
          have HB := Aside0.mk hB
          obtain ⟨f0, f1, f2, f3⟩ := box4 h0
          obtain ⟨g0, g1, g2, g3⟩ := box4 h2
          clear h0 h2 hC1 hC2 hB
          go_wp2_with (first | (go_at_call 6; refine (SameFn_calls (⟨#[]⟩ : ByteArray) 1 1 A9 1 [(⟨[rout, rout], ⟨3, 0, 0, 0⟩⟩ : S37)] (some ⟨W11.heap.size + 1, 0, none⟩) 1 _ HC1.out HC2.out want_noK).mono ?_; rintro e w13 ⟨rfl, hb⟩; have HB13 := Aside0.mk (below_step HB.out hb); clear hb f0 f1 f2 f3 g0 g1 g2 g3) | (go_at_call 7; refine (awake_calls _).mono ?_; rintro e w14 ⟨rfl, hb⟩; have HB14 := Aside0.mk (below_step HB13.out hb); clear hb))
          go_ret
          exact ⟨rfl, HB14.out⟩
end Go.Proofs.Ytdndnjpfpelimaa.PG
