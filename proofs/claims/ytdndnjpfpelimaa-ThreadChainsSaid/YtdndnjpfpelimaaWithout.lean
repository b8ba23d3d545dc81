/- Function 18: the row without one block. -/
import Derived.Test.YtdndnjpfpelimaaDel
import Derived.Test.YtdndnjpfpelimaaPGx0
import Derived.Test.YtdndnjpfpelimaaU
namespace Go.Proofs.Ytdndnjpfpelimaa.PG
open Go.RowKit Go.Proofs.YtdndnjpfpelimaaW.PrintWords Go.Proofs.YtdndnjpfpelimaaW.PrintLast Go.Proofs.YtdndnjpfpelimaaW.PrintMore
attribute [local go_sem] max2_int min2_int max_two min_two max_three min_three max_four min_four   -- for this text's walks alone
set_option linter.unusedVariables false
set_option linter.unusedSimpArgs false
attribute [local go_sem] run_store_complex
set_option maxHeartbeats 4000000 in
set_option maxRecDepth 100000 in
theorem without_calls (b g : Nat) (base cap : Nat) (ok : Nat → Prop) (nm : ByteArray) (p q : Int) (lx : List S32) (x1 x2 x3 : Int) (y : S37) (w : World) (hb : w.heap[b]? = some (.cells #[.string nm, .int .i64 p, .int .i64 q, .slice (some ⟨g, 0, none⟩) 2 2] 24 (0, 0))) (hN : Kd.N k37 37 w base ok (.slice (some ⟨g, 0, none⟩) 2 cap) [(⟨lx, ⟨3, x1, x2, x3⟩⟩ : S37), y]) (hbok : ∀ k, ok k → k ≠ b) :
    Calls Try.prog 18 #[.pointer (some ⟨b, 0, none⟩), .int .i64 1] w fun e w' => e = .returned (.tuple #[]) ∧ w'.heap[b]? = some (.cells #[.string nm, .int .i64 p, .int .i64 q, .slice (some ⟨g, 0, none⟩) 1 2] 24 (0, 0)) ∧ Kd.N k37 37 w' base ok (.slice (some ⟨g, 0, none⟩) 1 cap) [(⟨lx, ⟨3, x1, x2, x3⟩⟩ : S37)] ∧ Kept w w' (fun k => k = b ∨ k = g) ∧ ∀ {B : Nat} {w0 : World}, Below B w0 w → B ≤ b → B ≤ g → Below B w0 w' := by
  have HX := Aside0.mk hb
  have HN := Aside0.mk hN
  have HOK := Aside0.mk hbok
  clear hb hN hbok
  have hu24 := Try.underlying24
  have hu37 := Try.underlying37
  have hu35 := Try.underlying35
  have hmf : ∀ (fn : Fn) (first cap : Array Value) (w : World), (Instr.makeFunc fn first cap).run Try.prog w = .ok (.func fn first cap) w := fun _ _ _ _ => rfl
  go_enter Try.func18, Try.ntmps18
  go_upto_region 1 with (fail)
  refine rebase (P := fun W_ => Code.wp _ _ _ _ W_) (fun W_ => W_.heap[b]? = some (.cells #[.string nm, .int .i64 p, .int .i64 q, .slice (some ⟨g, 0, none⟩) 2 2] 24 (0, 0)) ∧ W_.heap[w.heap.size]? = some (.cells #[.int .i64 1] 3 (0, 0)) ∧ Kd.N k37 37 W_ base ok (.slice (some ⟨g, 0, none⟩) 2 cap) [(⟨lx, ⟨3, x1, x2, x3⟩⟩ : S37), y] ∧ Below w.heap.size w W_) ⟨blk_alloc HX.out _, new1 _ _, Kd.N_alloc HN.out _, below_alloc (Below.refl _ _) _⟩ ?_
  rintro W1 ⟨h0, h1, h2, h3⟩
  have HX1 := Aside0.mk h0
  have HZ1 := Aside0.mk h1
  have HN1 := Aside0.mk h2
  have HB1 := Aside0.mk h3
  have HGO := Aside0.mk (h2.1 g (by simp [Value.ownBlock]))
  have HGW := Aside0.mk (Kd.N_lt HN.out g (by simp [Value.ownBlock]))
  have HBW := Aside0.mk (blk_lt HX.out)
  have HNE : Aside0 (b ≠ g) := ⟨fun h => HOK.out g HGO.out h.symm⟩
  have HNE2 : Aside0 (w.heap.size ≠ g) := ⟨by have h1 := HGW.out; omega⟩
  obtain ⟨old, ho1, ho2⟩ := row_typed h2 1 (by decide) (by decide)
  have HG : Aside0 (W1.heap[g]? = some (.cells old 37 (0, 0)) ∧ 10 ≤ old.size) := ⟨ho1, ho2⟩
  obtain ⟨f0, f1, f2, f3⟩ := box4 h0
  have z0 := blk_cell h1 0
  clear h0 h1 h2 h3 ho1 ho2
  have hw2 : Aside0 (wrap64 2 = 2) := ⟨by unfold wrap64; omega⟩
  refine start_ (n := 12) (S := fun w' => w'.cell? ⟨b, 3, none⟩ = some (.slice (some ⟨g, 0, none⟩) 2 2) ∧ w'.cell? ⟨w.heap.size, 0, none⟩ = some (.int .i64 1)) (ds := [11]) #[false, false, false, false, false, false, false, false, false, false, false, false] (by kernel_rfl) rfl rfl ⟨f3, z0⟩ (fun hHeld => ?_)
  refine pure_ (i := 0) (N := some 7) (v := ?_) (a' := ?_) #[true, false, false, false, false, false, false, false, false, false, false, false] rfl rfl (by kernel_rfl) (fun _ _ _ h => h) (Or.inl ⟨by rfl, ?_⟩) ?_ ?_
  rotate_left
  · intro w'
    go_simp
    with_reducible rfl
  rotate_left
  · simp only [Act.put, List.setIfInBounds_toArray, List.set_cons_zero, List.set_cons_succ, i64_w, i32_w]
    rfl
  refine pure_ (i := 1) (N := some 8) (v := ?_) (a' := ?_) #[true, true, false, false, false, false, false, false, false, false, false, false] rfl rfl (by kernel_rfl) (fun _ _ _ h => h) (Or.inl ⟨by rfl, ?_⟩) ?_ ?_
  rotate_left
  · intro w'
    go_simp
    with_reducible rfl
  rotate_left
  · simp only [Act.put, List.setIfInBounds_toArray, List.set_cons_zero, List.set_cons_succ, i64_w, i32_w]
    rfl
  refine pure_ (i := 2) (N := some 9) (v := ?_) (a' := ?_) #[true, true, true, false, false, false, false, false, false, false, false, false] rfl rfl (by kernel_rfl) (fun _ _ _ h => h) (Or.inl ⟨by rfl, ?_⟩) ?_ ?_
  rotate_left
  · intro w'
    go_simp
    with_reducible rfl
  rotate_left
  · simp only [Act.put, List.setIfInBounds_toArray, List.set_cons_zero, List.set_cons_succ, i64_w, i32_w]
    rfl
  refine pure_ (i := 3) (N := some 10) (v := ?_) (a' := ?_) #[true, true, true, true, false, false, false, false, false, false, false, false] rfl rfl (by kernel_rfl) (fun _ _ _ h => h) (Or.inl ⟨by rfl, ?_⟩) ?_ ?_
  rotate_left
  · intro w'
    go_simp
    with_reducible rfl
  rotate_left
  · simp only [Act.put, List.setIfInBounds_toArray, List.set_cons_zero, List.set_cons_succ, i64_w, i32_w]
    rfl
  refine take_ (i := 4) (N := some 11) (v := ?_) (a' := ?_) #[true, true, true, true, true, false, false, false, false, false, false, false] rfl rfl (by kernel_rfl) (fun _ _ _ h => h) (Or.inl ⟨by rfl, ?_⟩) hHeld ?_ ?_
  rotate_left
  · rintro w' ⟨s0, s1⟩
    go_simp
    with_reducible rfl
  rotate_left
  · simp only [Act.put, List.setIfInBounds_toArray, List.set_cons_zero, List.set_cons_succ, i64_w, i32_w]
    rfl
  refine take_ (i := 5) (N := some 12) (v := ?_) (a' := ?_) #[true, true, true, true, true, true, false, false, false, false, false, false] rfl rfl (by kernel_rfl) (fun _ _ _ h => h) (Or.inl ⟨by rfl, ?_⟩) hHeld ?_ ?_
  rotate_left
  · rintro w' ⟨s0, s1⟩
    go_simp
    with_reducible rfl
  rotate_left
  · simp only [Act.put, List.setIfInBounds_toArray, List.set_cons_zero, List.set_cons_succ, i64_w, i32_w]
    rfl
  refine take_ (i := 6) (N := some 13) (v := ?_) (a' := ?_) #[true, true, true, true, true, true, true, false, false, false, false, false] rfl rfl (by kernel_rfl) (fun _ _ _ h => h) (Or.inl ⟨by rfl, ?_⟩) hHeld ?_ ?_
  rotate_left
  · rintro w' ⟨s0, s1⟩
    go_simp
    with_reducible rfl
  rotate_left
  · simp only [Act.put, List.setIfInBounds_toArray, List.set_cons_zero, List.set_cons_succ, i64_w, i32_w]
    rfl
  refine pure_ (i := 7) (N := some 14) (v := ?_) (a' := ?_) #[true, true, true, true, true, true, true, true, false, false, false, false] rfl rfl (by kernel_rfl) (fun _ _ _ h => h) (Or.inl ⟨by rfl, ?_⟩) ?_ ?_
  rotate_left
  · intro w'
    go_simp
    with_reducible rfl
  rotate_left
  · simp only [Act.put, List.setIfInBounds_toArray, List.set_cons_zero, List.set_cons_succ, i64_w, i32_w]
    rfl
  refine one_ (i := 8) (N := (some 15)) #[true, true, true, true, true, true, true, true, true, false, false, false] rfl rfl (by kernel_rfl) (by decide) (fun K hK => ?_)
  refine goes_ (f := 28) Try.func28 (by kernel_rfl) rfl #[.slice (some ⟨g, 0, none⟩) 2 2, .int .i64 1, .int .i64 2] (by rfl) rfl rfl (by (try simp only [List.map_toArray, List.map_cons, List.map_nil]); first | done | rfl | (show #[_, _, Value.int .i64 (wrap64 2)] = _; rw [hw2.out]; rfl)) ?_
  refine (Delete_calls g old W1.drew HG.out.1 HG.out.2).mono ?_
  rintro e w4 ⟨rfl, hw4⟩
  refine ⟨_, rfl, ?_⟩
  have hU : Upd W1.drew.drew w4 g (putSeg old 5 [.slice none 0 0, .int .i64 0, .int .i64 0, .int .i64 0, .int .i64 0]) 37 := by rw [hw4]; exact setCells_upd _ W1.drew.drew old 5 HG.out.1
  have HN4 : Aside0 (Kd.N k37 37 w4 base ok (.slice (some ⟨g, 0, none⟩) 1 cap) [(⟨lx, ⟨3, x1, x2, x3⟩⟩ : S37)]) := ⟨by rw [hw4]; exact del_row (Kd.N_drew (Kd.N_drew HN1.out))⟩
  have H4 := Aside0.mk (hU.other (W := W1.drew.drew) HX1.out HNE.out)
  have c4 := blk_cell H4.out 3
  have cf4 := blk_frozen H4.out 3
  have HU4 := Aside0.mk hU
  clear hU hw4
  refine hK.out _ _ ⟨c4, (blk_cell (HU4.out.other (W := W1.drew.drew) HZ1.out HNE2.out) 0)⟩ (fun hHeld => ?_)
  clear hK K
  refine norm_ (a' := ?_) ?_ ?_
  rotate_left
  · show Act.put _ (some 15) _ = _
    simp only [Act.put, List.setIfInBounds_toArray, List.set_cons_zero, List.set_cons_succ, i64_w, i32_w]
    rfl
  refine pure_ (i := 9) (N := some 16) (v := ?_) (a' := ?_) #[true, true, true, true, true, true, true, true, true, true, false, false] rfl rfl (by kernel_rfl) (fun _ _ _ h => h) (Or.inl ⟨by rfl, ?_⟩) ?_ ?_
  rotate_left
  · intro w'
    go_simp
    with_reducible rfl
  rotate_left
  · simp only [Act.put, List.setIfInBounds_toArray, List.set_cons_zero, List.set_cons_succ, i64_w, i32_w]
    rfl
  refine pure_ (i := 10) (N := some 17) (v := ?_) (a' := ?_) #[true, true, true, true, true, true, true, true, true, true, true, false] rfl rfl (by kernel_rfl) (fun _ _ _ h => h) (Or.inl ⟨by rfl, ?_⟩) ?_ ?_
  rotate_left
  · intro w'
    go_simp
    with_reducible rfl
  rotate_left
  · simp only [Act.put, List.setIfInBounds_toArray, List.set_cons_zero, List.set_cons_succ, i64_w, i32_w]
    rfl
  refine last_ (i := 11) (N := none) #[true, true, true, true, true, true, true, true, true, true, true, true] rfl rfl (by kernel_rfl) (by decide) (fun K hK => ?_)
  refine skip_ (w1 := ?_) (by rfl) rfl ?_ ?_
  rotate_left
  · go_simp
    rfl
  refine hK.out _ _ ?_
  clear hK K
  refine done_ (by kernel_rfl) ?_
  have HB4 : Aside0 (∀ (B : Nat) (w0 : World), Below B w0 w → B ≤ b → B ≤ g → Below B w0 w4) := ⟨fun B w0 h h1 h2 => by
    have h3 : Below B w0 W1 := h.trans (HB1.out.mono (by have := HBW.out; omega))
    exact HU4.out.below (below_drew (below_drew h3)) h2⟩
  have HKP : Aside0 (Kept w w4 (fun k => k = b ∨ k = g)) := ⟨by rw [HU4.out.size]; exact HB1.out.size, fun i hi hn => (HU4.out.far i (fun h => hn (Or.inr h))).trans (HB1.out.block i hi)⟩
  refine rebase (P := fun W_ => Exit.then _ _ _ _ W_) (fun W_ => W_.heap[b]? = some (.cells #[.string nm, .int .i64 p, .int .i64 q, .slice (some ⟨g, 0, none⟩) 1 2] 24 (0, 0)) ∧ Kd.N k37 37 W_ base ok (.slice (some ⟨g, 0, none⟩) 1 cap) [(⟨lx, ⟨3, x1, x2, x3⟩⟩ : S37)] ∧ Kept w W_ (fun k => k = b ∨ k = g) ∧ ∀ (B : Nat) (w0 : World), Below B w0 w → B ≤ b → B ≤ g → Below B w0 W_) ⟨blk_put H4.out 3 _ rfl, Kd.N_far (p := ⟨b, 3, none⟩) HN4.out (fun k hk => HOK.out k hk) _, ⟨by rw [World.size_setCell]; exact HKP.out.1, fun i hi hn => (Below.heap_setCell w4 ⟨b, 3, none⟩ _ i (fun h => hn (Or.inl h))).trans (HKP.out.2 i hi hn)⟩, fun B w0 h h1 h2 => (HB4.out B w0 h h1 h2).setCell h1 _⟩ ?_
  clear hHeld c4 cf4 f0 f1 f2 f3 z0
  rintro W5 ⟨h0, h1, h2, h3⟩
  have HX5 := Aside0.mk h0
  have HN5 := Aside0.mk h1
  have HK5 := Aside0.mk h2
  have HB5 := Aside0.mk h3
  obtain ⟨f0, f1, f2, f3⟩ := box4 h0
  obtain ⟨A0, c0, _, _, y0, y1, y2, y3, y4, _⟩ := row_at h1 0 (by decide) (by decide) (l := lx) (t := ⟨3, x1, x2, x3⟩) rfl
  dsimp only at y1 y2 y3 y4
  simp only [Int.toNat_zero, Nat.zero_mul, Nat.zero_add] at y0 y1 y2 y3 y4
  clear h0 h1 h2 h3
  go_wp2
  refine wp_loop_rounds 2 ?_
  rw [rounds_succ]
  go_wp2
  rw [rounds_succ]
  go_wp2
  (try simp only [Exit.inBlock, Exit.then])
  first | (refine bodyPost_end (results_none rfl _ _ _) rfl ?_) | (refine bodyPost_ret (results_none rfl _ _ _) rfl ?_)
  exact ⟨rfl, HX5.out, HN5.out, HK5.out, fun {B} {w0} h h1 h2 => HB5.out B w0 h h1 h2⟩
end Go.Proofs.Ytdndnjpfpelimaa.PG
