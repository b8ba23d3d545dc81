/- Functions 28 and 29: a block is taken out of a row. -/
import Derived.Test.YtdndnjpfpelimaaRow
import Derived.Test.YtdndnjpfpelimaaPGx0
import Derived.Test.YtdndnjpfpelimaaU
namespace Go.Proofs.Ytdndnjpfpelimaa.PG
open Go.RowKit Go.Proofs.YtdndnjpfpelimaaW.PrintWords Go.Proofs.YtdndnjpfpelimaaW.PrintLast Go.Proofs.YtdndnjpfpelimaaW.PrintMore
attribute [local go_sem] max2_int min2_int max_two min_two max_three min_three max_four min_four   -- for this text's walks alone
set_option linter.unusedVariables false
set_option linter.unusedSimpArgs false
attribute [local go_sem] run_store_complex
theorem zero37 (w : World) : (zeroValue 37).run Try.prog w = .ok (.agg #[.slice none 0 0, .int .i64 0, .int .i64 0, .int .i64 0, .int .i64 0]) w := by kernel_rfl
theorem append_none (W : World) (ty : TypeId) (a : Addr) (n c : Nat) (A' : Option Addr) (c' : Nat) (hn : n ≤ c) : (Builtin.append_ #[22, 22] ty #[.slice (some a) n c, .slice A' 0 c']).run Try.prog W = .ok (.slice (some a) n c) W := by
  obtain ⟨i0, hi, _, hsz, _⟩ := info_parts info37
  cases A' <;> simp [Builtin.append_, run_underlying Try.underlying22, sizeOf, typeInfo, hi, hsz, Builtin.lenOf, Builtin.firstCells, hn, loadCells, storeCells, loadCellsFrom]
theorem clear_one (W : World) (ty : TypeId) (g c : Nat) (old : Array Value) (hg : W.heap[g]? = some (.cells old 37 (0, 0))) (ho : 10 ≤ old.size) : (Builtin.clear_ #[22] ty #[.slice (some ⟨g, 5, none⟩) 1 c]).run Try.prog W = .ok (.tuple #[]) (W.setCells g 5 [.slice none 0 0, .int .i64 0, .int .i64 0, .int .i64 0, .int .i64 0]) := by
  have hst := Go.run_storeCells_cells (P := Try.prog) g 5 [.slice none 0 0, .int .i64 0, .int .i64 0, .int .i64 0, .int .i64 0] 0 W (fun j hj => by
    rw [blk_cell hg]
    have : 5 + 0 + j < old.size := by simp at hj; omega
    rw [Array.getElem?_eq_getElem this]
    rfl) (fun j hj => blk_frozen hg _) (by simp [Value.oneCell'])
  rw [Nat.add_zero] at hst
  have hz : (Builtin.zeroCells (Value.agg #[.slice none 0 0, .int .i64 0, .int .i64 0, .int .i64 0, .int .i64 0]).cells 1).toList = [.slice none 0 0, .int .i64 0, .int .i64 0, .int .i64 0, .int .i64 0] := by kernel_rfl
  simp [Builtin.clear_, run_underlying Try.underlying22, zero37, hz, hst]
theorem del_row {W : World} {base g cap : Nat} {ok : Nat → Prop} {x y : S37} (h : Kd.N k37 37 W base ok (.slice (some ⟨g, 0, none⟩) 2 cap) [x, y]) :
    Kd.N k37 37 (W.setCells g 5 [.slice none 0 0, .int .i64 0, .int .i64 0, .int .i64 0, .int .i64 0]) base ok (.slice (some ⟨g, 0, none⟩) 1 cap) [x] := by
  obtain ⟨cc, hcl, hFK, hcells, hfr⟩ := Kd.N_elem h z37 1 (by decide) (by decide)
  have hz : Kd.FK k37 W (fun k => ok k ∧ k ≠ g) z37 [.slice none 0 0, .int .i64 0, .int .i64 0, .int .i64 0, .int .i64 0] := k37_mkF W _ z37 (A0 := none) (c0 := 0) (Nat.le_refl _) (Kd.F_nil k32 W _)
  have hcl5 : cc.length = 5 := hcl
  have e : cc.take 0 ++ [.slice none 0 0, .int .i64 0, .int .i64 0, .int .i64 0, .int .i64 0] ++ cc.drop (0 + ([.slice none 0 0, .int .i64 0, .int .i64 0, .int .i64 0, .int .i64 0] : List Value).length) = [.slice none 0 0, .int .i64 0, .int .i64 0, .int .i64 0, .int .i64 0] := by
    rw [List.take_zero, List.nil_append, List.drop_of_length_le (by simp [hcl5]), List.append_nil]
  have h2 := (Kd.N_seg h 1 (by decide) (by decide) (c := cc) (seg := [.slice none 0 0, .int .i64 0, .int .i64 0, .int .i64 0, .int .i64 0]) (j := 0) (x' := z37) (okp := fun k => ok k ∧ k ≠ g) hcl hcells (Nat.le_of_ble_eq_true rfl) (by rw [e]; exact hz) (fun _ hk => hk)).1
  have h3 : Kd.N k37 37 (W.setCells g 5 [.slice none 0 0, .int .i64 0, .int .i64 0, .int .i64 0, .int .i64 0]) base ok (.slice (some ⟨g, 0, none⟩) 2 cap) [x, z37] := h2
  exact Kd.N_take h3 (m := 1) (by simp)
set_option maxHeartbeats 4000000 in
set_option maxRecDepth 100000 in
theorem Delete_calls (g : Nat) (old : Array Value) (w : World) (hg : w.heap[g]? = some (.cells old 37 (0, 0))) (ho : 10 ≤ old.size) :
    Calls Try.prog 28 #[.slice (some ⟨g, 0, none⟩) 2 2, .int .i64 1, .int .i64 2] w fun e w' => e = .returned (.slice (some ⟨g, 0, none⟩) 1 2) ∧ w' = w.drew.setCells g 5 [.slice none 0 0, .int .i64 0, .int .i64 0, .int .i64 0, .int .i64 0] := by
  have hap := append_none
  have hcl := fun ty c => clear_one w.drew ty g c old hg ho
  obtain ⟨i0, hi, _, hsz, _⟩ := info_parts info37
  go_enter Try.func28, Try.ntmps28
  go_wp2
  refine start_ (n := 8) (S := fun w' => True) (ds := []) #[false, false, false, false, false, false, false, false] (by kernel_rfl) rfl rfl trivial (fun hHeld => ?_)
  refine pure_ (i := 0) (N := some 20) (v := ?_) (a' := ?_) #[true, false, false, false, false, false, false, false] rfl rfl (by kernel_rfl) (fun _ _ _ h => h) (Or.inl ⟨by rfl, ?_⟩) ?_ ?_
  rotate_left
  · intro w'
    go_simp
    with_reducible rfl
  rotate_left
  · simp only [Act.put, List.setIfInBounds_toArray, List.set_cons_zero, List.set_cons_succ, i64_w, i32_w]
    rfl
  refine pure_ (i := 1) (N := some 21) (v := ?_) (a' := ?_) #[true, true, false, false, false, false, false, false] rfl rfl (by kernel_rfl) (fun _ _ _ h => h) (Or.inl ⟨by rfl, ?_⟩) ?_ ?_
  rotate_left
  · intro w'
    go_simp
    with_reducible rfl
  rotate_left
  · simp only [Act.put, List.setIfInBounds_toArray, List.set_cons_zero, List.set_cons_succ, i64_w, i32_w]
    rfl
  refine pure_ (i := 2) (N := some 22) (v := ?_) (a' := ?_) #[true, true, true, false, false, false, false, false] rfl rfl (by kernel_rfl) (fun _ _ _ h => h) (Or.inl ⟨by rfl, ?_⟩) ?_ ?_
  rotate_left
  · intro w'
    go_simp
    with_reducible rfl
  rotate_left
  · simp only [Act.put, List.setIfInBounds_toArray, List.set_cons_zero, List.set_cons_succ, i64_w, i32_w]
    rfl
  refine pure_ (i := 3) (N := some 23) (v := ?_) (a' := ?_) #[true, true, true, true, false, false, false, false] rfl rfl (by kernel_rfl) (fun _ _ _ h => h) (Or.inl ⟨by rfl, ?_⟩) ?_ ?_
  rotate_left
  · intro w'
    go_simp
    with_reducible rfl
  rotate_left
  · simp only [Act.put, List.setIfInBounds_toArray, List.set_cons_zero, List.set_cons_succ, i64_w, i32_w]
    rfl
  refine pure_ (i := 4) (N := some 24) (v := ?_) (a' := ?_) #[true, true, true, true, true, false, false, false] rfl rfl (by kernel_rfl) (fun _ _ _ h => h) (Or.inl ⟨by rfl, ?_⟩) ?_ ?_
  rotate_left
  · intro w'
    go_simp
    with_reducible rfl
  rotate_left
  · simp only [Act.put, List.setIfInBounds_toArray, List.set_cons_zero, List.set_cons_succ, i64_w, i32_w]
    rfl
  refine pure_ (i := 5) (N := some 25) (v := ?_) (a' := ?_) #[true, true, true, true, true, true, false, false] rfl rfl (by kernel_rfl) (fun _ _ _ h => h) (Or.inl ⟨by rfl, ?_⟩) ?_ ?_
  rotate_left
  · intro w'
    go_simp
    with_reducible rfl
  rotate_left
  · simp only [Act.put, List.setIfInBounds_toArray, List.set_cons_zero, List.set_cons_succ, i64_w, i32_w]
    rfl
  refine pure_ (i := 6) (N := some 26) (v := ?_) (a' := ?_) #[true, true, true, true, true, true, true, false] rfl rfl (by kernel_rfl) (fun _ _ _ h => h) (Or.inl ⟨by rfl, ?_⟩) ?_ ?_
  rotate_left
  · intro w'
    go_simp
    with_reducible rfl
  rotate_left
  · simp only [Act.put, List.setIfInBounds_toArray, List.set_cons_zero, List.set_cons_succ, i64_w, i32_w]
    rfl
  refine pure_ (i := 7) (N := some 0) (v := ?_) (a' := ?_) #[true, true, true, true, true, true, true, true] rfl rfl (by kernel_rfl) (fun _ _ _ h => h) (Or.inl ⟨by rfl, ?_⟩) ?_ ?_
  rotate_left
  · intro w'
    go_simp
    with_reducible rfl
  rotate_left
  · simp only [Act.put, List.setIfInBounds_toArray, List.set_cons_zero, List.set_cons_succ, i64_w, i32_w]
    rfl
  refine done_ (by kernel_rfl) ?_
  go_wp2

  go_ret
  exact ⟨rfl, rfl⟩
end Go.Proofs.Ytdndnjpfpelimaa.PG
