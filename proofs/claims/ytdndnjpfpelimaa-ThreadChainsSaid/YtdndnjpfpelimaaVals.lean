/- The functions on the empty constant: each answers as its word says, and memory that stood before stays. -/
import Derived.Test.YtdndnjpfpelimaaPGx0
import Derived.Test.YtdndnjpfpelimaaU
namespace Go.Proofs.Ytdndnjpfpelimaa.PG
open Go.RowKit Go.Proofs.YtdndnjpfpelimaaW.PrintWords Go.Proofs.YtdndnjpfpelimaaW.PrintLast Go.Proofs.YtdndnjpfpelimaaW.PrintMore
attribute [local go_sem] max2_int min2_int max_two min_two max_three min_three max_four min_four   -- for this text's walks alone
set_option linter.unusedVariables false
set_option linter.unusedSimpArgs false
attribute [local go_sem] run_store_complex
theorem complex_eq (W : World) : (binOp BinOp.eql 26 (Value.complex FloatKind.f64 0 0) (Value.complex FloatKind.f64 0 0)).run Try.prog W = .ok (.bool true) W := by kernel_rfl
set_option maxHeartbeats 4000000 in
set_option maxRecDepth 100000 in
theorem plain_z (w : World) : Calls Try.prog 38 #[.agg #[.int .i64 0, .int .i64 0, .complex .f64 0 0, .string (⟨#[]⟩ : ByteArray), .slice none 0 0]] w fun e w' => e = .returned (.bool true) ∧ Below w.heap.size w w' := by
  have hu29 := Try.underlying29
  have hcz := complex_eq
  go_enter Try.func38, Try.ntmps38
  go_wp2
  go_ret
  exact ⟨rfl, below_alloc (Below.refl _ _) _⟩
set_option maxHeartbeats 4000000 in
set_option maxRecDepth 100000 in
theorem sound_z (w : World) : Calls Try.prog 36 #[.agg #[.int .i64 0, .int .i64 0, .complex .f64 0 0, .string (⟨#[]⟩ : ByteArray), .slice none 0 0], .int .i64 0, .int .i64 1000] w fun e w' => e = .returned (.tuple #[.int .i64 1, .bool true]) ∧ Below w.heap.size w w' := by
  have hu29 := Try.underlying29
  go_enter Try.func36, Try.ntmps36
  go_wp2_with (go_at_call 38; refine (plain_z _).mono ?_; rintro e w1 ⟨rfl, hb⟩; obtain ⟨hc, hf⟩ := bcell hb)
  refine wp_loop_rounds 1 ?_; rw [rounds_succ]
  go_wp2
  go_ret2
  exact ⟨rfl, below_step (below_alloc (Below.refl _ _) _) hb⟩
set_option maxHeartbeats 4000000 in
set_option maxRecDepth 100000 in
theorem Ok_z (w : World) : Calls Try.prog 34 #[.agg #[.int .i64 0, .int .i64 0, .complex .f64 0 0, .string (⟨#[]⟩ : ByteArray), .slice none 0 0]] w fun e w' => e = .returned (.bool true) ∧ Below w.heap.size w w' := by
  have hu29 := Try.underlying29
  go_enter Try.func34, Try.ntmps34
  go_wp2_with (go_at_call 36; refine (sound_z _).mono ?_; rintro e w1 ⟨rfl, hb⟩; obtain ⟨hc, hf⟩ := bcell hb)
  go_ret
  exact ⟨rfl, below_step (below_alloc (Below.refl _ _) _) hb⟩
theorem size29 : (Try.prog.info? 29).map (·.size) = some 5 := by kernel_rfl
theorem size32 : (Try.prog.info? 32).map (·.size) = some 12 := by kernel_rfl
set_option maxHeartbeats 4000000 in
set_option maxRecDepth 100000 in
theorem copied_z (w : World) : Calls Try.prog 40 #[.agg #[.int .i64 0, .int .i64 0, .complex .f64 0 0, .string (⟨#[]⟩ : ByteArray), .slice none 0 0]] w fun e w' => e = .returned (.agg #[.int .i64 0, .int .i64 0, .complex .f64 0 0, .string (⟨#[]⟩ : ByteArray), .slice none 0 0]) ∧ Below w.heap.size w w' := by
  have hu29 := Try.underlying29
  go_enter Try.func40, Try.ntmps40
  go_wp2
  refine bodyPost_ret (results_cell_row rfl _ _ (w.heap.size + 1) 29 _ (0, 0) _ rfl (new2 _ _ _) Try.underlying29 rfl size29) rfl ?_
  exact ⟨rfl, below_alloc (below_alloc (Below.refl _ _) _) _⟩
set_option maxHeartbeats 4000000 in
set_option maxRecDepth 100000 in
theorem is_z (w : World) : Calls Try.prog 37 #[.agg #[.int .i64 0, .int .i64 0, .complex .f64 0 0, .string (⟨#[]⟩ : ByteArray), .slice none 0 0]] w fun e w' => e = .returned (.agg #[.int .i64 0, .int .i64 0, .complex .f64 0 0, .string (⟨#[]⟩ : ByteArray), .slice none 0 0]) ∧ Below w.heap.size w w' := by
  have hu29 := Try.underlying29
  go_enter Try.func37, Try.ntmps37
  go_wp2_with (first | (go_at_call 34; refine (Ok_z _).mono ?_; rintro e w1 ⟨rfl, hb⟩; have b1A := Aside0.mk (blk_below (new12 _ _ _) hb); have b1R := Aside0.mk (blk_below (new2 _ _ _) hb); have b1B := Aside0.mk (below_step (below_alloc (below_alloc (Below.refl _ _) _) _) hb); clear hb; obtain ⟨x0, x1, x2, x3, x4⟩ := box5 b1A.out) | (go_at_call 40; refine (copied_z _).mono ?_; rintro e w2 ⟨rfl, hb⟩; have b2R := Aside0.mk (blk_below b1R.out hb); have b2B := Aside0.mk (below_step b1B.out hb); clear hb x0 x1 x2 x3 x4 b1A b1R b1B) | ((with_reducible refine gate_store (t := 29) (p := 2) (v := .tmp 8) rfl ?_); refine wpList_upd rfl 29 2 (.tmp 8) rfl rfl (w.heap.size + 1) #[.int .i64 0, .int .i64 0, .complex .f64 0 0, .string (⟨#[]⟩ : ByteArray), .slice none 0 0] rfl rfl 29 #[.int .i64 0, .int .i64 0, .complex .f64 0 0, .string (⟨#[]⟩ : ByteArray), .slice none 0 0] b2R.out size29 rfl rfl ?_; intro W1 hV_; have hV := Aside0.mk hV_; clear hV_))
  refine bodyPost_ret (results_cell_row rfl _ _ (w.heap.size + 1) 29 _ (0, 0) _ rfl hV.out.blk Try.underlying29 rfl size29) rfl ?_
  exact ⟨rfl, hV.out.below b2B.out (by omega)⟩
set_option maxHeartbeats 4000000 in
set_option maxRecDepth 100000 in
theorem Copy_z (w : World) : Calls Try.prog 35 #[.agg #[.int .i64 0, .int .i64 0, .complex .f64 0 0, .string (⟨#[]⟩ : ByteArray), .slice none 0 0]] w fun e w' => e = .returned (.agg #[.int .i64 0, .int .i64 0, .complex .f64 0 0, .string (⟨#[]⟩ : ByteArray), .slice none 0 0]) ∧ Below w.heap.size w w' := by
  have hu29 := Try.underlying29
  go_enter Try.func35, Try.ntmps35
  go_wp2_with (first | (go_at_call 37; refine (is_z _).mono ?_; rintro e w2 ⟨rfl, hb⟩; have b2R := Aside0.mk (blk_below (new2 _ _ _) hb); have b2B := Aside0.mk (below_step (below_alloc (below_alloc (Below.refl _ _) _) _) hb); clear hb) | ((with_reducible refine gate_store (t := 29) (p := 2) (v := .tmp 4) rfl ?_); refine wpList_upd rfl 29 2 (.tmp 4) rfl rfl (w.heap.size + 1) #[.int .i64 0, .int .i64 0, .complex .f64 0 0, .string (⟨#[]⟩ : ByteArray), .slice none 0 0] rfl rfl 29 #[.int .i64 0, .int .i64 0, .complex .f64 0 0, .string (⟨#[]⟩ : ByteArray), .slice none 0 0] b2R.out size29 rfl rfl ?_; intro W1 hV_; have hV := Aside0.mk hV_; clear hV_))
  refine bodyPost_ret (results_cell_row rfl _ _ (w.heap.size + 1) 29 _ (0, 0) _ rfl hV.out.blk Try.underlying29 rfl size29) rfl ?_
  exact ⟨rfl, hV.out.below b2B.out (by omega)⟩
set_option maxHeartbeats 4000000 in
set_option maxRecDepth 100000 in
theorem Clone_nil (w : World) : Calls Try.prog 33 #[.slice none 0 0] w fun e w' => e = .returned (.slice none 0 0) ∧ w' = w := by
  have hnil := fun W : World => Lib.run_eql_slice_nil (P := Try.prog) W 30 3 none 0 0 0 0 Try.underlying30
  simp only [Option.isNone_none] at hnil
  go_enter Try.func33, Try.ntmps33
  go_wp2
  go_ret
  exact ⟨rfl, rfl⟩
set_option maxHeartbeats 4000000 in
set_option maxRecDepth 100000 in
theorem ClipInt (A : Option Addr) (n c : Nat) (hc : n ≤ c) (w : World) : Calls Try.prog 32 #[.slice A n c] w fun e w' => e = .returned (.slice A n n) ∧ w' = w := by
  obtain ⟨i0, hi, _, hsz, _⟩ := info_parts info3
  have hcut := clip_to (P := Try.prog) 30 3 .i64 .i64 Try.underlying30 hi A n c hc
  go_enter Try.func32, Try.ntmps32
  go_wp2
  go_ret
  exact ⟨rfl, rfl⟩
set_option maxHeartbeats 4000000 in
set_option maxRecDepth 100000 in
theorem ClipIns (A : Option Addr) (n c : Nat) (hc : n ≤ c) (w : World) : Calls Try.prog 25 #[.slice A n c] w fun e w' => e = .returned (.slice A n n) ∧ w' = w := by
  obtain ⟨i0, hi, _, hsz, _⟩ := info_parts info32
  have hcut := clip_to (P := Try.prog) 33 32 .i64 .i64 Try.underlying33 hi A n c hc
  go_enter Try.func25, Try.ntmps25
  go_wp2
  go_ret
  exact ⟨rfl, rfl⟩
set_option maxHeartbeats 4000000 in
set_option maxRecDepth 100000 in
theorem ClipBlk (A : Option Addr) (n c : Nat) (hc : n ≤ c) (w : World) : Calls Try.prog 26 #[.slice A n c] w fun e w' => e = .returned (.slice A n n) ∧ w' = w := by
  obtain ⟨i0, hi, _, hsz, _⟩ := info_parts info37
  have hcut := clip_to (P := Try.prog) 22 37 .i64 .i64 Try.underlying22 hi A n c hc
  go_enter Try.func26, Try.ntmps26
  go_wp2
  go_ret
  exact ⟨rfl, rfl⟩
end Go.Proofs.Ytdndnjpfpelimaa.PG
