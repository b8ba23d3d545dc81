/- Function 24 on an instruction without constants: it gives the same instruction. -/
import Derived.Test.YtdndnjpfpelimaaVals
import Derived.Test.YtdndnjpfpelimaaPGx0
import Derived.Test.YtdndnjpfpelimaaU
namespace Go.Proofs.Ytdndnjpfpelimaa.PG
open Go.RowKit Go.Proofs.YtdndnjpfpelimaaW.PrintWords Go.Proofs.YtdndnjpfpelimaaW.PrintLast Go.Proofs.YtdndnjpfpelimaaW.PrintMore
attribute [local go_sem] max2_int min2_int max_two min_two max_three min_three max_four min_four   -- for this text's walks alone
set_option linter.unusedVariables false
set_option linter.unusedSimpArgs false
attribute [local go_sem] run_store_complex
set_option maxHeartbeats 4000000 in
set_option maxRecDepth 100000 in
theorem Ins_z (a0 a1 a2 a3 a4 a5 : Int) (w : World) : Calls Try.prog 24 #[.agg #[.int .i64 a0, .int .i64 a1, .int .i64 a2, .int .i64 a3, .int .i64 a4, .int .i64 a5, .int .i64 0, .int .i64 0, .complex .f64 0 0, .string (⟨#[]⟩ : ByteArray), .slice none 0 0, .slice none 0 0]] w fun e w' => e = .returned (.agg #[.int .i64 a0, .int .i64 a1, .int .i64 a2, .int .i64 a3, .int .i64 a4, .int .i64 a5, .int .i64 0, .int .i64 0, .complex .f64 0 0, .string (⟨#[]⟩ : ByteArray), .slice none 0 0, .slice none 0 0]) ∧ Below w.heap.size w w' := by
  have hu29 := Try.underlying29
  have hu32 := Try.underlying32
  go_enter Try.func24, Try.ntmps24
  go_wp2_with (first | (go_at_call 33; refine (Clone_nil _).mono ?_; rintro e w1 ⟨rfl, rfl⟩) | (go_at_call 32; refine (ClipInt none 0 0 (Nat.le_refl _) _).mono ?_; rintro e w1 ⟨rfl, rfl⟩) | (go_at_call 34; refine (Ok_z _).mono ?_; rintro e w2 ⟨rfl, hb⟩; have b2A := Aside0.mk (blk_below (new12 _ _ _) hb); have b2R := Aside0.mk (blk_below (new2 _ _ _) hb); have b2B := Aside0.mk (below_step (below_alloc (below_alloc (Below.refl _ _) _) _) hb); clear hb; obtain ⟨x0, x1, x2, x3, x4, x5, x6, x7, x8, x9, x10, x11⟩ := box12 b2A.out) | (go_at_call 35; refine (Copy_z _).mono ?_; rintro e w3 ⟨rfl, hb⟩; have b3A := Aside0.mk (blk_below b2A.out hb); have b3R := Aside0.mk (blk_below b2R.out hb); have b3B := Aside0.mk (below_step b2B.out hb); clear hb x0 x1 x2 x3 x4 x5 x6 x7 x8 x9 x10 x11 b2A b2R b2B) | ((with_reducible refine gate_store (t := 29) (p := 14) (v := (.tmp 13)) rfl ?_); (refine wpList_seg rfl 29 14 (.tmp 13) rfl rfl w.heap.size 6 _ [.int .i64 0, .int .i64 0, .complex .f64 0 0, .string (⟨#[]⟩ : ByteArray), .slice none 0 0] rfl rfl rfl 32 #[.int .i64 a0, .int .i64 a1, .int .i64 a2, .int .i64 a3, .int .i64 a4, .int .i64 a5, .int .i64 0, .int .i64 0, .complex .f64 0 0, .string (⟨#[]⟩ : ByteArray), .slice none 0 0, .slice none 0 0] b3A.out size29 (Nat.le_of_ble_eq_true rfl) rfl ?_); intro W1 hV_; have hV : Aside0 (Upd _ W1 w.heap.size #[.int .i64 a0, .int .i64 a1, .int .i64 a2, .int .i64 a3, .int .i64 a4, .int .i64 a5, .int .i64 0, .int .i64 0, .complex .f64 0 0, .string (⟨#[]⟩ : ByteArray), .slice none 0 0, .slice none 0 0] 32) := Aside0.mk hV_; clear hV_; obtain ⟨x0, x1, x2, x3, x4, x5, x6, x7, x8, x9, x10, x11⟩ := box12 hV.out.blk; have b4R := Aside0.mk (hV.out.other b3R.out (by omega)); have b4B := Aside0.mk (hV.out.below b3B.out (Nat.le_refl _))) | ((with_reducible refine gate_store (t := 32) (p := 2) (v := .tmp 15) rfl ?_); (refine wpList_upd rfl 32 2 (.tmp 15) rfl rfl (w.heap.size + 1) #[.int .i64 a0, .int .i64 a1, .int .i64 a2, .int .i64 a3, .int .i64 a4, .int .i64 a5, .int .i64 0, .int .i64 0, .complex .f64 0 0, .string (⟨#[]⟩ : ByteArray), .slice none 0 0, .slice none 0 0] rfl rfl 32 #[.int .i64 0, .int .i64 0, .int .i64 0, .int .i64 0, .int .i64 0, .int .i64 0, .int .i64 0, .int .i64 0, .complex .f64 0 0, .string (⟨#[]⟩ : ByteArray), .slice none 0 0, .slice none 0 0] b4R.out size32 rfl rfl ?_); intro W2 hU_; have hU := Aside0.mk hU_; clear hU_))
  refine bodyPost_ret (results_cell_row rfl _ _ (w.heap.size + 1) 32 _ (0, 0) _ rfl hU.out.blk Try.underlying32 rfl size32) rfl ?_
  exact ⟨rfl, hU.out.below b4B.out (by omega)⟩
end Go.Proofs.Ytdndnjpfpelimaa.PG
