/- Functions 12 and 22 on equal instructions without constants: true. -/
import Derived.Test.YtdndnjpfpelimaaVals
import Derived.Test.YtdndnjpfpelimaaPGx0
import Derived.Test.YtdndnjpfpelimaaU
namespace Go.Proofs.Ytdndnjpfpelimaa.PG
open Go.RowKit Go.Proofs.YtdndnjpfpelimaaW.PrintWords Go.Proofs.YtdndnjpfpelimaaW.PrintLast Go.Proofs.YtdndnjpfpelimaaW.PrintMore
attribute [local go_sem] max2_int min2_int max_two min_two max_three min_three max_four min_four   -- for this text's walks alone
set_option linter.unusedVariables false
set_option linter.unusedSimpArgs false
attribute [local go_sem] run_store_complex
theorem complex_ne (W : World) : (binOp BinOp.neq 26 (Value.complex FloatKind.f64 0 0) (Value.complex FloatKind.f64 0 0)).run Try.prog W = .ok (.bool false) W := by kernel_rfl
set_option maxHeartbeats 4000000 in
set_option maxRecDepth 100000 in
theorem Same_z (w : World) : Calls Try.prog 22 #[.agg #[.int .i64 0, .int .i64 0, .complex .f64 0 0, .string (⟨#[]⟩ : ByteArray), .slice none 0 0], .agg #[.int .i64 0, .int .i64 0, .complex .f64 0 0, .string (⟨#[]⟩ : ByteArray), .slice none 0 0]] w fun e w' => e = .returned (.bool true) ∧ Below w.heap.size w w' := by
  have hu29 := Try.underlying29
  have hcz := complex_ne
  go_enter Try.func22, Try.ntmps22
  go_wp2
  refine wp_loop_rounds 1 ?_; rw [rounds_succ]
  go_wp2
  go_ret
  exact ⟨rfl, below_alloc (below_alloc (Below.refl _ _) _) _⟩
set_option maxHeartbeats 4000000 in
set_option maxRecDepth 100000 in
theorem SameInts_nil (w : World) : Calls Try.prog 23 #[.slice none 0 0, .slice none 0 0] w fun e w' => e = .returned (.bool true) ∧ Below w.heap.size w w' := by
  go_enter Try.func23, Try.ntmps23
  go_wp2
  refine wp_loop_rounds 1 ?_; rw [rounds_succ]
  go_wp2
  go_ret
  exact ⟨rfl, Below.refl _ _⟩
set_option maxHeartbeats 4000000 in
set_option maxRecDepth 100000 in
theorem SameIns_z (a0 a1 a2 a3 a4 a5 : Int) (w : World) : Calls Try.prog 12 #[.agg #[.int .i64 a0, .int .i64 a1, .int .i64 a2, .int .i64 a3, .int .i64 a4, .int .i64 a5, .int .i64 0, .int .i64 0, .complex .f64 0 0, .string (⟨#[]⟩ : ByteArray), .slice none 0 0, .slice none 0 0], .agg #[.int .i64 a0, .int .i64 a1, .int .i64 a2, .int .i64 a3, .int .i64 a4, .int .i64 a5, .int .i64 0, .int .i64 0, .complex .f64 0 0, .string (⟨#[]⟩ : ByteArray), .slice none 0 0, .slice none 0 0]] w fun e w' => e = .returned (.bool true) ∧ Below w.heap.size w w' := by
  have hu29 := Try.underlying29
  have hu32 := Try.underlying32
  go_enter Try.func12, Try.ntmps12
  go_wp2_with (first | (go_at_call 22; refine (Same_z _).mono ?_; rintro e w1 ⟨rfl, hb⟩; obtain ⟨hc, hf⟩ := bcell hb; have HB1 := Aside0.mk (below_step (below_alloc (below_alloc (Below.refl _ _) _) _) hb); clear hb) | (go_at_call 23; refine (SameInts_nil _).mono ?_; rintro e w2 ⟨rfl, hb⟩; have HB2 := Aside0.mk (below_step HB1.out hb); clear hb))
  go_ret
  exact ⟨rfl, HB2.out⟩
theorem store_ev {P : Program} {o : Oper} {a : Act} {W : World} (ty : TypeId) (x y : Operand) (ho : o.op = .store ty x y) (g i : Nat) (v : Value) (seg : List Value) (hx : a.eval x = .pointer (some ⟨g, i, none⟩)) (hy : a.eval y = v) (hv : v.cells.toList = seg)
    (t : TypeId) (old : Array Value) (hg : W.heap[g]? = some (.cells old t (0, 0))) (hi : (P.info? ty).map (·.size) = some seg.length) (hfit : i + seg.length ≤ old.size) (h1 : seg.all (·.oneCell') = true) :
    (execOp a.eval o).run P W = .ok .skip (W.setCells g i seg) := by
  have hrun := run_store_run (P := P) ty v seg hg hv hi hfit (List.all_eq_true.mp h1)
  simp [execOp, ho, hx, hy, hrun]
theorem size37 : (Try.prog.info? 37).map (·.size) = some 5 := by kernel_rfl
end Go.Proofs.Ytdndnjpfpelimaa.PG
