/- (*work).do: one move more, walked by hand. -/
import Derived.Test.YtcfomfcalpnbcaaSt
namespace Go.Proofs.Ytcfomfcalpnbcaa.PG
open Go.RowKit Go.Proofs.YtcfomfcalpnbcaaW.PrintWords Go.Proofs.YtcfomfcalpnbcaaW.PrintLast Go.Proofs.YtcfomfcalpnbcaaW.PrintMore
set_option linter.unusedVariables false
set_option linter.unusedSimpArgs false
set_option maxHeartbeats 8000000 in
set_option maxRecDepth 100000 in
theorem do_calls (tt fr : Int) (g bF bN : Nat) (v : Value) (xs : List S34) (w0 w : World) (hg : WorkAt w g bF bN v) (HO : Kd.R k34 34 w w0.heap.size (fun _ => True) v xs) (HB : Below w0.heap.size w0 w) (hl : xs.length < 1000000) :
    Calls Try.prog 18 #[.pointer (some ⟨g, 0, none⟩), .int .i64 tt, .int .i64 fr] w fun e w' => ∃ W1 v', e = .returned (.tuple #[]) ∧ w' = W1.setCell ⟨g, 2, none⟩ v' ∧ w.grownBy W1 v.ownBlock ∧ Kd.R k34 34 W1 w0.heap.size (fun _ => True) v' (xs ++ [⟨tt, fr⟩]) ∧ Below w0.heap.size w0 W1 ∧ (v'.ownBlock = v.ownBlock ∨ ∃ b, v'.ownBlock = some b ∧ w.heap.size ≤ b) := by
  have hu34 := Try.underlying34
  have hu49 := Try.underlying49
  have h0 : w.cell? ⟨g, 0, none⟩ = some (.map (some bF)) := (blk_cell hg 0).trans rfl
  have h1 : w.cell? ⟨g, 1, none⟩ = some (.map (some bN)) := (blk_cell hg 1).trans rfl
  have h2 : w.cell? ⟨g, 2, none⟩ = some v := (blk_cell hg 2).trans rfl
  have hne : some g ≠ v.ownBlock := fun e => by
    obtain ⟨cells, hc⟩ := Kd.R_typed HO g e.symm
    rw [hg] at hc
    injection hc with hc
    injection hc with _ hc _
    exact absurd hc (by decide)
  go_enter Try.func18, Try.ntmps18
  go_wp2_with ((with_reducible refine gate_builtin (b := .append) (xs := #[.tmp 10, .tmp 14]) rfl ?_); (try (refine gate_guard (by rfl) ?_; dsimp only)); at_builtin; refine Kd.R_append k34 (w0 := w0) w0.heap.size rfl (.tmp 10) (.tmp 14) 24 34 (.agg #[(.int .i64 0), (.int .i64 0)]) 16 rfl Try.underlying24 info34 rfl (by decide) (by omega) v xs (⟨tt, fr⟩ : S34) [.int .i64 tt, .int .i64 fr] (fun _ => True) (fun _ => False) rfl rfl (k34_mkM _ _ _ (⟨tt, fr⟩ : S34)) (fun _ hk => hk.elim) (fun _ _ => trivial) HO HB HB.size (by omega) ?_; intro v1 w1 ho hb hgr hat; obtain ⟨Av, cv, rfl⟩ := Kd.R_slice ho; have hx2 := (blk_cell (blk_grown hg hgr hne) 2); have hf2 := (blk_frozen (blk_grown hg hgr hne) 2))
  exact bodyPost_end (v := .tuple #[]) (by simp [results, Try.f18, go_sem]) rfl ⟨w1, _, rfl, rfl, hgr, by simpa using ho, hb, by simpa using hat⟩
end Go.Proofs.Ytcfomfcalpnbcaa.PG
