/- Proved: the law GraphCircles answers true at every argument, returns, and leaves what it was given as it was.
Conditions: those of the given statement GraphCirclesSaid, and no other. -/
import Derived.Test.YtjflddnmkajleaaRows
import Derived.Test.YtjflddnmkajleaaPGx41
import Derived.Test.YtjflddnmkajleaaPureGraphCircles
import Derived.Test.YtjflddnmkajleaaRowsIn
import Derived.Test.YtjflddnmkajleaaBoolsIn
import Derived.WalkKit
import Derived.ProofKit
import Derived.OpenShut
import Derived.ShutString
import Derived.ChangeOld
import Derived.Below
import Derived.SizedLaws
namespace Go.Proofs.Ytjflddnmkajleaa.graphCircles
open Go.ChangeShapes Go.WideShapes Go.ChangeAt Go.RowKit Go.Proofs.YtjflddnmkajleaaW.PrintWords
open Go.ChangeMaps (open_string shut_string)
set_option linter.unusedVariables false
theorem own : ownKnob Try.prog.godebug = none := by kernel_rfl
theorem laidOut : laidOutB Try.prog = true := by kernel_rfl
set_option maxRecDepth 100000 in
theorem lifted (os : Os) (started : os.Started) (H : Type) (enc : TypeId × Value → H) :
    ReturnsInHanded {} Try.checked os 6 .any (Rows.graphCirclesSpec.pre6 enc Try.prog Try.f6 Rows.graphCirclesRow.domain false) (Rows.graphCirclesSpec.post enc Try.prog Try.f6 false true false false) := by
  refine returnsInHanded_of_change_sized (C := Try.checked) own started (by kernel_rfl) Try.func6
    (ChangeSpec.witness6 (enc := enc) (C := Try.checked) false ⟨#[], #[.slice none 0 0, .slice none 0 0], []⟩ 8 (by kernel_rfl) (by kernel_rfl) (by kernel_rfl) (by kernel_rfl)) ?_
  intro W base args ds gs before hval0 hW hcnd hsz0 _
  have hval : ∀ (j : Nat) t v, Try.f6.params[j]? = some t → args[j]? = some v → Value.okWide Try.prog W .any base t v := hval0
  have hW' := hW
  obtain ⟨p, q, hA0, hV, rfl, hfz, hnd⟩ := hW
  have hA : DataW.TrodAll enc Try.prog W 0 (fun _ => true) true Try.f6.params.toList args.toList ds p := hA0
  rw [Try.params6] at hA hval
  obtain ⟨v0, vs0, d0, ds0, p0, q0, hargs, rfl, rfl, h0, r0⟩ := trodAll_cons hA
  obtain ⟨v1, vs1, d1, ds1, p1, q1, rfl, rfl, rfl, h1, r1⟩ := trodAll_cons r0
  obtain ⟨rfl, rfl, rfl⟩ := trodAll_nil r1
  obtain rfl : args = #[v0, v1] := by cases args; simp_all
  obtain ⟨rfl, rfl⟩ := trodVars_none hV
  obtain ⟨a0, len0, cap0, rfl⟩ := okWide_slice Try.underlying22 (hval 0 22 v0 rfl rfl)
  have k0 := h0
  have lt0 : ∀ x ∈ p0, x.block < W.heap.size := by obtain ⟨m, hm⟩ := k0; exact DataW.trod_lt m _ _ _ hm
  obtain ⟨l0, rfl, w0, y0⟩ : ∃ l : List (List Int), len0 = l.length ∧ Kd.C (Kd.slice 3 (Kd.int .i64)) W a0 l.length l ∧ l.length ≤ cap0 := by
    obtain ⟨fuel, hf⟩ := h0
    exact RowsIn.rowsIn Try.underlying22 Try.underlying25 Try.underlying3 (by kernel_rfl) (by kernel_rfl) hf
  obtain ⟨a1, len1, cap1, rfl⟩ := okWide_slice Try.underlying30 (hval 1 30 v1 rfl rfl)
  have k1 := h1
  have lt1 : ∀ x ∈ p1, x.block < W.heap.size := by obtain ⟨m, hm⟩ := k1; exact DataW.trod_lt m _ _ _ hm
  obtain ⟨l1, rfl, w1, y1⟩ : ∃ l : List Bool, len1 = l.length ∧ Kd.C Kd.bool W a1 l.length l ∧ l.length ≤ cap1 := by
    obtain ⟨fuel, hf⟩ := h1
    exact BoolsIn.boolsIn Try.underlying30 Try.underlying4 (by kernel_rfl) hf
  clear hA0 hval0 hsz0
  obtain ⟨k, hk⟩ := Pure.GraphCircles l0 l1
  refine (PG.ratlinelaw10_GraphCircles.calls k _ _ l0 _ _ l1 true ⟨rfl⟩ W w0 y0 w1 y1 hk).mono fun e W' hd => ?_
  obtain ⟨he, bel⟩ := hd
  subst he
  exact ⟨_, rfl, _, _, _, [], _, [], hW', trodAll_mk1 (shut_bool Try.underlying4 _), (trodAll_cons_mk (Below.trod laidOut (by kernel_rfl) (of_decide_eq_true (by kernel_rfl)) k0 bel lt0) (trodAll_cons_mk (Below.trod laidOut (by kernel_rfl) (of_decide_eq_true (by kernel_rfl)) k1 bel lt1) trodAll_mk0)), rfl, bel.frame _, fun h => by cases h⟩
theorem over : Rows.graphCirclesRow.holds Try.pinned (OpenSpec.ofChange Rows.graphCirclesSpec) :=
  OpenClaim.holds_of_wide 6 Try.f6 rfl rfl rfl rfl rfl rfl rfl ⟨rfl, rfl, rfl, rfl, rfl⟩ rfl rfl rfl rfl rfl (by kernel_rfl) Try.func6 (by kernel_rfl)
    (of_decide_eq_true (by kernel_rfl)) (by unfold Func.isWrapper; first | (rw [if_pos (by decide +kernel)]; kernel_rfl) | (rw [if_neg (by decide +kernel)]; exact ⟨rfl, rfl⟩))
    (fun os started H enc _ => lifted os started H enc)
theorem proved : Rows.GraphCirclesSaid := over
#print axioms proved
end Go.Proofs.Ytjflddnmkajleaa.graphCircles
namespace Go.Proofs.Ytjflddnmkajleaa
/-- The row, under a short name, for the claim. -/
theorem graphCircles_holds : Rows.GraphCirclesSaid := graphCircles.proved
end Go.Proofs.Ytjflddnmkajleaa
