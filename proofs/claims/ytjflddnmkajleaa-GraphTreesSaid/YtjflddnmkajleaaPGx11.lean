-- By the session's own program out of the kit's print, with texts of the session's own for the functions that the print does not take.
import Derived.Test.YtjflddnmkajleaaPGx0
namespace Go.Proofs.Ytjflddnmkajleaa.PG
open Go.RowKit Go.Proofs.YtjflddnmkajleaaW.PrintWords Go.Proofs.YtjflddnmkajleaaW.PrintLast Go.Proofs.YtjflddnmkajleaaW.PrintMore
attribute [local go_sem] max2_int min2_int max_two min_two max_three min_three max_four min_four   -- for this text's walks alone
set_option linter.unusedVariables false
set_option linter.unusedSimpArgs false

/-! ### slices_Clip_int_int: function 35 -/
theorem clip_to {P : Program} (t e : TypeId) (kh km : IntKind) {i : TypeInfo} (ht : P.underlying t = some (.slice e)) (hi : P.info? e = some i) (A : Option Addr) (n c : Nat) (hc : n ≤ c) :
    ∀ W : World, (Instr.slice t (.slice A n c) none (some (.int kh (n : Int))) (some (.int km (n : Int)))).run P W = .ok (.slice A n n) W := by
  intro W
  have hel : P.elem t = e := by simp [Program.elem, ht]
  have hu : P.underlying t = some (.slice (P.elem t)) := by rw [hel]; exact ht
  have ha : (A.map fun x => x.add 0) = A := by cases A <;> simp [Addr.add]
  rw [run_slice_hm W t A n c hu kh km (n : Int) (n : Int) (by omega) (by omega) (by omega), hel]
  simp [sizeOf, typeInfo, hi, sliced, Result.andThen, ha]
def slices_Clip_int_int.f (l0 : List Int) : Option (List Int) := some l0
set_option maxHeartbeats 800000 in
set_option maxRecDepth 100000 in
theorem slices_Clip_int_int.calls (P0_ : Nat → Prop) (A0 : Option Addr) (c0 : Nat) (l0 : List Int) (r : List Int) (w : World) (hs0 : Kd.V (Kd.int .i64) 3 w w.heap.size (fun k_ => P0_ k_) (.slice A0 l0.length c0) l0) (h : slices_Clip_int_int.f l0 = some r) :
    Calls Try.prog 35 #[.slice A0 l0.length c0] w fun e w' => ∃ v0_ : Value, e = .returned (v0_) ∧ Kd.V (Kd.int .i64) 3 w' w.heap.size (fun k_ => (P0_ k_ ∨ w.heap.size ≤ k_)) v0_ r ∧ Below w.heap.size w w' := by
  obtain rfl := Option.some.inj h
  clear h
  obtain ⟨-, hc, hf⟩ := Kd.V_at hs0
  obtain ⟨i0, hi, _, hsz, _⟩ := info_parts info3
  have hcut := clip_to (P := Try.prog) 25 3 .i64 .i64 Try.underlying25 hi A0 l0.length c0 hc
  have HF := Aside0.mk hf
  clear hs0 hf hi hsz
  go_enter Try.func35, Try.ntmps35
  go_wp2
  go_ret
  exact ⟨_, rfl, Kd.V_mk (Nat.le_refl _) (Kd.F_mono HF.out (fun k hk => .inl hk)), Below.refl _ _⟩

end Go.Proofs.Ytjflddnmkajleaa.PG
