-- By the session's own program out of the kit's print, with texts of the session's own for the functions that the print does not take.
import Derived.Test.YtjflddnmkajleaaPGx0
import Derived.Test.YtjflddnmkajleaaPGx11
namespace Go.Proofs.Ytjflddnmkajleaa.PG
open Go.RowKit Go.Proofs.YtjflddnmkajleaaW.PrintWords Go.Proofs.YtjflddnmkajleaaW.PrintLast Go.Proofs.YtjflddnmkajleaaW.PrintMore
attribute [local go_sem] max2_int min2_int max_two min_two max_three min_three max_four min_four   -- for this text's walks alone
set_option linter.unusedVariables false
set_option linter.unusedSimpArgs false

/-! ### graph_Loop: function 34 -/
def graph_Loop.f (l0 : List S37) : Option (List S37) := some l0
set_option maxHeartbeats 800000 in
set_option maxRecDepth 100000 in
theorem graph_Loop.calls (P0_ : Nat → Prop) (A0 : Option Addr) (c0 : Nat) (l0 : List S37) (r : List S37) (w : World) (hs0 : Kd.V k37 37 w w.heap.size (fun k_ => P0_ k_) (.slice A0 l0.length c0) l0) (h : graph_Loop.f l0 = some r) :
    Calls Try.prog 34 #[.slice A0 l0.length c0] w fun e w' => ∃ v0_ : Value, e = .returned (v0_) ∧ Kd.V k37 37 w' w.heap.size (fun k_ => (P0_ k_ ∨ w.heap.size ≤ k_)) v0_ r ∧ Below w.heap.size w w' := by
  obtain rfl := Option.some.inj h
  clear h
  obtain ⟨-, hc, hf⟩ := Kd.V_at hs0
  obtain ⟨i0, hi, _, hsz, _⟩ := info_parts info37
  have hcut := clip_to (P := Try.prog) 34 37 .i64 .i64 Try.underlying34 hi A0 l0.length c0 hc
  have HF := Aside0.mk hf
  clear hs0 hf hi hsz
  go_enter Try.func34, Try.ntmps34
  go_wp2
  go_ret
  exact ⟨_, rfl, Kd.V_mk (Nat.le_refl _) (Kd.F_mono HF.out (fun k hk => .inl hk)), Below.refl _ _⟩

end Go.Proofs.Ytjflddnmkajleaa.PG
