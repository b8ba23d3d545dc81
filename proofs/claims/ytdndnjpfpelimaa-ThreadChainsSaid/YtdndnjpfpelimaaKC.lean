/- Blocks whose instructions are clipped: what is read of them. -/
import Derived.Test.YtdndnjpfpelimaaIns
import Derived.Test.YtdndnjpfpelimaaPGx0
import Derived.Test.YtdndnjpfpelimaaU
namespace Go.Proofs.Ytdndnjpfpelimaa.PG
open Go.RowKit Go.Proofs.YtdndnjpfpelimaaW.PrintWords Go.Proofs.YtdndnjpfpelimaaW.PrintLast Go.Proofs.YtdndnjpfpelimaaW.PrintMore
attribute [local go_sem] max2_int min2_int max_two min_two max_three min_three max_four min_four   -- for this text's walks alone
set_option linter.unusedVariables false
set_option linter.unusedSimpArgs false
attribute [local go_sem] run_store_complex
/-- A slice that is clipped: its capacity is its length. -/
def kc : Kd (List S32) where
  sz := 1
  E := []
  K := fun w xs cs => ∃ A, cs = [.slice A xs.length xs.length] ∧ k32.C w A xs.length xs
  M := fun _ _ _ _ _ => False
  K_len := by
    rintro w x cs ⟨A, rfl, _⟩
    rfl
  K_one := by
    rintro w x cs ⟨A, rfl, _⟩ u hu
    rw [List.mem_singleton.1 hu]
    rfl
  K_below := by
    rintro w w1 x cs hb ⟨A, rfl, hr⟩
    exact ⟨A, rfl, Kd.C_below hr hb⟩
  K_of_M := fun h => h.elim
  M_mono := fun _ h => h
  M_bound := fun h => h.elim
  M_move := fun _ h => h
  M_lower := fun _ h => h
/-- Blocks whose instructions are clipped. -/
def k37c : Kd S37 := Kd.iso (Kd.pair kc k35) (fun x : S37 => (x.f0, x.f1))
theorem k37c_mkF (W : World) (ok : Nat → Prop) (x : S37) {A0 : Option Addr} (g0 : Kd.F k32 W ok A0 x.f0.length x.f0) : Kd.FK k37c W ok x [.slice A0 x.f0.length x.f0.length, .int .i64 x.f1.f0, .int .i64 x.f1.f1, .int .i64 x.f1.f2, .int .i64 x.f1.f3] :=
  fun W2 hW => ⟨[.slice A0 x.f0.length x.f0.length], [.int .i64 x.f1.f0, .int .i64 x.f1.f1, .int .i64 x.f1.f2, .int .i64 x.f1.f3], rfl, ⟨A0, rfl, g0 W2 hW⟩, (k35_mk W2 x.f1)⟩
theorem k37c_k {w : World} {x : S37} {cs : List Value} (h : k37c.K w x cs) : k37.K w x cs := by
  obtain ⟨c0, c1, e, ⟨A, rfl, hC⟩, h1⟩ := h
  exact ⟨_, c1, e, ⟨A, x.f0.length, rfl, Nat.le_refl _, hC⟩, h1⟩
theorem k37c_openF {W : World} {ok : Nat → Prop} {x : S37} {cs : List Value} (h : Kd.FK k37c W ok x cs) : ∃ A0, cs = [.slice A0 x.f0.length x.f0.length, .int .i64 x.f1.f0, .int .i64 x.f1.f1, .int .i64 x.f1.f2, .int .i64 x.f1.f3] ∧ Kd.F k32 W ok A0 x.f0.length x.f0 := by
  obtain ⟨c0, c1, e, ⟨A, rfl, hC⟩, h1⟩ := Kd.FK_now h
  obtain rfl := k35_open h1
  refine ⟨A, e, fun W' hW => ?_⟩
  obtain ⟨c0', c1', e', ⟨A', rfl, hC'⟩, h1'⟩ := h W' hW
  have h2 := e.symm.trans e'
  simp only [List.cons_append, List.nil_append] at h2
  injection h2 with h2 _
  injection h2 with h2 _ _
  rw [h2]
  exact hC'
theorem N_unclip {w : World} {base : Nat} {ok : Nat → Prop} {v : Value} {xs : List S37} (h : Kd.N k37c 37 w base ok v xs) : Kd.N k37 37 w base ok v xs := by
  obtain ⟨h0, rows, hl, hR, hf⟩ := h
  exact ⟨h0, rows, hl, hR, fun j x c hx hc W' hW => k37c_k (hf j x c hx hc W' hW)⟩
end Go.Proofs.Ytdndnjpfpelimaa.PG
