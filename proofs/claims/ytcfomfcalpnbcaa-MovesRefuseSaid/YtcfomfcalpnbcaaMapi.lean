/- A map from whole numbers to whole numbers that the call has made, as a list of what was written (newest first): made, kept, looked up, written, struck. -/
import Derived.Test.YtcfomfcalpnbcaaPGx0
import Derived.Maps.OwnSet
import Derived.Maps.OwnOps
import Derived.Maps.Views
namespace Go.Proofs.Ytcfomfcalpnbcaa.PG
open Go.RowKit Go.Proofs.YtcfomfcalpnbcaaW.PrintWords Go.Proofs.YtcfomfcalpnbcaaW.PrintLast Go.Proofs.YtcfomfcalpnbcaaW.PrintMore
open Go.Maps (Keyed int_keyed keyOf_int_mk IsMap isMap_empty)
set_option linter.unusedVariables false
set_option linter.unusedSimpArgs false
theorem law3i : Keyed Try.prog 3 := int_keyed Try.underlying3
/-- What stands at a key. -/
def mval : List (Int × Option Int) → Int → Option Int
  | [], _ => none
  | (a, v) :: m, k => if a = k then v else mval m k
def MapI (w : World) (b : Nat) (m : List (Int × Option Int)) : Prop := ∃ n, ∃ D : DataW Unit, n ≤ m.length ∧ w.ownsMap Try.prog 3 (plainElem Try.prog 3) b n D ∧ IsMap D ∧ ∀ k : Int, D.atKey (.int .i64 k) (.lit (.int .i64 0)) = .lit (.int .i64 ((mval m k).getD 0)) ∧ Maps.has D (.int .i64 k) = (mval m k).isSome
theorem MapI.made (w : World) : MapI (w.alloc (.map #[] 0)) w.heap.size [] :=
  ⟨0, .map [], Nat.le_refl _, World.ownsMap_made _ _ _ _, isMap_empty, fun k => by simp [DataW.atKey, Maps.has, mval]⟩
theorem MapI.kept {w w' : World} {b : Nat} {m : List (Int × Option Int)} {row : Option Nat} (h : MapI w b m) (hg : w.grownBy w' row) (hne : some b ≠ row) : MapI w' b m := by
  obtain ⟨n, D, h1, h2, h3⟩ := h
  exact ⟨n, D, h1, h2.kept hg hne, h3⟩
theorem MapI.lt {w : World} {b : Nat} {m : List (Int × Option Int)} (h : MapI w b m) : b < w.heap.size := by
  obtain ⟨n, D, h1, h2, h3⟩ := h
  exact h2.lt
theorem zero3 (w : World) : (zeroValue 3).run Try.prog w = .ok (.int .i64 0) w := rfl
theorem MapI.look {w : World} {b : Nat} {m : List (Int × Option Int)} (h : MapI w b m) (x : Int) (hx : (Lit.int .i64 x).wf = true) : (Instr.lookup 47 (.map (some b)) (.int .i64 x) false).run Try.prog w = .ok (.int .i64 ((mval m x).getD 0)) w ∧ (Lit.int .i64 ((mval m x).getD 0)).wf = true := by
  obtain ⟨n, D, h1, h2, h3, h4⟩ := h
  obtain ⟨c, hrun, hat, hwf⟩ := h2.lookup_int law3i Try.underlying47 Try.underlying3 (zero3 w) (keyOf_int_mk Try.underlying3 hx)
  rw [(h4 x).1] at hat
  injection hat with e
  injection e with _ e
  rw [hrun, e]
  exact ⟨rfl, hwf⟩
theorem MapI.lookOk {w : World} {b : Nat} {m : List (Int × Option Int)} (h : MapI w b m) (x : Int) (hx : (Lit.int .i64 x).wf = true) : (Instr.lookup 47 (.map (some b)) (.int .i64 x) true).run Try.prog w = .ok (.tuple #[.int .i64 ((mval m x).getD 0), .bool (mval m x).isSome]) w := by
  have hw := (h.look x hx).2
  obtain ⟨n, D, h1, h2, h3, h4⟩ := h
  obtain ⟨v, ps, hrun, hv⟩ := h2.look_ok law3i Try.underlying47 (zero3 w) (plainElem_int Try.underlying3 (by decide)) (keyOf_int_mk Try.underlying3 hx)
  obtain ⟨c, rfl, hc, _⟩ := plainElem_int_inv Try.underlying3 hv
  rw [(h4 x).1] at hc
  rw [(h4 x).2] at hrun
  have e := congrArg Prod.fst hc
  simp only at e
  injection e with e
  injection e with _ e
  rw [hrun, e]
theorem key_lit {x : Int} (hx : (Lit.int .i64 x).wf = true) : WideAt.IsKeyLit (Lit.int .i64 x) := law3i.key (keyOf_int_mk Try.underlying3 hx)
theorem MapI.store {w : World} {b : Nat} {m : List (Int × Option Int)} (h : MapI w b m) (x v : Int) (hx : (Lit.int .i64 x).wf = true) (hv : (Lit.int .i64 v).wf = true) (hl : m.length < 1000000) : ∃ w', (Instr.mapUpdate 47 (.map (some b)) (.int .i64 x) (.int .i64 v)).run Try.prog w = .ok () w' ∧ MapI w' b ((x, some v) :: m) ∧ w.grownBy w' (some b) := by
  obtain ⟨n, D, h1, h2, h3, h4⟩ := h
  obtain ⟨w', r1, r2, r3⟩ := h2.update law3i Try.underlying47 (by unfold maxLen; omega) (keyOf_int_mk Try.underlying3 hx) (plainElem_int Try.underlying3 hv)
  refine ⟨w', r1, ⟨n + 1, _, by simp; omega, r2, h3.put _ _, fun k => ?_⟩, r3⟩
  by_cases e : k = x
  · subst e
    rw [Maps.atKey_put_same h3 (key_lit hx), Maps.has_put_same h3 (key_lit hx)]
    simp [mval]
  · have e' : ¬ x = k := fun h => e h.symm
    rw [Maps.atKey_put_other (by simpa using e), Maps.has_put_other (by simpa using e), (h4 k).1, (h4 k).2]
    simp [mval, e']
theorem MapI.drop {w : World} {b : Nat} {m : List (Int × Option Int)} (h : MapI w b m) (x : Int) (hx : (Lit.int .i64 x).wf = true) (ty : TypeId) : ∃ w', (Builtin.delete_ #[47, 3] ty #[.map (some b), .int .i64 x]).run Try.prog w = .ok (.tuple #[]) w' ∧ MapI w' b ((x, none) :: m) ∧ w.grownBy w' (some b) := by
  obtain ⟨n, D, h1, h2, h3, h4⟩ := h
  obtain ⟨w', r1, r2, r3⟩ := h2.drop law3i Try.underlying47 (keyOf_int_mk Try.underlying3 hx) ty
  refine ⟨w', r1, ⟨n, _, by simp; omega, r2, h3.del _, fun k => ?_⟩, r3.grown⟩
  by_cases e : k = x
  · subst e
    rw [Maps.atKey_del_same, Maps.has_del_same]
    simp [mval]
  · have e' : ¬ x = k := fun h => e h.symm
    rw [Maps.atKey_del_other (by simpa using e), Maps.has_del_other (by simpa using e), (h4 k).1, (h4 k).2]
    simp [mval, e']
theorem rebase {P : World → Prop} {W : World} (F : World → Prop) (hF : F W) (h : ∀ w, F w → P w) : P W := h W hF
end Go.Proofs.Ytcfomfcalpnbcaa.PG
