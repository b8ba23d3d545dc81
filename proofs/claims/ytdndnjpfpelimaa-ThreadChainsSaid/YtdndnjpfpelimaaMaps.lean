/- Maps from whole numbers to whole numbers, and sets of whole numbers, that a call has made. -/
import Derived.Test.YtdndnjpfpelimaaU
import Derived.Maps.OwnSet
import Derived.Maps.OwnOps
import Derived.Maps.Views
namespace Go.Proofs.Ytdndnjpfpelimaa.PG
open Go.RowKit Go.Proofs.YtdndnjpfpelimaaW.PrintWords Go.Proofs.YtdndnjpfpelimaaW.PrintLast Go.Proofs.YtdndnjpfpelimaaW.PrintMore
open Go.Maps (Keyed int_keyed keyOf_int_mk IsMap isMap_empty)
set_option linter.unusedVariables false
set_option linter.unusedSimpArgs false
theorem law3i : Keyed Try.prog 3 := int_keyed Try.underlying3
/-- What stands at a key. -/
def mval : List (Int × Option Int) → Int → Option Int
  | [], _ => none
  | (a, v) :: m, k => if a = k then v else mval m k
def MapI (w : World) (b : Nat) (m : List (Int × Option Int)) : Prop := ∃ n, ∃ D : DataW Unit, n ≤ m.length ∧ w.ownsMap Try.prog 3 (plainElem Try.prog 3) b n D ∧ IsMap D ∧ ∀ k : Int, D.atKey (.int .i64 k) (.lit (.int .i64 0)) = .lit (.int .i64 ((mval m k).getD 0)) ∧ Maps.has D (.int .i64 k) = (mval m k).isSome
theorem MapI.made (w : World) : MapI (w.alloc (.map #[] 0)) w.heap.size [] :=
  ⟨0, .map [], Nat.le_refl _, World.ownsMap_made _ _ _ _, isMap_empty, fun k => by simp [DataW.atKey, Maps.has, mval]⟩
theorem MapI.kept {w w' : World} {b : Nat} {m : List (Int × Option Int)} {row : Option Nat} (h : MapI w b m) (hg : w.grownBy w' row) (hne : some b ≠ row) : MapI w' b m := by
  obtain ⟨n, D, h1, h2, h3⟩ := h
  exact ⟨n, D, h1, h2.kept hg hne, h3⟩
theorem MapI.lt {w : World} {b : Nat} {m : List (Int × Option Int)} (h : MapI w b m) : b < w.heap.size := by
  obtain ⟨n, D, h1, h2, h3⟩ := h
  exact h2.lt
theorem zero3 (w : World) : (zeroValue 3).run Try.prog w = .ok (.int .i64 0) w := rfl
theorem MapI.look {w : World} {b : Nat} {m : List (Int × Option Int)} (h : MapI w b m) (x : Int) (hx : (Lit.int .i64 x).wf = true) : (Instr.lookup 54 (.map (some b)) (.int .i64 x) false).run Try.prog w = .ok (.int .i64 ((mval m x).getD 0)) w ∧ (Lit.int .i64 ((mval m x).getD 0)).wf = true := by
  obtain ⟨n, D, h1, h2, h3, h4⟩ := h
  obtain ⟨c, hrun, hat, hwf⟩ := h2.lookup_int law3i Try.underlying54 Try.underlying3 (zero3 w) (keyOf_int_mk Try.underlying3 hx)
  rw [(h4 x).1] at hat
  injection hat with e
  injection e with _ e
  rw [hrun, e]
  exact ⟨rfl, hwf⟩
theorem MapI.lookOk {w : World} {b : Nat} {m : List (Int × Option Int)} (h : MapI w b m) (x : Int) (hx : (Lit.int .i64 x).wf = true) : (Instr.lookup 54 (.map (some b)) (.int .i64 x) true).run Try.prog w = .ok (.tuple #[.int .i64 ((mval m x).getD 0), .bool (mval m x).isSome]) w := by
  have hw := (h.look x hx).2
  obtain ⟨n, D, h1, h2, h3, h4⟩ := h
  obtain ⟨v, ps, hrun, hv⟩ := h2.look_ok law3i Try.underlying54 (zero3 w) (plainElem_int Try.underlying3 (by decide)) (keyOf_int_mk Try.underlying3 hx)
  obtain ⟨c, rfl, hc, _⟩ := plainElem_int_inv Try.underlying3 hv
  rw [(h4 x).1] at hc
  rw [(h4 x).2] at hrun
  have e := congrArg Prod.fst hc
  simp only at e
  injection e with e
  injection e with _ e
  rw [hrun, e]
theorem key_lit {x : Int} (hx : (Lit.int .i64 x).wf = true) : WideAt.IsKeyLit (Lit.int .i64 x) := law3i.key (keyOf_int_mk Try.underlying3 hx)
theorem MapI.store {w : World} {b : Nat} {m : List (Int × Option Int)} (h : MapI w b m) (x v : Int) (hx : (Lit.int .i64 x).wf = true) (hv : (Lit.int .i64 v).wf = true) (hl : m.length < 1000000) : ∃ w', (Instr.mapUpdate 54 (.map (some b)) (.int .i64 x) (.int .i64 v)).run Try.prog w = .ok () w' ∧ MapI w' b ((x, some v) :: m) ∧ w.grownBy w' (some b) := by
  obtain ⟨n, D, h1, h2, h3, h4⟩ := h
  obtain ⟨w', r1, r2, r3⟩ := h2.update law3i Try.underlying54 (by unfold maxLen; omega) (keyOf_int_mk Try.underlying3 hx) (plainElem_int Try.underlying3 hv)
  refine ⟨w', r1, ⟨n + 1, _, by simp; omega, r2, h3.put _ _, fun k => ?_⟩, r3⟩
  by_cases e : k = x
  · subst e
    rw [Maps.atKey_put_same h3 (key_lit hx), Maps.has_put_same h3 (key_lit hx)]
    simp [mval]
  · have e' : ¬ x = k := fun h => e h.symm
    rw [Maps.atKey_put_other (by simpa using e), Maps.has_put_other (by simpa using e), (h4 k).1, (h4 k).2]
    simp [mval, e']
def SetI (w : World) (b : Nat) (S : List Int) : Prop := ∃ n, ∃ D : DataW Unit, n ≤ S.length ∧ w.ownsMap Try.prog 3 (plainElem Try.prog 4) b n D ∧ IsMap D ∧ ∀ k : Int, D.atKey (.int .i64 k) (.lit (.bool false)) = .lit (.bool (decide (k ∈ S)))
theorem SetI.made (w : World) : SetI (w.alloc (.map #[] 0)) w.heap.size [] :=
  ⟨0, .map [], Nat.le_refl _, World.ownsMap_made _ _ _ _, isMap_empty, fun k => by simp [DataW.atKey]⟩
theorem SetI.kept {w w' : World} {b : Nat} {S : List Int} {row : Option Nat} (h : SetI w b S) (hg : w.grownBy w' row) (hne : some b ≠ row) : SetI w' b S := by
  obtain ⟨n, D, h1, h2, h3⟩ := h
  exact ⟨n, D, h1, h2.kept hg hne, h3⟩
theorem zero4 (w : World) : (zeroValue 4).run Try.prog w = .ok (.bool false) w := by
  first | rfl | (simp [zeroValue]; done) | (unfold zeroValue; simp; done)
theorem SetI.look {w : World} {b : Nat} {S : List Int} (h : SetI w b S) (x : Int) (hx : (Lit.int .i64 x).wf = true) : (Instr.lookup 59 (.map (some b)) (.int .i64 x) false).run Try.prog w = .ok (.bool (decide (x ∈ S))) w := by
  obtain ⟨n, D, h1, h2, h3, h4⟩ := h
  obtain ⟨v, ps, hrun, hv⟩ := h2.lookup law3i Try.underlying59 (zero4 w) (plainElem_bool Try.underlying4 false) (keyOf_int_mk Try.underlying3 hx)
  rw [h4 x] at hv
  rw [hrun]
  have : v = .bool (decide (x ∈ S)) := by
    unfold plainElem at hv
    rw [Try.underlying4] at hv
    cases v <;> simp at hv
    rename_i y
    rw [hv.1]
  rw [this]
theorem SetI.store {w : World} {b : Nat} {S : List Int} (h : SetI w b S) (x : Int) (hx : (Lit.int .i64 x).wf = true) (hl : S.length < 1000000) : ∃ w', (Instr.mapUpdate 59 (.map (some b)) (.int .i64 x) (.bool true)).run Try.prog w = .ok () w' ∧ SetI w' b (x :: S) ∧ w.grownBy w' (some b) := by
  obtain ⟨n, D, h1, h2, h3, h4⟩ := h
  obtain ⟨w', r1, r2, r3⟩ := h2.update law3i Try.underlying59 (by unfold maxLen; omega) (keyOf_int_mk Try.underlying3 hx) (plainElem_bool Try.underlying4 true)
  refine ⟨w', r1, ⟨n + 1, _, by simp; omega, r2, h3.put _ _, fun k => ?_⟩, r3⟩
  by_cases e : k = x
  · subst e
    rw [Maps.atKey_put_same h3 (law3i.key (keyOf_int_mk Try.underlying3 hx))]
    simp
  · rw [Maps.atKey_put_other (by simpa using e), h4]
    simp [e]

theorem MapI.below {w w' : World} {b : Nat} {m : List (Int × Option Int)} (h : MapI w b m) (hb : Below w.heap.size w w') : MapI w' b m := h.kept (row := none) ⟨hb.os, hb.tape, hb.output, hb.size, fun k hk _ => hb.block k hk⟩ (by simp)
theorem SetI.below {w w' : World} {b : Nat} {S : List Int} (h : SetI w b S) (hb : Below w.heap.size w w') : SetI w' b S := h.kept (row := none) ⟨hb.os, hb.tape, hb.output, hb.size, fun k hk _ => hb.block k hk⟩ (by simp)
theorem SetI.lt {w : World} {b : Nat} {S : List Int} (h : SetI w b S) : b < w.heap.size := by
  obtain ⟨n, D, h1, h2, h3⟩ := h
  exact h2.lt
end Go.Proofs.Ytdndnjpfpelimaa.PG
