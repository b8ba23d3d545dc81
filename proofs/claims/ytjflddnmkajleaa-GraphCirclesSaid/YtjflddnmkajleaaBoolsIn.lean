/- A slice of bools that comes in as an argument reads as a list of bools (what the printed walks ask of it). -/
import Derived.Test.YtjflddnmkajleaaWWords
import Derived.Deep.Grids
namespace Go.Proofs.Ytjflddnmkajleaa.BoolsIn
open Go.RowKit Go.Deep Go.Proofs.YtjflddnmkajleaaW.PrintWords Go.ChangeShapes Go.WideShapes

/-- The bools, up to the slice's length. -/
theorem boolsIn {H : Type} {enc : TypeId × Value → H} {P : Program} {w : World} {base : Nat} {held : Bool} {t e : TypeId} {fuel : Nat} {a0 : Option Addr} {len0 cap0 : Nat} {x : DataW H × List MemPlace}
    (ht : P.underlying t = some (.slice e)) (he : P.underlying e = some .bool) (ce : P.cellsOf e = 1)
    (h : DataW.trod enc P w base (fun _ => true) held fuel t [.slice a0 len0 cap0] = some x) :
    ∃ l : List Bool, len0 = l.length ∧ Kd.C Kd.bool w a0 l.length l ∧ l.length ≤ cap0 := by
  rcases open_bools ht he ce h with ⟨hcs, _⟩ | ⟨a, len, cap, B, hcs, _, hl, hm, _, hr⟩
  · simp at hcs
    obtain ⟨rfl, rfl, rfl⟩ := hcs
    exact ⟨[], rfl, Kd.C_nil _ _, Nat.le_refl _⟩
  · simp at hcs
    obtain ⟨rfl, rfl, rfl⟩ := hcs
    refine ⟨(List.range len0).map B, by simp, ?_, by simpa using hl⟩
    have hmm : maxLen = 9223372036854775807 := by decide
    refine ⟨rfl, by simp; omega, fun _ => ⟨a, rfl, fun j p hj => ?_⟩⟩
    rw [List.getElem?_map] at hj
    obtain ⟨j', hj', rfl⟩ := Option.map_eq_some_iff.mp hj
    have hjl : j < len0 := by
      have := List.getElem?_eq_some_iff.mp hj'
      obtain ⟨h1, _⟩ := this
      simpa using h1
    have e1 : j' = j := by
      rw [List.getElem?_range hjl] at hj'
      exact (Option.some.inj hj').symm
    subst e1
    refine ⟨[.bool (B j')], rfl, rfl, fun i u hu => ?_⟩
    have hm0 : i = 0 := by
      have := (List.getElem?_eq_some_iff.mp hu).1
      simpa using this
    subst hm0
    simp at hu
    subst hu
    rw [show j' * Kd.bool.sz + 0 = j' from by show j' * 1 + 0 = j'; omega]
    exact hr j' (by omega)

end Go.Proofs.Ytjflddnmkajleaa.BoolsIn
