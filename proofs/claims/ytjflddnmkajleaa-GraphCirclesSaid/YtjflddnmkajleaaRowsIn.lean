/- A slice of slices of whole numbers that comes in as an argument reads as a list of lists (what the printed walks ask of it). -/
import Derived.Test.YtjflddnmkajleaaWWords
import Derived.Deep.Matrix
namespace Go.Proofs.Ytjflddnmkajleaa.RowsIn
open Go.RowKit Go.Deep Go.Proofs.YtjflddnmkajleaaW.PrintWords Go.ChangeShapes Go.WideShapes

/-- The rows' numbers, each row up to its length. -/
theorem rowsIn {H : Type} {enc : TypeId × Value → H} {P : Program} {w : World} {base : Nat} {held : Bool} {t e q : TypeId} {fuel : Nat} {a0 : Option Addr} {len0 cap0 : Nat} {x : DataW H × List MemPlace}
    (ht : P.underlying t = some (.slice e)) (he : P.underlying e = some (.slice q)) (hq : P.underlying q = some (.int .i64)) (ce : P.cellsOf e = 1) (cq : P.cellsOf q = 1)
    (h : DataW.trod enc P w base (fun _ => true) held fuel t [.slice a0 len0 cap0] = some x) :
    ∃ l : List (List Int), len0 = l.length ∧ Kd.C (Kd.slice 3 (Kd.int .i64)) w a0 l.length l ∧ l.length ≤ cap0 := by
  rcases open_int_rows ht he hq ce cq h with ⟨hcs, _⟩ | ⟨a, len, cap, A, L, C, Z, hcs, _, hl, hm, _, hr⟩
  · simp at hcs
    obtain ⟨rfl, rfl, rfl⟩ := hcs
    exact ⟨[], rfl, Kd.C_nil _ _, Nat.le_refl _⟩
  · simp at hcs
    obtain ⟨rfl, rfl, rfl⟩ := hcs
    refine ⟨(List.range len0).map fun r => (Z r).take (L r), by simp, ?_, by simpa using hl⟩
    have hmm : maxLen = 9223372036854775807 := by decide
    refine ⟨rfl, by simp; omega, fun _ => ⟨a, rfl, fun j p hj => ?_⟩⟩
    rw [List.getElem?_map] at hj
    obtain ⟨j', hj', rfl⟩ := Option.map_eq_some_iff.mp hj
    have hjl : j < len0 := by
      have := List.getElem?_eq_some_iff.mp hj'
      obtain ⟨h1, _⟩ := this
      simpa using h1
    have e1 : j' = j := by
      rw [List.getElem?_range hjl] at hj'
      exact (Option.some.inj hj').symm
    subst e1
    obtain ⟨c1, c2, c3, c4, _, c6, c7⟩ := hr j' (by omega)
    have hlen : ((Z j').take (L j')).length = L j' := by rw [List.length_take]; omega
    refine ⟨[.slice (A j') (L j') (C j')], rfl, ⟨A j', C j', by rw [hlen], by omega, ?_⟩, fun i u hu => ?_⟩
    · refine ⟨rfl, by omega, fun hp => ?_⟩
      cases hA : A j' with
      | none => have := c6 hA; omega
      | some a' =>
        refine ⟨a', rfl, fun i p hp => ?_⟩
        obtain ⟨_, c8⟩ := c7 a' hA
        have hi : i < ((Z j').take (L j')).length := (List.getElem?_eq_some_iff.mp hp).1
        refine ⟨[.int .i64 p], rfl, rfl, fun m u hu => ?_⟩
        have hm0 : m = 0 := by
          have := (List.getElem?_eq_some_iff.mp hu).1
          simpa using this
        subst hm0
        simp at hu
        subst hu
        have c9 := c8 i (by omega)
        rw [show i * (Kd.int IntKind.i64).sz + 0 = i from by show i * 1 + 0 = i; omega, c9]
        have hiL : i < L j' := by omega
        rw [List.getElem?_take_of_lt hiL] at hp
        rw [List.getD_eq_getElem?_getD, hp]
        rfl
    · have hm0 : i = 0 := by
        have := (List.getElem?_eq_some_iff.mp hu).1
        simpa using this
      subst hm0
      simp at hu
      subst hu
      rw [show j' * (Kd.slice 3 (Kd.int IntKind.i64)).sz + 0 = j' from by show j' * 1 + 0 = j'; omega]
      exact c1

end Go.Proofs.Ytjflddnmkajleaa.RowsIn
