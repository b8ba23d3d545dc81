/- A slice of structs of two whole numbers, and one of whole numbers, that come in as arguments read as lists (what the printed walks ask of them). -/
import Derived.Test.YtcfomfcalpnbcaaPGx0
import Derived.Deep.SlicePairs
import Derived.ChangeSlices
namespace Go.Proofs.Ytcfomfcalpnbcaa.PairsIn
open Go.RowKit Go.Deep Go.Proofs.YtcfomfcalpnbcaaW.PrintWords Go.ChangeShapes Go.WideShapes Go.Proofs.Ytcfomfcalpnbcaa.PG

instance : Inhabited S30 := ⟨z30⟩
theorem pairsIn {H : Type} {enc : TypeId × Value → H} {P : Program} {w : World} {base : Nat} {held : Bool} {t e : TypeId} {f0 f1 : Field} {fuel : Nat} {a0 : Option Addr} {len0 cap0 : Nat} {x : DataW H × List MemPlace}
    (ht : P.underlying t = some (.slice e)) (he : P.underlying e = some (.struct #[f0, f1])) (ce : P.cellsOf e = 2) (o0 : f0.offset = 0) (o1 : f1.offset = 1) (c0 : P.cellsOf f0.type = 1) (c1 : P.cellsOf f1.type = 1)
    (i0 : P.underlying f0.type = some (.int .i64)) (i1 : P.underlying f1.type = some (.int .i64))
    (h : DataW.trod enc P w base (fun _ => true) held fuel t [.slice a0 len0 cap0] = some x) :
    ∃ l : List S30, len0 = l.length ∧ Kd.C k30 w a0 l.length l ∧ l.length ≤ cap0 ∧ ∀ y ∈ l, (Lit.int .i64 y.f0).wf = true ∧ (Lit.int .i64 y.f1).wf = true := by
  rcases open_slice_pairs ht he ce o0 o1 c0 c1 h with ⟨hcs, _⟩ | ⟨a, len, cap, m, n, V0, V1, D0, D1, P0, P1, hcs, _, hl, hm, hmm, _, hr⟩
  · simp at hcs
    obtain ⟨rfl, rfl, rfl⟩ := hcs
    exact ⟨[], rfl, Kd.C_nil _ _, Nat.le_refl _, fun _ h => absurd h (by simp)⟩
  · simp at hcs
    obtain ⟨rfl, rfl, rfl⟩ := hcs
    simp only [if_true] at hmm
    subst hmm
    obtain ⟨q, hq⟩ := choose_lt (α := S30) (p := fun i y => V0 i = .int .i64 y.f0 ∧ V1 i = .int .i64 y.f1 ∧ (Lit.int .i64 y.f0).wf = true ∧ (Lit.int .i64 y.f1).wf = true) (n := m) (fun i hi => by
      obtain ⟨_, _, h0, h1⟩ := hr i hi
      obtain ⟨y0, e0, _, w0⟩ := DataW.trod_int i0 h0
      obtain ⟨y1, e1, _, w1⟩ := DataW.trod_int i1 h1
      exact ⟨⟨y0, y1⟩, by simpa using e0, by simpa using e1, w0, w1⟩)
    refine ⟨(List.range len0).map q, by simp, ?_, by simpa using hl, ?_⟩
    · have hmx : maxLen = 9223372036854775807 := by decide
      refine ⟨rfl, by simp; omega, fun _ => ⟨a, rfl, fun j p hj => ?_⟩⟩
      rw [List.getElem?_map] at hj
      obtain ⟨j', hj', rfl⟩ := Option.map_eq_some_iff.mp hj
      have hjl : j < len0 := by
        have := List.getElem?_eq_some_iff.mp hj'
        obtain ⟨h1, _⟩ := this
        simpa using h1
      have e1 : j' = j := by
        rw [List.getElem?_range hjl] at hj'
        exact (Option.some.inj hj').symm
      subst e1
      obtain ⟨g0, g1, _, _⟩ := hr j' (by omega)
      obtain ⟨v0, v1, _, _⟩ := hq j' (by omega)
      refine ⟨[.int .i64 (q j').f0, .int .i64 (q j').f1], rfl, k30_mk _ _, fun i u hu => ?_⟩
      match i, hu with
      | 0, hu =>
        simp at hu
        subst hu
        rw [← v0]
        exact g0
      | 1, hu =>
        simp at hu
        subst hu
        rw [← v1]
        exact g1
    · intro y hy
      obtain ⟨j, hj, rfl⟩ := List.mem_map.mp hy
      have := List.mem_range.mp hj
      obtain ⟨_, _, w0, w1⟩ := hq j (by omega)
      exact ⟨w0, w1⟩

theorem intsIn {H : Type} {enc : TypeId × Value → H} {P : Program} {w : World} {base : Nat} {held : Bool} {t e : TypeId} {fuel : Nat} {a0 : Option Addr} {len0 cap0 : Nat} {x : DataW H × List MemPlace}
    (ht : P.underlying t = some (.slice e)) (he : P.underlying e = some (.int .i64)) (ce : P.cellsOf e = 1)
    (h : DataW.trod enc P w base (fun _ => true) held fuel t [.slice a0 len0 cap0] = some x) :
    ∃ l : List Int, len0 = l.length ∧ Kd.C (Kd.int .i64) w a0 l.length l ∧ l.length ≤ cap0 := by
  rcases open_ints ht he ce h with ⟨hcs, _⟩ | ⟨a, len, cap, zs, hcs, _, hl, hm, hz, _, hr, _⟩
  · simp at hcs
    obtain ⟨rfl, rfl, rfl⟩ := hcs
    exact ⟨[], rfl, Kd.C_nil _ _, Nat.le_refl _⟩
  · simp at hcs
    obtain ⟨rfl, rfl, rfl⟩ := hcs
    simp only [if_true] at hz
    have hlen : (zs.take len0).length = len0 := by rw [List.length_take]; omega
    refine ⟨zs.take len0, hlen.symm, ?_, by omega⟩
    have hmm : maxLen = 9223372036854775807 := by decide
    refine ⟨rfl, by omega, fun _ => ⟨a, rfl, fun j p hj => ?_⟩⟩
    have hjl : j < len0 := by
      have := List.getElem?_eq_some_iff.mp hj
      obtain ⟨h1, _⟩ := this
      omega
    refine ⟨[.int .i64 p], rfl, rfl, fun i u hu => ?_⟩
    have hm0 : i = 0 := by
      have := (List.getElem?_eq_some_iff.mp hu).1
      simpa using this
    subst hm0
    simp at hu
    subst hu
    rw [show j * (Kd.int IntKind.i64).sz + 0 = j from by show j * 1 + 0 = j; omega, hr j (by omega)]
    rw [List.getElem?_take_of_lt hjl] at hj
    rw [List.getD_eq_getElem?_getD, hj]
    rfl
end Go.Proofs.Ytcfomfcalpnbcaa.PairsIn
