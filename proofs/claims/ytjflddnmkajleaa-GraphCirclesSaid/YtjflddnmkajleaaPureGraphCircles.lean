/- Plain law: what GraphCircles' code computes is true at every graph and at any points marked. -/
import Derived.Test.YtjflddnmkajleaaGq
namespace Go.Proofs.Ytjflddnmkajleaa.Pure
open Go.RowKit Go.Proofs.Ytjflddnmkajleaa.PG Go.Proofs.YtjflddnmkajleaaW.PrintWords Go.Proofs.YtjflddnmkajleaaW.PrintLast Go.Proofs.Ytjflddnmkajleaa.Norm

theorem awakeIs : Ev (fun k => ratlinelaw10_awake.f k) true :=
  Ev.of (fun k => ratlinelaw10_awake.mono k) (k := 100) (by decide +kernel)
theorem GraphCircles (l0 : List (List Int)) (l1 : List Bool) : ∃ k, ratlinelaw10_GraphCircles.f k l0 l1 = some true := by
  have e5 : Ev (fun k => (ratlinelaw10_awake.f k).bind fun t462 => some t462) true := Ev.bind (f := fun _ u => some u) awakeIs (Ev.now _)
  refine Ev.rounds (g := fun k => ratlinelaw10_GraphCircles.f k l0 l1) ?_
  rcases few l0 with ⟨hs, h⟩ | h
  · obtain ⟨r, h1, h2⟩ := BothCyclic l0 hs l1
    have e3 := Ev.bind (f := fun k t589 => (if (r == t589) = true then ((ratlinelaw10_awake.f k).bind fun t590 => (some t590)) else (some false))) h2 (by simpa using e5)
    have e2 := Ev.bind (f := fun k t588 => (ratlineref10_Cyclic.f k l0 l1).bind fun t589 => (if (t588 == t589) = true then ((ratlinelaw10_awake.f k).bind fun t590 => (some t590)) else (some false))) h1 e3
    exact Ev.bind (f := fun k t587 => (if t587 = true then ((graph_Cyclic.f k l0 l1).bind fun t588 => ((ratlineref10_Cyclic.f k l0 l1).bind fun t589 => (if (t588 == t589) = true then ((ratlinelaw10_awake.f k).bind fun t590 => (some t590)) else (some false)))) else ((ratlinelaw10_awake.f k).bind fun t591 => (some t591)))) h (by simpa using e2)
  · exact Ev.bind (f := fun k t587 => (if t587 = true then ((graph_Cyclic.f k l0 l1).bind fun t588 => ((ratlineref10_Cyclic.f k l0 l1).bind fun t589 => (if (t588 == t589) = true then ((ratlinelaw10_awake.f k).bind fun t590 => (some t590)) else (some false)))) else ((ratlinelaw10_awake.f k).bind fun t591 => (some t591)))) h (by simpa using e5)
end Go.Proofs.Ytjflddnmkajleaa.Pure
