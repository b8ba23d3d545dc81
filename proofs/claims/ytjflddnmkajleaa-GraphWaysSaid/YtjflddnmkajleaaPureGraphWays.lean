/- Plain law: what GraphWays' code computes is true at every graph. -/
import Derived.Test.YtjflddnmkajleaaGn
namespace Go.Proofs.Ytjflddnmkajleaa.Pure
open Go.RowKit Go.Proofs.Ytjflddnmkajleaa.PG Go.Proofs.YtjflddnmkajleaaW.PrintWords Go.Proofs.YtjflddnmkajleaaW.PrintLast Go.Proofs.Ytjflddnmkajleaa.Norm

theorem awakeIs : Ev (fun k => ratlinelaw10_awake.f k) true :=
  Ev.of (fun k => ratlinelaw10_awake.mono k) (k := 100) (by decide +kernel)
theorem ways_l0 (g : List (List Int)) (hg : Small g) : ∀ (suf pre : List (List Int)), pre.length + suf.length ≤ 40 → (∀ l ∈ pre ++ suf, l.length ≤ 10000) →
    Ev (fun k => ratlinelaw10_GraphWays.l0 k g (pre ++ suf) (pre ++ suf) (pre.length : Int)) true
  | [], pre, hl, hb => by
    obtain ⟨r, hr, _, h1, h2⟩ := Norm.Reach g hg
    obtain ⟨o, _, ho, h3, h4⟩ := Norm.Order g hg
    have hs := hg.1
    have e5 : Ev (fun k => (ratlinelaw10_awake.f k).bind fun t462 => some t462) true := Ev.bind (f := fun _ u => some u) awakeIs (Ev.now _)
    have e4 := Ev.bind (f := fun k t461 => if t461 = true then ((ratlinelaw10_awake.f k).bind fun t462 => (some t462)) else (some false)) (same o (by omega)) (by simpa using e5)
    have e3 := Ev.bind (f := fun k t455 => (ratlineref10_Order.f k g).bind fun t458 => (ratlineref11_SameInts.f k t455 t458).bind fun t461 => (if t461 = true then ((ratlinelaw10_awake.f k).bind fun t462 => (some t462)) else (some false))) h3 (Ev.bind (f := fun k t458 => (ratlineref11_SameInts.f k o t458).bind fun t461 => (if t461 = true then ((ratlinelaw10_awake.f k).bind fun t462 => (some t462)) else (some false))) h4 e4)
    have e2 := Ev.bind (f := fun k t454 => if t454 = true then ((graph_Order.f k g).bind fun t455 => (ratlineref10_Order.f k g).bind fun t458 => (ratlineref11_SameInts.f k t455 t458).bind fun t461 => (if t461 = true then ((ratlinelaw10_awake.f k).bind fun t462 => (some t462)) else (some false))) else (some false)) (bools r (by omega)) (by simpa using e3)
    have e1 := Ev.bind (f := fun k t448 => (ratlineref10_Reach.f k g).bind fun t451 => (ratlinelaw10_bools.f k t448 t451).bind fun t454 => if t454 = true then ((graph_Order.f k g).bind fun t455 => (ratlineref10_Order.f k g).bind fun t458 => (ratlineref11_SameInts.f k t455 t458).bind fun t461 => (if t461 = true then ((ratlinelaw10_awake.f k).bind fun t462 => (some t462)) else (some false))) else (some false)) h1 (Ev.bind (f := fun k t451 => (ratlinelaw10_bools.f k r t451).bind fun t454 => if t454 = true then ((graph_Order.f k g).bind fun t455 => (ratlineref10_Order.f k g).bind fun t458 => (ratlineref11_SameInts.f k t455 t458).bind fun t461 => (if t461 = true then ((ratlinelaw10_awake.f k).bind fun t462 => (some t462)) else (some false))) else (some false)) h2 e2)
    refine Ev.step (fun k => ?_) e1
    rw [ratlinelaw10_GraphWays.l0, if_neg (by simp)]
  | l :: suf, pre, hl, hb => by
    simp only [List.length_cons] at hl
    have h1 : ((pre.length : Nat) : Int) < ((pre ++ l :: suf).length : Int) := by simp; omega
    have ih := ways_l0 g hg suf (pre ++ [l]) (by simp; omega) (by simpa using hb)
    have hll := hb l (by simp)
    have e := Ev.bind (f := fun k t447 => if t447 = true then (ratlinelaw10_GraphWays.l0 k g (pre ++ l :: suf) (pre ++ l :: suf) (wrap64 ((pre.length : Int) + 1))) else (some false)) (same l (by omega)) (by
      rw [w1 (by omega)]
      simpa using ih)
    refine Ev.step (fun k => ?_) e
    rw [ratlinelaw10_GraphWays.l0, if_pos h1, if_pos (by omega), if_pos h1, rdAtL]
theorem GraphWays (l : List (List Int)) : ∃ k, ratlinelaw10_GraphWays.f k l = some true := by
  apply Ev.rounds
  rcases few l with ⟨hg, hf⟩ | hf
  · have hs := hg.1
    have hlen : (predsOf l).length = l.length := by rw [predsOf, pall_len]; simp
    have hlb : ∀ r ∈ predsOf l, r.length ≤ 0 + (norm l).length * 60 := pall_lb (norm l) 0 0 _ (neat l hg).short (by
      intro r hr
      rw [List.eq_of_mem_replicate hr]
      simp)
    rw [norm_length] at hlb
    have e0 := ways_l0 l hg (predsOf l) [] (by simp; omega) (by
      intro r hr
      have := hlb r (by simpa using hr)
      omega)
    have e1 := Ev.bind (f := fun k t439 => (ratlineref10_Preds.f k l).bind fun t442 => (if ((t439 : List (List Int)).length : Int) = (t442.length : Int) then (ratlinelaw10_GraphWays.l0 k l t439 t442 0) else (some false))) (Norm.Preds l hg) (Ev.bind (f := fun k t442 => (if ((predsOf l).length : Int) = ((t442 : List (List Int)).length : Int) then (ratlinelaw10_GraphWays.l0 k l (predsOf l) t442 0) else (some false))) (Norm.refPreds l hg) (by simpa using e0))
    exact Ev.bind (f := fun k t437 => if t437 = true then ((graph_Preds.f k l).bind fun t439 => (ratlineref10_Preds.f k l).bind fun t442 => (if (t439.length : Int) = (t442.length : Int) then (ratlinelaw10_GraphWays.l0 k l t439 t442 0) else (some false))) else ((ratlinelaw10_awake.f k).bind fun t438 => (some t438))) hf (by simpa using e1)
  · have e5 : Ev (fun k => (ratlinelaw10_awake.f k).bind fun t462 => some t462) true := Ev.bind (f := fun _ u => some u) awakeIs (Ev.now _)
    exact Ev.bind (f := fun k t437 => if t437 = true then ((graph_Preds.f k l).bind fun t439 => (ratlineref10_Preds.f k l).bind fun t442 => (if (t439.length : Int) = (t442.length : Int) then (ratlinelaw10_GraphWays.l0 k l t439 t442 0) else (some false))) else ((ratlinelaw10_awake.f k).bind fun t438 => (some t438))) hf (by simpa using e5)
end Go.Proofs.Ytjflddnmkajleaa.Pure
