/- Plain law: what GraphDoms' code computes is true at every graph and any two points. -/
import Derived.Test.YtjflddnmkajleaaGh
namespace Go.Proofs.Ytjflddnmkajleaa.Pure
set_option linter.unusedVariables false
set_option linter.unusedSimpArgs false
open Go.RowKit Go.Proofs.Ytjflddnmkajleaa.PG Go.Proofs.YtjflddnmkajleaaW.PrintWords Go.Proofs.YtjflddnmkajleaaW.PrintLast Go.Proofs.Ytjflddnmkajleaa.Norm Go.Proofs.Ytjflddnmkajleaa.Dm

theorem awakeIs : Ev (fun k => ratlinelaw10_awake.f k) true :=
  Ev.of (fun k => ratlinelaw10_awake.mono k) (k := 100) (by decide +kernel)
theorem gd_j2 (Y : List Int) (a b : Int) (t : Bool) (h : t = true → a < 0 ∨ (Y.length : Int) ≤ a ∨ b < 0 ∨ (Y.length : Int) ≤ b) : Ev (fun k => ratlinelaw10_GraphDoms.j2 k a b Y t) true := by
  have e5 : Ev (fun k => (ratlinelaw10_awake.f k).bind fun t462 => some t462) true := Ev.bind (f := fun _ u => some u) awakeIs (Ev.now _)
  cases t with
  | true =>
    have e6 := Ev.bind (f := fun k t508 => (if t508 = true then (some false) else ((ratlinelaw10_awake.f k).bind fun t509 => (some t509)))) (dominates_off Y a b (h rfl)) (by simpa using e5)
    refine Ev.step (fun k => ?_) e6
    rw [ratlinelaw10_GraphDoms.j2, if_pos rfl]
  | false =>
    refine Ev.step (fun k => ?_) e5
    rw [ratlinelaw10_GraphDoms.j2, if_neg (by simp)]
theorem gd_l1 (l : List (List Int)) (hn : l.length ≤ 40) (a b : Int) (Y : List Int) (O : List (List Bool)) (r : List Bool) (hr : r.length = l.length) (x : Nat) (hx : x < l.length) (hO : O.length = l.length) (hrow : (rd_L5 O (x : Int)).length = l.length)
    (hd : ∀ y, y < l.length → rdOf false r (x : Int) = true → rdOf false r (y : Int) = true → Ev (fun k => graph_Dominates.f k Y (x : Int) (y : Int)) (rdOf false (rd_L5 O (x : Int)) (y : Int)))
    (hk : Ev (fun k => ratlinelaw10_GraphDoms.l0 k l a b Y O r (wrap64 ((x : Int) + 1))) true) : ∀ (m y : Nat), y + m = l.length → Ev (fun k => ratlinelaw10_GraphDoms.l1 k l a b Y O r (x : Int) (y : Int)) true
  | 0, y, h => by
    refine Ev.step (fun k => ?_) hk
    rw [ratlinelaw10_GraphDoms.l1, if_neg (by omega)]
  | m + 1, y, h => by
    have hy : y < l.length := by omega
    have ih := gd_l1 l hn a b Y O r hr x hx hO hrow hd hk m (y + 1) (by omega)
    have next : Ev (fun k => ratlinelaw10_GraphDoms.l1 k l a b Y O r (x : Int) (wrap64 ((y : Int) + 1))) true := by
      rw [w1 (by omega)]
      exact ih
    by_cases c1 : rdOf false r (x : Int) = true
    · by_cases c2 : rdOf false r (y : Int) = true
      · have e := Ev.bind (f := fun k t505 => (if (x : Int) < (O.length : Int) then (if (y : Int) < ((rd_L5 O (x : Int)).length : Int) then (if (t505 != (rdOf false (rd_L5 O (x : Int)) (y : Int))) = true then (some false) else (ratlinelaw10_GraphDoms.l1 k l a b Y O r (x : Int) (wrap64 ((y : Int) + 1)))) else (none)) else (none))) (hd y hy c1 c2) (by
          refine Ev.congr (fun k => ?_) next
          rw [if_pos (by omega), if_pos (by omega), if_neg (by simp)])
        refine Ev.step (fun k => ?_) e
        rw [ratlinelaw10_GraphDoms.l1, if_pos (by omega), if_pos (by omega), if_pos (by omega), if_pos c1, if_pos (by omega), if_pos (by omega), if_pos c2]
      · refine Ev.step (fun k => ?_) next
        rw [ratlinelaw10_GraphDoms.l1, if_pos (by omega), if_pos (by omega), if_pos (by omega), if_pos c1, if_pos (by omega), if_pos (by omega), if_neg c2]
    · refine Ev.step (fun k => ?_) next
      rw [ratlinelaw10_GraphDoms.l1, if_pos (by omega), if_pos (by omega), if_pos (by omega), if_neg c1]
theorem gd_l0 (l : List (List Int)) (hn : l.length ≤ 40) (a b : Int) (Y : List Int) (hY : Y.length = l.length) (O : List (List Bool)) (r : List Bool) (hr : r.length = l.length) (hO : O.length = l.length) (hrow : ∀ x : Nat, x < l.length → (rd_L5 O (x : Int)).length = l.length)
    (hd : ∀ x y : Nat, x < l.length → y < l.length → rdOf false r (x : Int) = true → rdOf false r (y : Int) = true → Ev (fun k => graph_Dominates.f k Y (x : Int) (y : Int)) (rdOf false (rd_L5 O (x : Int)) (y : Int))) : ∀ (m x : Nat), x + m = l.length → Ev (fun k => ratlinelaw10_GraphDoms.l0 k l a b Y O r (x : Int)) true
  | 0, x, h => by
    by_cases c1 : a < 0
    · refine Ev.step (fun k => ?_) (gd_j2 Y a b true (fun _ => .inl c1))
      rw [ratlinelaw10_GraphDoms.l0, if_neg (by omega), if_pos c1]
    · by_cases c2 : a ≥ (l.length : Int)
      · refine Ev.step (fun k => ?_) (gd_j2 Y a b true (fun _ => .inr (.inl (by omega))))
        rw [ratlinelaw10_GraphDoms.l0, if_neg (by omega), if_neg c1, if_pos c2]
      · by_cases c3 : b < 0
        · refine Ev.step (fun k => ?_) (gd_j2 Y a b true (fun _ => .inr (.inr (.inl c3))))
          rw [ratlinelaw10_GraphDoms.l0, if_neg (by omega), if_neg c1, if_neg c2, if_pos c3]
        · refine Ev.step (fun k => ?_) (gd_j2 Y a b (decide (b ≥ (l.length : Int))) (fun h => .inr (.inr (.inr (by have := of_decide_eq_true h; omega)))))
          rw [ratlinelaw10_GraphDoms.l0, if_neg (by omega), if_neg c1, if_neg c2, if_neg c3]
  | m + 1, x, h => by
    have ih := gd_l0 l hn a b Y hY O r hr hO hrow hd m (x + 1) (by omega)
    have e := gd_l1 l hn a b Y O r hr x (by omega) hO (hrow x (by omega)) (fun y hy => hd x y (by omega) hy) (by rw [w1 (by omega)]; exact ih) l.length 0 (by omega)
    refine Ev.step (fun k => ?_) e
    rw [ratlinelaw10_GraphDoms.l0, if_pos (by omega)]
    rfl
theorem GraphDoms (l : List (List Int)) (a : Int) (_ : (Lit.int .i64 a).wf = true) (b : Int) (_ : (Lit.int .i64 b).wf = true) : ∃ k, ratlinelaw10_GraphDoms.f k l a b = some true := by
  apply Ev.rounds
  have e5 : Ev (fun k => (ratlinelaw10_awake.f k).bind fun t462 => some t462) true := Ev.bind (f := fun _ u => some u) awakeIs (Ev.now _)
  rcases few l with ⟨hg, hf⟩ | hf
  · have hs := hg.1
    obtain ⟨Y, hY, eD, hT⟩ := Norm.Doms l hg
    obtain ⟨r, hr, hc, eR⟩ := Norm.RefReach l hg
    have main : ∀ (OV : List (List Bool)), Ev (fun k => ratlineref10_Doms.f k l) Y → Ev (fun k => ratlineref10_Over.f k l) OV → Ev (fun k => ratlinelaw10_GraphDoms.l0 k l a b Y OV r 0) true → Ev (fun k => ratlinelaw10_GraphDoms.f k l a b) true := by
      intro OV e1 e2 e3
      have f3 := Ev.bind (f := fun k t500 => ratlinelaw10_GraphDoms.l0 k l a b Y OV t500 0) eR e3
      have f2 := Ev.bind (f := fun k t497 => (ratlineref10_Reach.f k l).bind fun t500 => ratlinelaw10_GraphDoms.l0 k l a b Y t497 t500 0) e2 f3
      have f1 := Ev.bind (f := fun k t496 => if t496 = true then ((ratlineref10_Over.f k l).bind fun t497 => (ratlineref10_Reach.f k l).bind fun t500 => ratlinelaw10_GraphDoms.l0 k l a b Y t497 t500 0) else (some false)) (same Y (by omega)) (by simpa using f2)
      have f0 := Ev.bind (f := fun k t493 => (ratlineref11_SameInts.f k Y t493).bind fun t496 => if t496 = true then ((ratlineref10_Over.f k l).bind fun t497 => (ratlineref10_Reach.f k l).bind fun t500 => ratlinelaw10_GraphDoms.l0 k l a b Y t497 t500 0) else (some false)) e1 f1
      have f9 := Ev.bind (f := fun k t490 => (ratlineref10_Doms.f k l).bind fun t493 => (ratlineref11_SameInts.f k t490 t493).bind fun t496 => if t496 = true then ((ratlineref10_Over.f k l).bind fun t497 => (ratlineref10_Reach.f k l).bind fun t500 => ratlinelaw10_GraphDoms.l0 k l a b t490 t497 t500 0) else (some false)) eD f0
      exact Ev.bind (f := fun k t488 => if t488 = true then ((graph_Doms.f k l).bind fun t490 => (ratlineref10_Doms.f k l).bind fun t493 => (ratlineref11_SameInts.f k t490 t493).bind fun t496 => if t496 = true then ((ratlineref10_Over.f k l).bind fun t497 => (ratlineref10_Reach.f k l).bind fun t500 => ratlinelaw10_GraphDoms.l0 k l a b t490 t497 t500 0) else (some false)) else ((ratlinelaw10_awake.f k).bind fun t489 => (some t489))) hf (by simpa using f9)
    by_cases h0 : l.length = 0
    · have hl : l = [] := List.eq_nil_of_length_eq_zero h0
      subst hl
      have hY0 : Y = [] := List.eq_nil_of_length_eq_zero hY
      subst hY0
      refine main [] (Ev.of (fun k => ratlineref10_Doms.mono _ k) (k := 20) (by decide +kernel)) (Ev.of (fun k => ratlineref10_Over.mono _ k) (k := 20) (by decide +kernel)) ?_
      exact gd_l0 [] (by simp) a b [] rfl [] r hr rfl (fun x hx => by simp at hx) (fun x y hx => by simp at hx) 0 0 rfl
    · obtain ⟨o, O, T⟩ := hT (by omega)
      refine main _ (refDoms l hg (by omega) O hY T) (Over l hg (by omega) O) ?_
      refine gd_l0 l hs a b Y hY _ r hr over_len (fun x hx => over_row hx) (fun x y hx hy c1 c2 => ?_) l.length 0 (by omega)
      have hl := norm_length l
      have ix := (come_av (neat l hg) (by omega) hc x (by omega)).mp c1
      have iy := (come_av (neat l hg) (by omega) hc y (by omega)).mp c2
      rw [av_iff O] at ix iy
      rw [over_at hx hy]
      exact dominates_is O hs hY T ix iy
  · exact Ev.bind (f := fun k t488 => if t488 = true then ((graph_Doms.f k l).bind fun t490 => (ratlineref10_Doms.f k l).bind fun t493 => (ratlineref11_SameInts.f k t490 t493).bind fun t496 => if t496 = true then ((ratlineref10_Over.f k l).bind fun t497 => (ratlineref10_Reach.f k l).bind fun t500 => ratlinelaw10_GraphDoms.l0 k l a b t490 t497 t500 0) else (some false)) else ((ratlinelaw10_awake.f k).bind fun t489 => (some t489))) hf (by simpa using e5)
end Go.Proofs.Ytjflddnmkajleaa.Pure
