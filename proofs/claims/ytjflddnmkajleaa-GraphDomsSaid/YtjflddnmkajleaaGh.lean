/- Plain law: graph.Doms, graph.Dominates and the document's own answer by ways. -/
import Derived.Test.YtjflddnmkajleaaGb
import Derived.Test.YtjflddnmkajleaaPGx37
namespace Go.Proofs.Ytjflddnmkajleaa.Norm
set_option linter.unusedVariables false
set_option linter.unusedSimpArgs false
open Go.RowKit Go.Proofs.Ytjflddnmkajleaa.PG Go.Proofs.YtjflddnmkajleaaW.PrintWords Go.Proofs.YtjflddnmkajleaaW.PrintLast Go.Proofs.Ytjflddnmkajleaa.Dm

theorem doms_l0 (g : List (List Int)) (R : List Int) (hn : g.length ≤ 40) (r : List Int) (hk : Ev (fun k => (graph_order.f k g).bind fun t152 => graph_doms.l1 k g (List.replicate g.length (-1)) R t152 t152 (t152.length : Int) 0) r) : ∀ (m j : Nat), j + m = g.length →
    Ev (fun k => graph_doms.l0 k g (List.replicate j (-1) ++ List.replicate m 0) R (g.length : Int) (j : Int)) r
  | 0, j, h => by
    refine Ev.step (fun k => ?_) hk
    rw [graph_doms.l0, if_neg (by omega)]
    have : j = g.length := by omega
    subst this
    simp
  | m + 1, j, h => by
    have ih := doms_l0 g R hn r hk m (j + 1) (by omega)
    refine Ev.step (fun k => ?_) ih
    rw [graph_doms.l0, if_pos (by omega), if_pos (by omega), if_pos (by simp; omega), w1 (by omega)]
    congr 1
    rw [List.replicate_succ]
    have := set_at (List.replicate j (-1 : Int)) 0 (-1) (List.replicate m 0)
    rw [List.length_replicate] at this
    rw [Int.toNat_natCast, this, List.replicate_succ']
    simp
theorem doms_l1 (g : List (List Int)) (X x6 ol : List Int) (hn : g.length ≤ 40) (ho : ol.length ≤ 100) (hp : ∀ q ∈ ol, 0 ≤ q ∧ q < (g.length : Int)) (hnd : (ol.map Int.toNat).Nodup) (r : List Int)
    (hk : ∀ R, Ranks g.length (ol.map Int.toNat) R → Ev (fun k => (graph_preds.f k g).bind fun t157 => graph_doms.l2 k X R x6 t157 true) r) : ∀ (suf pre R : List Int), ol = pre ++ suf → R.length = g.length → (∀ v ∈ pre.map Int.toNat, rd R (v : Int) = (((ol.map Int.toNat).idxOf v : Nat) : Int)) →
    Ev (fun k => graph_doms.l1 k g X R x6 ol (ol.length : Int) (pre.length : Int)) r
  | [], pre, R, he, hR, hv => by
    have : pre = ol := by rw [he]; simp
    subst this
    refine Ev.step (fun k => ?_) (hk R ⟨hR, hv⟩)
    rw [graph_doms.l1, if_neg (by omega)]
  | x :: suf, pre, R, he, hR, hv => by
    have hlen : ol.length = pre.length + 1 + suf.length := by rw [he]; simp; omega
    obtain ⟨x0, x1⟩ := hp x (by rw [he]; simp)
    have hx : rd ol (pre.length : Int) = x := by
      have := rdAt pre x suf
      rw [← he] at this
      exact this
    have hm : ol.map Int.toNat = pre.map Int.toNat ++ x.toNat :: suf.map Int.toNat := by rw [he]; simp
    have hxn : x.toNat ∉ pre.map Int.toNat := by
      intro hh
      rw [hm] at hnd
      exact (List.nodup_append.mp hnd).2.2 _ hh x.toNat (by simp) rfl
    have hix : (ol.map Int.toNat).idxOf x.toNat = pre.length := by
      rw [hm, List.idxOf_append, if_neg hxn]
      simp
    have ih := doms_l1 g X x6 ol hn ho hp hnd r hk suf (pre ++ [x]) (R.set x.toNat (pre.length : Int)) (by simp [he]) (by simpa using hR) (by
      intro v hvm
      have hs : rd (R.set x.toNat (pre.length : Int)) (v : Int) = if v = x.toNat then (pre.length : Int) else rd R (v : Int) := by
        simp only [rd, List.getD_eq_getElem?_getD, List.getElem?_set, Int.toNat_natCast]
        by_cases e : v = x.toNat
        · subst e
          have : x.toNat < R.length := by omega
          simp [this]
        · have : ¬ x.toNat = v := fun h => e h.symm
          simp [e, this]
      rw [hs]
      by_cases e : v = x.toNat
      · rw [if_pos e, e, hix]
      · rw [if_neg e]
        refine hv v ?_
        rw [List.map_append] at hvm
        rcases List.mem_append.mp hvm with h | h
        · exact h
        · simp at h; exact absurd h e)
    refine Ev.step (fun k => ?_) ih
    have h1 : ((pre.length : Nat) : Int) < (ol.length : Int) := by omega
    rw [graph_doms.l1, if_pos h1, if_pos (by omega), if_pos h1, hx, if_pos x0, if_pos (by omega), w1 (by omega)]
    simp
theorem doms_is {g : List (List Int)} (hg : Neat g) : ∃ Y : List Int, Y.length = g.length ∧ Ev (fun k => graph_doms.f k g) Y ∧ (0 < g.length → ∃ o : List Nat, Ord g.length (Eg g) o ∧ True_ g.length (Eg g) o (fn Y)) := by
  have hs := hg.few
  obtain ⟨ol, hL, hol, eo, _⟩ := order_is hg
  have hpr := preds g hg
  have start : ∀ Y, Ev (fun k => graph_doms.l1 k g (List.replicate g.length (-1)) (List.replicate g.length 0) ol ol (ol.length : Int) 0) Y → Ev (fun k => graph_doms.f k g) Y := by
    intro Y h
    have h1 := doms_l0 g (List.replicate g.length 0) hs Y (Ev.bind (f := fun k t152 => graph_doms.l1 k g (List.replicate g.length (-1)) (List.replicate g.length 0) t152 t152 (t152.length : Int) 0) eo h) g.length 0 (by omega)
    refine Ev.congr (fun k => ?_) h1
    simp only [graph_doms.f]
    rw [if_pos (by omega), if_pos (by omega)]
    simp
  by_cases h0 : g.length = 0
  · have ho : ol = [] := by
      rcases hL with ⟨_, h⟩ | ⟨h, _⟩
      · exact h
      · omega
    subst ho
    refine ⟨[], by simp [h0], start [] ?_, fun h => by omega⟩
    rw [h0]
    have e1 : Ev (fun k => graph_doms.l2 k [] [] [] (pall 0 (List.replicate g.length []) g) true) [] := by
      refine Ev.step (fun k => ?_) (Ev.step (g := fun k => graph_doms.l3 k [] [] [] (pall 0 (List.replicate g.length []) g) false [] 0 0) (fun k => ?_) (Ev.step (g := fun k => graph_doms.l2 k [] [] [] (pall 0 (List.replicate g.length []) g) false) (fun k => ?_) (Ev.now _)))
      · rw [graph_doms.l2, if_pos rfl, if_pos (by decide), if_pos (by decide)]
        rfl
      · rw [graph_doms.l3, if_neg (by omega)]
      · rw [graph_doms.l2, if_neg (by simp)]
    refine Ev.step (fun k => ?_) (Ev.bind (f := fun k t157 => graph_doms.l2 k [] [] [] t157 true) hpr e1)
    rw [graph_doms.l1, if_neg (by simp)]
    rfl
  · obtain ⟨O, hpts⟩ := ord_is hg (by omega) hL
    have hp : ∀ k ∈ ol.map Int.toNat, ∀ y, y ∈ prs (pall 0 (List.replicate g.length []) g) k ↔ Eg g y k := fun k _ y => prs_mem hg k y
    have hf0 : ∀ v, v < g.length → fn (List.replicate g.length (-1)) v = -1 := by
      intro v hv
      simp [fn, rd, List.getD_eq_getElem?_getD, List.getElem?_replicate, hv]
    have I0 : Inv g.length (Eg g) (ol.map Int.toNat) (fn (List.replicate g.length (-1))) := by
      refine ⟨fun v hv _ => hf0 v hv, fun v hv => by rw [hf0 v hv]; omega, fun v hv h => ?_⟩
      rw [hf0 v hv] at h
      omega
    obtain ⟨T, hT, hTrue⟩ := loop_is O (prs (pall 0 (List.replicate g.length []) g)) hp (fun u v e => (eg_lt hg e).1) _ I0
    -- the ranks are the same whatever list holds them
    have go : ∀ R, Ranks g.length (ol.map Int.toNat) R → ∃ Y : List Int, Y.length = g.length ∧ fn Y = T ∧ Ev (fun k => graph_doms.l2 k (List.replicate g.length (-1)) R ol (pall 0 (List.replicate g.length []) g) true) Y := by
      intro R hR
      exact l2_is (F := ⟨hg, O, hpts, hol, hR, rfl⟩) T hT (List.replicate g.length (-1)) 0 (by simp) rfl ⟨I0, fun v hv => ⟨fun h => by omega, fun _ q hq => by omega⟩⟩
    have uniq : ∀ Y Y' : List Int, Y.length = g.length → Y'.length = g.length → fn Y = fn Y' → Y = Y' := by
      intro Y Y' hY hY' he
      apply List.ext_getElem?
      intro i
      have := congrFun he i
      simp only [fn, rd, List.getD_eq_getElem?_getD, Int.toNat_natCast] at this
      by_cases hi : i < g.length
      · rw [List.getElem?_eq_getElem (by omega), List.getElem?_eq_getElem (by omega)] at this ⊢
        simpa using this
      · rw [List.getElem?_eq_none (by omega), List.getElem?_eq_none (by omega)]
    -- some rank list there is
    have some_ : ∃ R, Ranks g.length (ol.map Int.toNat) R := by
      refine ⟨(List.range g.length).map fun v => (((ol.map Int.toNat).idxOf v : Nat) : Int), by simp, fun v hv => ?_⟩
      have hvn := O.lt v hv
      simp [rd, List.getD_eq_getElem?_getD, hvn]
    obtain ⟨R0, hR0⟩ := some_
    obtain ⟨Y, hY, hfY, _⟩ := go R0 hR0
    refine ⟨Y, hY, start Y ?_, fun _ => ⟨ol.map Int.toNat, O, by rw [hfY]; exact hTrue⟩⟩
    refine doms_l1 g _ ol ol hs hol hpts O.nodup Y (fun R hR => ?_) ol [] (List.replicate g.length 0) rfl (by simp) (by simp)
    obtain ⟨Y', hY', hfY', eY'⟩ := go R hR
    have : Y' = Y := uniq Y' Y hY' hY (by rw [hfY', hfY])
    subst this
    exact Ev.bind (f := fun k t157 => graph_doms.l2 k (List.replicate g.length (-1)) R ol t157 true) hpr eY'
theorem Doms (l : List (List Int)) (hl : Small l) : ∃ Y : List Int, Y.length = l.length ∧ Ev (fun k => graph_Doms.f k l) Y ∧ (0 < l.length → ∃ o : List Nat, Ord l.length (Eg (norm l)) o ∧ True_ l.length (Eg (norm l)) o (fn Y)) := by
  obtain ⟨Y, h1, h2, h3⟩ := doms_is (neat l hl)
  rw [norm_length] at h1 h3
  exact ⟨Y, h1, Ev.bind (f := fun k t186 => (graph_doms.f k t186).bind fun t189 => some t189) (clean l hl) (Ev.bind (f := fun _ u => some u) h2 (Ev.now _)), h3⟩

/-! ### Dominates -/
theorem dominates_off (Y : List Int) (a b : Int) (h : a < 0 ∨ (Y.length : Int) ≤ a ∨ b < 0 ∨ (Y.length : Int) ≤ b) : Ev (fun k => graph_Dominates.f k Y a b) false := by
  have j0t : Ev (fun k => graph_Dominates.j0 k Y a b true) false := by
    refine Ev.step (fun k => ?_) (Ev.now _)
    rw [graph_Dominates.j0, if_pos rfl]
  by_cases h1 : a < 0
  · refine Ev.congr (fun k => ?_) j0t
    simp only [graph_Dominates.f]
    rw [if_pos h1]
  · by_cases h2 : (Y.length : Int) ≤ a
    · refine Ev.congr (fun k => ?_) j0t
      simp only [graph_Dominates.f]
      rw [if_neg h1, decide_eq_true (show a ≥ (Y.length : Int) from h2)]
    · have j2f : Ev (fun k => graph_Dominates.j2 k Y a b 0 false) false := by
        refine Ev.step (fun k => ?_) (Ev.now _)
        rw [graph_Dominates.j2, if_neg (by simp)]
      have e1 : Ev (fun k => graph_Dominates.l0 k Y a b 0) false := by
        refine Ev.step (fun k => ?_) j2f
        rw [graph_Dominates.l0]
        by_cases h3 : b ≥ 0
        · rw [if_pos h3, if_neg (by omega)]
        · rw [if_neg h3]
      have e0 : Ev (fun k => graph_Dominates.j0 k Y a b false) false := by
        refine Ev.step (fun k => ?_) e1
        rw [graph_Dominates.j0, if_neg (by simp)]
      refine Ev.congr (fun k => ?_) e0
      simp only [graph_Dominates.f]
      rw [if_neg h1, decide_eq_false (show ¬ a ≥ (Y.length : Int) by omega)]
open Classical in
theorem dominates_l0 {n : Nat} {E : Nat → Nat → Prop} {o : List Nat} (O : Ord n E o) {Y : List Int} (hn : n ≤ 40) (hY : Y.length = n) (T : True_ n E o (fn Y)) {a : Nat} (ha : a ∈ o) : ∀ (m b c : Nat), o.idxOf b ≤ m → b ∈ o → c + o.idxOf b ≤ n → Ev (fun k => graph_Dominates.l0 k Y (a : Int) (b : Int) (c : Int)) (decide (Dom E o a b)) := by
  intro m
  induction m with
  | zero =>
    intro b c hm hb hc
    have hb0 : b = 0 := by
      rcases Classical.em (b = 0) with h | h
      · exact h
      · have := rank_pos O hb h; omega
    subst hb0
    have hlt := O.lt 0 hb
    have hS := T.inv.none 0 hlt (.inl rfl)
    have hr0 : rd Y ((0 : Nat) : Int) = -1 := hS
    have tail : Ev (fun k => graph_Dominates.j2 k Y (a : Int) ((0 : Nat) : Int) (c : Int) true) (decide (Dom E o a 0)) := by
      by_cases e : a = 0
      · subst e
        rw [decide_eq_true (dom_refl ha)]
        refine Ev.step (fun k => ?_) (Ev.now _)
        rw [graph_Dominates.j2, if_pos rfl, if_pos rfl]
      · rw [decide_eq_false (fun h => e (dom_zero h))]
        have l0f : Ev (fun k => graph_Dominates.l0 k Y (a : Int) (-1) (wrap64 ((c : Int) + 1))) false := by
          have j2f : Ev (fun k => graph_Dominates.j2 k Y (a : Int) (-1) (wrap64 ((c : Int) + 1)) false) false := by
            refine Ev.step (fun k => ?_) (Ev.now _)
            rw [graph_Dominates.j2, if_neg (by simp)]
          refine Ev.step (fun k => ?_) j2f
          rw [graph_Dominates.l0, if_neg (by omega)]
        refine Ev.step (fun k => ?_) l0f
        rw [graph_Dominates.j2, if_pos rfl, if_neg (by omega), if_pos (by omega), if_pos (by omega), hr0]
    refine Ev.step (fun k => ?_) tail
    rw [graph_Dominates.l0, if_pos (by omega), if_pos (by omega), decide_eq_true (by omega)]
  | succ m ih =>
    intro b c hm hb hc
    by_cases hb0 : b = 0
    · subst hb0
      exact ih 0 c (by rw [rank_zero O]; omega) hb hc
    · have hlt := O.lt b hb
      obtain ⟨h0, hd0⟩ := T.dom b hb hb0
      obtain ⟨_, po, pr, _, pd⟩ := T.inv.pt b hlt h0
      have hr0 : rd Y (b : Int) = (((fn Y b).toNat : Nat) : Int) := by
        show fn Y b = _
        omega
      have tail : Ev (fun k => graph_Dominates.j2 k Y (a : Int) (b : Int) (c : Int) true) (decide (Dom E o a b)) := by
        by_cases e : a = b
        · subst e
          rw [decide_eq_true (dom_refl ha)]
          refine Ev.step (fun k => ?_) (Ev.now _)
          rw [graph_Dominates.j2, if_pos rfl, if_pos rfl]
        · have hiff : Dom E o a b ↔ Dom E o a (fn Y b).toNat := ⟨fun h => pd a h e, fun h => dom_trans h hd0⟩
          have := ih (fn Y b).toNat (c + 1) (by omega) po (by omega)
          rw [show decide (Dom E o a b) = decide (Dom E o a (fn Y b).toNat) by simp only [hiff]]
          refine Ev.step (fun k => ?_) this
          rw [graph_Dominates.j2, if_pos rfl, if_neg (by omega), if_pos (by omega), if_pos (by omega), hr0, w1 (by omega)]
      refine Ev.step (fun k => ?_) tail
      rw [graph_Dominates.l0, if_pos (by omega), if_pos (by omega), decide_eq_true (by omega)]
open Classical in
theorem dominates_is {n : Nat} {E : Nat → Nat → Prop} {o : List Nat} (O : Ord n E o) {Y : List Int} (hn : n ≤ 40) (hY : Y.length = n) (T : True_ n E o (fn Y)) {a b : Nat} (ha : a ∈ o) (hb : b ∈ o) : Ev (fun k => graph_Dominates.f k Y (a : Int) (b : Int)) (decide (Dom E o a b)) := by
  have hr := List.idxOf_lt_length_iff.mpr hb
  have hlt := O.lt a ha
  have hle : o.length ≤ n := by
    have : o.length ≤ (List.range n).length := (O.nodup).length_le_of_subset (fun v hv => List.mem_range.mpr (O.lt v hv))
    simpa using this
  have e1 := dominates_l0 O hn hY T ha _ b 0 (Nat.le_refl _) hb (by omega)
  have e0 : Ev (fun k => graph_Dominates.j0 k Y (a : Int) (b : Int) false) (decide (Dom E o a b)) := by
    refine Ev.step (fun k => ?_) e1
    rw [graph_Dominates.j0, if_neg (by simp)]
    rfl
  refine Ev.congr (fun k => ?_) e0
  simp only [graph_Dominates.f]
  rw [if_neg (by omega), decide_eq_false (by omega)]
open Classical

theorem rdBNat (l : List Bool) (i : Nat) : rdOf false l (i : Int) = l.getD i false := by simp [rdOf]
theorem fillB (n j : Nat) (f : Nat → Bool) (h : j < n) : ((List.range j).map f ++ List.replicate (n - j) false).set ((j : Int)).toNat (f j) = (List.range (j + 1)).map f ++ List.replicate (n - (j + 1)) false := by
  obtain ⟨m, hm⟩ : ∃ m, n - j = m + 1 := ⟨n - j - 1, by omega⟩
  rw [hm, List.replicate_succ, show n - (j + 1) = m by omega]
  have := set_at ((List.range j).map f) false (f j) (List.replicate m false)
  rw [List.length_map, List.length_range] at this
  rw [Int.toNat_natCast, this, List.range_succ]
  simp
/-- One entry of the table by ways. -/
def ent (inn t : List Bool) (a b : Nat) : Bool := if inn.getD a false = true then (if inn.getD b false = true then (if a = b then true else !(t.getD b false)) else false) else false
theorem over_l1 (N : List (List Int)) (hn : N.length ≤ 40) (inn t : List Bool) (hi : inn.length = N.length) (ht : t.length = N.length) (X5 : List (List Bool)) (hX : X5.length ≤ 40) (a : Nat) (ha : a < N.length) (r : List (List Bool))
    (hk : Ev (fun k => ratlineref10_Over.l0 k N inn (X5 ++ [(List.range N.length).map (ent inn t a)]) (wrap64 ((a : Int) + 1))) r) : ∀ (m j : Nat), j + m = N.length →
    Ev (fun k => ratlineref10_Over.l1 k N inn X5 (a : Int) t ((List.range j).map (ent inn t a) ++ List.replicate (N.length - j) false) (j : Int)) r
  | 0, j, h => by
    have : j = N.length := by omega
    subst this
    refine Ev.step (fun k => ?_) hk
    rw [ratlineref10_Over.l1, if_neg (by omega), if_pos (by omega)]
    simp
  | m + 1, j, h => by
    have hj : j < N.length := by omega
    have ih := over_l1 N hn inn t hi ht X5 hX a ha r hk m (j + 1) (by omega)
    rw [← fillB N.length j (ent inn t a) hj] at ih
    have hl : ((List.range j).map (ent inn t a) ++ List.replicate (N.length - j) false).length = N.length := by simp; omega
    refine Ev.step (fun k => ?_) ih
    rw [ratlineref10_Over.l1, if_pos (by omega), if_pos (by omega), if_pos (by omega), rdBNat, rdBNat, rdBNat, w1 (by omega)]
    by_cases c1 : inn.getD a false = true
    · rw [if_pos c1, if_pos (by omega), if_pos (by omega)]
      by_cases c2 : inn.getD j false = true
      · rw [if_pos c2]
        by_cases c3 : a = j
        · rw [if_pos (by omega), if_pos (by omega)]
          congr 2
          unfold ent
          rw [if_pos c1, if_pos c2, if_pos c3]
        · rw [if_neg (by omega), if_pos (by omega), if_pos (by omega)]
          congr 2
          unfold ent
          rw [if_pos c1, if_pos c2, if_neg c3]
      · rw [if_neg c2, if_pos (by omega)]
        congr 2
        unfold ent
        rw [if_pos c1, if_neg c2]
    · rw [if_neg c1, if_pos (by omega), if_pos (by omega)]
      congr 2
      unfold ent
      rw [if_neg c1]
theorem over_l0 {N : List (List Int)} (hN : Neat N) (inn : List Bool) (hi : inn.length = N.length) (tt : Nat → List Bool) (ht : ∀ a, (tt a).length = N.length) (hf : ∀ a : Nat, a < N.length → Ev (fun k => ratlineref10_from.f k N 0 (a : Int)) (tt a)) : ∀ (m a : Nat), a + m = N.length →
    Ev (fun k => ratlineref10_Over.l0 k N inn ((List.range a).map fun x => (List.range N.length).map (ent inn (tt x) x)) (a : Int)) ((List.range N.length).map fun x => (List.range N.length).map (ent inn (tt x) x))
  | 0, a, h => by
    have : a = N.length := by omega
    subst this
    refine Ev.step (fun k => ?_) (Ev.now _)
    rw [ratlineref10_Over.l0, if_neg (by omega)]
  | m + 1, a, h => by
    have hs := hN.few
    have ih := over_l0 hN inn hi tt ht hf m (a + 1) (by omega)
    have e1 := over_l1 N hs inn (tt a) hi (ht a) ((List.range a).map fun x => (List.range N.length).map (ent inn (tt x) x)) (by simp; omega) a (by omega) _ (by
      rw [w1 (by omega)]
      rw [List.range_succ] at ih
      simpa using ih) N.length 0 (by omega)
    have e2 := Ev.bind (f := fun k t458 => (if 0 ≤ (N.length : Int) then (if ((N.length : Int) : Int).toNat ≤ 281474976710656 then (ratlineref10_Over.l1 k N inn ((List.range a).map fun x => (List.range N.length).map (ent inn (tt x) x)) (a : Int) t458 (List.replicate ((N.length : Int) : Int).toNat false) 0) else (none)) else (none))) (hf a (by omega)) (by
      refine Ev.congr (fun k => ?_) e1
      rw [if_pos (by omega), if_pos (by omega)]
      simp)
    refine Ev.step (fun k => ?_) e2
    rw [ratlineref10_Over.l0, if_pos (by omega)]
open Classical in
/-- The table by ways. -/
noncomputable def overOf (n : Nat) (E : Nat → Nat → Prop) (o : List Nat) : List (List Bool) := (List.range n).map fun a => (List.range n).map fun b => decide (Dom E o a b)
theorem over_len {n E o} : (overOf n E o).length = n := by simp [overOf]
theorem over_row {n E o} {a : Nat} (ha : a < n) : (rd_L5 (overOf n E o) (a : Int)).length = n := by
  simp [overOf, rd_L5, List.getD_eq_getElem?_getD, ha]
open Classical in
theorem over_at {n E o} {a b : Nat} (ha : a < n) (hb : b < n) : rdOf false (rd_L5 (overOf n E o) (a : Int)) (b : Int) = decide (Dom E o a b) := by
  simp [overOf, rd_L5, rdOf, List.getD_eq_getElem?_getD, ha, hb]
theorem Over (l : List (List Int)) (hl : Small l) (h0 : 0 < l.length) {o : List Nat} (O : Ord l.length (Eg (norm l)) o) : Ev (fun k => ratlineref10_Over.f k l) (overOf l.length (Eg (norm l)) o) := by
  have hN := neat l hl
  have hNl := norm_length l
  obtain ⟨inn, hin, _, ein⟩ := come_is hN 0 (-1) (by omega)
  have each : ∀ a : Nat, ∃ t, Come (norm l) 0 (a : Int) t ∧ Ev (fun k => ratlineref10_from.f k (norm l) 0 (a : Int)) t := by
    intro a
    obtain ⟨t, h1, _, h2⟩ := come_is hN 0 (a : Int) (by omega)
    exact ⟨t, h1, h2⟩
  have e1 := over_l0 hN inn hin.1 (fun a => Classical.choose (each a)) (fun a => (Classical.choose_spec (each a)).1.1) (fun a _ => (Classical.choose_spec (each a)).2) (norm l).length 0 (by omega)
  have he : ((List.range (norm l).length).map fun x => (List.range (norm l).length).map (ent inn (Classical.choose (each x)) x)) = overOf l.length (Eg (norm l)) o := by
    unfold overOf
    rw [hNl]
    apply List.map_congr_left
    intro a ha
    apply List.map_congr_left
    intro b hb
    have ha' := List.mem_range.mp ha
    have hb' := List.mem_range.mp hb
    have hc := (Classical.choose_spec (each a)).1
    generalize Classical.choose (each a) = t at hc
    have ia := come_av hN (by omega) hin a (by omega)
    have ib := come_av hN (by omega) hin b (by omega)
    have tb := come_av hN (by omega) hc b (by omega)
    rw [rdBNat] at ia ib tb
    rw [av_iff O] at ia ib
    unfold ent
    by_cases c1 : inn.getD a false = true
    · rw [if_pos c1]
      by_cases c2 : inn.getD b false = true
      · rw [if_pos c2]
        by_cases c3 : a = b
        · subst c3
          rw [if_pos rfl]
          exact (decide_eq_true (dom_refl (ia.mp c1))).symm
        · rw [if_neg c3]
          by_cases c4 : t.getD b false = true
          · rw [c4]
            symm
            apply decide_eq_false
            rintro ⟨_, _, h | h⟩
            · exact c3 h
            · exact h (tb.mp c4)
          · rw [Bool.eq_false_iff.mpr c4]
            symm
            apply decide_eq_true
            exact ⟨ia.mp c1, ib.mp c2, .inr fun h => c4 (tb.mpr h)⟩
      · rw [if_neg c2]
        symm
        apply decide_eq_false
        rintro ⟨_, h, _⟩
        exact c2 (ib.mpr h)
    · rw [if_neg c1]
      symm
      apply decide_eq_false
      rintro ⟨h, _, _⟩
      exact c1 (ia.mpr h)
  rw [he] at e1
  exact Ev.bind (f := fun k t452 => (ratlineref10_from.f k t452 0 (-1)).bind fun t455 => ratlineref10_Over.l0 k t452 t455 ([] : List (List Bool)) 0) (refNorm l hl) (Ev.bind (f := fun k t455 => ratlineref10_Over.l0 k (norm l) t455 ([] : List (List Bool)) 0) ein e1)

/-! ### the document's Doms -/
section
variable {l : List (List Int)} {o : List Nat} {Y : List Int}
/-- The inmost loop: whether all other dominators dominate this one. -/
theorem rd_l2 (hn : l.length ≤ 40) (X : List Int) {b a : Nat} (hb : b < l.length) (ha : a < l.length) (r : List Int) (flag : Bool)
    (hk : Ev (fun k => if flag = true then ratlineref10_Doms.l1 k l (overOf l.length (Eg (norm l)) o) (X.set b (a : Int)) (b : Int) (wrap64 ((a : Int) + 1)) else ratlineref10_Doms.l1 k l (overOf l.length (Eg (norm l)) o) X (b : Int) (wrap64 ((a : Int) + 1))) r) (hX : X.length = l.length) : ∀ (m c : Nat) (x7 : Bool), c + m = l.length →
    (flag = true ↔ x7 = true ∧ ∀ d, c ≤ d → d < l.length → d ≠ b → Dom (Eg (norm l)) o d b → Dom (Eg (norm l)) o d a) →
    Ev (fun k => ratlineref10_Doms.l2 k l (overOf l.length (Eg (norm l)) o) X (b : Int) (a : Int) x7 (c : Int)) r
  | 0, c, x7, h, hf => by
    have hfl : flag = x7 := by
      have : flag = true ↔ x7 = true := by
        rw [hf]
        exact ⟨fun h => h.1, fun h2 => ⟨h2, fun d h3 h4 => by omega⟩⟩
      exact Bool.eq_iff_iff.mpr this
    subst hfl
    refine Ev.step (fun k => ?_) hk
    rw [ratlineref10_Doms.l2, if_neg (by omega)]
    cases flag with
    | true => rw [if_pos rfl, if_pos (by omega), if_pos (by omega)]; simp
    | false => rw [if_neg (by simp)]; simp
  | m + 1, c, x7, h, hf => by
    have hc : c < l.length := by omega
    have ih := fun x7' => rd_l2 hn X hb ha r flag hk hX m (c + 1) x7' (by omega)
    have hlo : (overOf l.length (Eg (norm l)) o).length = l.length := over_len
    have hrow : (rd_L5 (overOf l.length (Eg (norm l)) o) (c : Int)).length = l.length := over_row hc
    by_cases c1 : c = b
    · have := ih x7 (by
        rw [hf]
        refine and_congr Iff.rfl ⟨fun h d h1 h2 h3 h4 => h d (by omega) h2 h3 h4, fun h d h1 h2 h3 h4 => h d (by omega) h2 h3 h4⟩)
      refine Ev.step (fun k => ?_) this
      rw [ratlineref10_Doms.l2, if_pos (by omega), if_pos (by omega), w1 (by omega)]
    · have open_ : ∀ k, ratlineref10_Doms.l2 (k + 1) l (overOf l.length (Eg (norm l)) o) X (b : Int) (a : Int) x7 (c : Int) = (if rdOf false (rd_L5 (overOf l.length (Eg (norm l)) o) (c : Int)) (b : Int) = true then (if (rdOf false (rd_L5 (overOf l.length (Eg (norm l)) o) (c : Int)) (a : Int) = true) then (ratlineref10_Doms.l2 k l (overOf l.length (Eg (norm l)) o) X (b : Int) (a : Int) x7 ((c + 1 : Nat) : Int)) else (ratlineref10_Doms.l2 k l (overOf l.length (Eg (norm l)) o) X (b : Int) (a : Int) false ((c + 1 : Nat) : Int))) else (ratlineref10_Doms.l2 k l (overOf l.length (Eg (norm l)) o) X (b : Int) (a : Int) x7 ((c + 1 : Nat) : Int))) := by
        intro k
        rw [ratlineref10_Doms.l2, if_pos (by omega), if_neg (by omega), if_pos (by omega), if_pos (by omega), if_pos (by omega), if_pos (by omega), w1 (by omega)]
        by_cases hh : rdOf false (rd_L5 (overOf l.length (Eg (norm l)) o) (c : Int)) (b : Int) = true
        · rw [if_pos hh, if_pos hh, if_pos (by omega), if_pos (by omega)]
        · rw [if_neg hh, if_neg hh]
      by_cases c2 : Dom (Eg (norm l)) o c b
      · by_cases c3 : Dom (Eg (norm l)) o c a
        · have := ih x7 (by
            rw [hf]
            refine and_congr Iff.rfl ⟨fun h d h1 h2 h3 h4 => h d (by omega) h2 h3 h4, fun h d h1 h2 h3 h4 => ?_⟩
            by_cases e : d = c
            · subst e; exact c3
            · exact h d (by omega) h2 h3 h4)
          refine Ev.step (fun k => ?_) this
          rw [open_, over_at hc hb, over_at hc ha, decide_eq_true c2, decide_eq_true c3, if_pos rfl, if_pos rfl]
        · have := ih false (by
            rw [hf]
            constructor
            · rintro ⟨_, h⟩
              exact absurd (h c (Nat.le_refl _) hc c1 c2) c3
            · rintro ⟨h, _⟩
              cases h)
          refine Ev.step (fun k => ?_) this
          rw [open_, over_at hc hb, over_at hc ha, decide_eq_true c2, decide_eq_false c3, if_pos rfl, if_neg (by simp)]
      · have := ih x7 (by
          rw [hf]
          refine and_congr Iff.rfl ⟨fun h d h1 h2 h3 h4 => h d (by omega) h2 h3 h4, fun h d h1 h2 h3 h4 => ?_⟩
          by_cases e : d = c
          · subst e; exact absurd h4 c2
          · exact h d (by omega) h2 h3 h4)
        refine Ev.step (fun k => ?_) this
        rw [open_, over_at hc hb, decide_eq_false c2, if_neg (by simp)]
/-- One point's entry so far. -/
def sofar (y : Int) (j : Nat) : Int := if 0 ≤ y ∧ y < (j : Int) then y else -1
theorem rd_l1 (hn : l.length ≤ 40) (O : Ord l.length (Eg (norm l)) o) (T : True_ l.length (Eg (norm l)) o (fn Y)) (X : List Int) (hX : X.length = l.length) {b : Nat} (hb : b < l.length) (r : List Int)
    (hk : Ev (fun k => ratlineref10_Doms.l0 k l (overOf l.length (Eg (norm l)) o) (X.set b (fn Y b)) (wrap64 ((b : Int) + 1))) r) : ∀ (m a : Nat), a + m = l.length →
    Ev (fun k => ratlineref10_Doms.l1 k l (overOf l.length (Eg (norm l)) o) (X.set b (sofar (fn Y b) a)) (b : Int) (a : Int)) r
  | 0, a, h => by
    have hfin : sofar (fn Y b) a = fn Y b := by
      unfold sofar
      by_cases hs : b = 0 ∨ b ∉ o
      · rw [T.inv.none b hb hs]; simp
      · rw [not_or, Classical.not_not] at hs
        obtain ⟨h0, _⟩ := T.dom b hs.2 hs.1
        obtain ⟨_, p1, _⟩ := T.inv.pt b hb h0
        have := O.lt _ p1
        rw [if_pos (by omega)]
    rw [hfin]
    refine Ev.step (fun k => ?_) hk
    rw [ratlineref10_Doms.l1, if_neg (by omega)]
  | m + 1, a, h => by
    have ha : a < l.length := by omega
    have ih := rd_l1 hn O T X hX hb r hk m (a + 1) (by omega)
    have hlo : (overOf l.length (Eg (norm l)) o).length = l.length := over_len
    have hrow : (rd_L5 (overOf l.length (Eg (norm l)) o) (a : Int)).length = l.length := over_row ha
    -- whether this one is the one
    have skip : ¬ (fn Y b = (a : Int)) → Ev (fun k => ratlineref10_Doms.l1 k l (overOf l.length (Eg (norm l)) o) (X.set b (sofar (fn Y b) a)) (b : Int) (wrap64 ((a : Int) + 1))) r := by
      intro hne
      have : sofar (fn Y b) (a + 1) = sofar (fn Y b) a := by
        unfold sofar
        by_cases c : 0 ≤ fn Y b ∧ fn Y b < (a : Int)
        · rw [if_pos c, if_pos (by omega)]
        · rw [if_neg c, if_neg (by omega)]
      rw [this] at ih
      rw [w1 (by omega)]
      exact ih
    have jt : ¬ (fn Y b = (a : Int)) → Ev (fun k => ratlineref10_Doms.j2 k l (overOf l.length (Eg (norm l)) o) (X.set b (sofar (fn Y b) a)) (b : Int) (a : Int) true) r := by
      intro hne
      refine Ev.step (fun k => ?_) (skip hne)
      rw [ratlineref10_Doms.j2, if_pos rfl]
    by_cases c1 : a = b
    · have hne : ¬ (fn Y b = (a : Int)) := by
        intro he
        subst c1
        obtain ⟨_, _, p2, _⟩ := T.inv.pt a ha (by omega)
        rw [he] at p2
        simp at p2
      refine Ev.step (fun k => ?_) (jt hne)
      rw [ratlineref10_Doms.l1, if_pos (by omega), if_pos (by omega)]
    · by_cases c2 : Dom (Eg (norm l)) o a b
      · -- the inmost loop
        have hb0 : b ≠ 0 := by
          intro e; subst e
          exact c1 (dom_zero c2)
        obtain ⟨h0, hd0⟩ := T.dom b c2.2.1 hb0
        obtain ⟨_, p1, p2, _, pd⟩ := T.inv.pt b hb h0
        have hiff : (decide (fn Y b = (a : Int)) = true) ↔ true = true ∧ ∀ d, 0 ≤ d → d < l.length → d ≠ b → Dom (Eg (norm l)) o d b → Dom (Eg (norm l)) o d a := by
          rw [decide_eq_true_iff]
          constructor
          · intro he
            refine ⟨rfl, fun d _ _ hdb hd => ?_⟩
            have := pd d hd hdb
            rw [he] at this
            simpa using this
          · rintro ⟨_, h⟩
            have h1 := h (fn Y b).toNat (Nat.zero_le _) (O.lt _ p1) (by intro e; rw [e] at p2; omega) hd0
            have h2 := pd a c2 c1
            have := dom_anti O h1 h2
            omega
        have e2 := rd_l2 hn (X.set b (sofar (fn Y b) a)) hb ha r (decide (fn Y b = (a : Int))) (by
          by_cases he : fn Y b = (a : Int)
          · rw [decide_eq_true he]
            have : sofar (fn Y b) (a + 1) = (a : Int) := by
              unfold sofar
              rw [if_pos (by omega)]
              exact he
            rw [this] at ih
            simp only [if_true, List.set_set]
            rw [w1 (by omega)]
            exact ih
          · rw [decide_eq_false he]
            exact skip he) (by simpa using hX) l.length 0 true (by omega) hiff
        have e1 : Ev (fun k => ratlineref10_Doms.j2 k l (overOf l.length (Eg (norm l)) o) (X.set b (sofar (fn Y b) a)) (b : Int) (a : Int) false) r := by
          refine Ev.step (fun k => ?_) e2
          rw [ratlineref10_Doms.j2, if_neg (by simp)]
          rfl
        refine Ev.step (fun k => ?_) e1
        rw [ratlineref10_Doms.l1, if_pos (by omega), if_neg (by omega), if_pos (by omega), if_pos (by omega), if_pos (by omega), if_pos (by omega), over_at ha hb, decide_eq_true c2]
        rfl
      · have hne : ¬ (fn Y b = (a : Int)) := by
          intro he
          have h0 : 0 ≤ fn Y b := by omega
          obtain ⟨p0, p1, _⟩ := T.inv.pt b hb h0
          have hb0 : b ≠ 0 := by
            intro e; subst e
            have := T.inv.none 0 hb (.inl rfl)
            omega
          obtain ⟨_, hd0⟩ := T.dom b p0 hb0
          rw [he] at hd0
          exact c2 (by simpa using hd0)
        refine Ev.step (fun k => ?_) (jt hne)
        rw [ratlineref10_Doms.l1, if_pos (by omega), if_neg (by omega), if_pos (by omega), if_pos (by omega), if_pos (by omega), if_pos (by omega), over_at ha hb, decide_eq_false c2]
        rfl
theorem rd_l0 (hn : l.length ≤ 40) (O : Ord l.length (Eg (norm l)) o) (hY : Y.length = l.length) (T : True_ l.length (Eg (norm l)) o (fn Y)) : ∀ (m b : Nat), b + m = l.length → ∀ X : List Int, X.length = l.length → (∀ c, c < b → fn X c = fn Y c) →
    Ev (fun k => ratlineref10_Doms.l0 k l (overOf l.length (Eg (norm l)) o) X (b : Int)) Y
  | 0, b, h, X, hX, hc => by
    have : X = Y := by
      apply List.ext_getElem?
      intro i
      by_cases hi : i < l.length
      · have := hc i (by omega)
        simp only [fn, rd, List.getD_eq_getElem?_getD, Int.toNat_natCast] at this
        rw [List.getElem?_eq_getElem (by omega), List.getElem?_eq_getElem (by omega)] at this ⊢
        simpa using this
      · rw [List.getElem?_eq_none (by omega), List.getElem?_eq_none (by omega)]
    subst this
    refine Ev.step (fun k => ?_) (Ev.now _)
    rw [ratlineref10_Doms.l0, if_neg (by omega)]
  | m + 1, b, h, X, hX, hc => by
    have hb : b < l.length := by omega
    have ih := rd_l0 hn O hY T m (b + 1) (by omega) (X.set b (fn Y b)) (by simpa using hX) (by
      intro c hcb
      rw [fn_set (by omega)]
      simp only [upd]
      by_cases e : c = b
      · rw [if_pos e, e]
      · rw [if_neg e]
        exact hc c (by omega))
    have e1 := rd_l1 hn O T X hX hb Y (by rw [w1 (by omega)]; exact ih) l.length 0 (by omega)
    have hs : sofar (fn Y b) 0 = -1 := by
      unfold sofar
      rw [if_neg (by omega)]
    rw [hs] at e1
    refine Ev.step (fun k => ?_) e1
    rw [ratlineref10_Doms.l0, if_pos (by omega), if_pos (by omega), if_pos (by omega)]
    simp
end
theorem refDoms (l : List (List Int)) (hl : Small l) (h0 : 0 < l.length) {o : List Nat} {Y : List Int} (O : Ord l.length (Eg (norm l)) o) (hY : Y.length = l.length) (T : True_ l.length (Eg (norm l)) o (fn Y)) : Ev (fun k => ratlineref10_Doms.f k l) Y := by
  have hs := hl.1
  have e1 := rd_l0 hs O hY T l.length 0 (by omega) (List.replicate l.length 0) (by simp) (fun c h => by omega)
  refine Ev.bind (f := fun k t474 => (if 0 ≤ (l.length : Int) then (if ((l.length : Int) : Int).toNat ≤ 35184372088832 then (ratlineref10_Doms.l0 k l t474 (List.replicate ((l.length : Int) : Int).toNat 0) 0) else (none)) else (none))) (Over l hl h0 O) ?_
  refine Ev.congr (fun k => ?_) e1
  rw [if_pos (by omega), if_pos (by omega)]
  simp
end Go.Proofs.Ytjflddnmkajleaa.Norm
