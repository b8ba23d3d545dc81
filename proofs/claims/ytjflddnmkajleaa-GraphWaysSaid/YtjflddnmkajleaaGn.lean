/- Plain law: graph.clean and ratlineref10.Norm tell one and the same graph; small helpers of the laws of layer 10. -/
import Derived.Test.YtjflddnmkajleaaPGx34
namespace Go.Proofs.Ytjflddnmkajleaa.Norm
open Go.RowKit Go.Proofs.Ytjflddnmkajleaa.PG Go.Proofs.YtjflddnmkajleaaW.PrintWords Go.Proofs.YtjflddnmkajleaaW.PrintLast

theorem w1 {n : Nat} (h : n < 100000000000000) : wrap64 ((n : Int) + 1) = ((n + 1 : Nat) : Int) := by
  unfold wrap64
  omega
theorem rdAt (pre : List Int) (q : Int) (suf : List Int) : rd (pre ++ q :: suf) (pre.length : Int) = q := by
  simp [rd, List.getD]
theorem rdAtL (pre : List (List Int)) (q : List Int) (suf : List (List Int)) : rd_L1 (pre ++ q :: suf) (pre.length : Int) = q := by
  simp [rd_L1, List.getD]
theorem rdNat (l : List Int) (i : Nat) : rd l (i : Int) = l.getD i 0 := by simp [rd]
theorem rdLNat (l : List (List Int)) (i : Nat) : rd_L1 l (i : Int) = l.getD i [] := by simp [rd_L1]

/-- A row without what is no point and without doubles, behind what is there. -/
def nrow (n : Nat) : List Int → List Int → List Int
  | acc, [] => acc
  | acc, q :: l => if 0 ≤ q ∧ q < (n : Int) ∧ q ∉ acc then nrow n (acc ++ [q]) l else nrow n acc l
def norm (g : List (List Int)) : List (List Int) := g.map (nrow g.length [])

theorem nrow_len (n : Nat) : ∀ (l acc : List Int), (nrow n acc l).length ≤ acc.length + l.length
  | [], acc => by simp [nrow]
  | q :: l, acc => by
    simp only [nrow]
    split
    · have := nrow_len n l (acc ++ [q]); simp at this ⊢; omega
    · have := nrow_len n l acc; simp; omega
theorem nrow_in (n : Nat) : ∀ (l acc : List Int), (∀ q ∈ acc, 0 ≤ q ∧ q < (n : Int)) → ∀ q ∈ nrow n acc l, 0 ≤ q ∧ q < (n : Int)
  | [], acc, h => by simpa [nrow] using h
  | q :: l, acc, h => by
    simp only [nrow]
    split
    · rename_i hq
      refine nrow_in n l (acc ++ [q]) ?_
      intro x hx
      rcases List.mem_append.mp hx with hx | hx
      · exact h x hx
      · simp at hx; subst hx; exact ⟨hq.1, hq.2.1⟩
    · exact nrow_in n l acc h

/-! ### SameInts, bools, few, has -/
theorem same_l0 (m : Nat) (hm : m < 1000000) : ∀ (suf pre : List Int), pre.length + suf.length = m → Ev (fun k => ratlineref11_SameInts.l0 k (pre ++ suf) (pre ++ suf) (pre.length : Int)) true
  | [], pre, h => by
    refine Ev.step (fun k => ?_) (Ev.now true)
    rw [ratlineref11_SameInts.l0, if_neg (by simp)]
  | q :: suf, pre, h => by
    refine Ev.step (fun k => ?_) (same_l0 m hm suf (pre ++ [q]) (by simp at h ⊢; omega))
    simp only [List.length_cons] at h
    have h1 : ((pre.length : Nat) : Int) < ((pre ++ q :: suf).length : Int) := by simp; omega
    rw [ratlineref11_SameInts.l0, if_pos h1, if_pos (by omega), if_pos h1, if_pos rfl, w1 (by omega)]
    simp
theorem same (l : List Int) (h : l.length < 1000000) : Ev (fun k => ratlineref11_SameInts.f k l l) true := by
  refine Ev.congr (fun k => ?_) (same_l0 l.length h l [] (by simp))
  simp [ratlineref11_SameInts.f]
theorem bools_l0 (m : Nat) (hm : m < 1000000) : ∀ (suf pre : List Bool), pre.length + suf.length = m → Ev (fun k => ratlinelaw10_bools.l0 k (pre ++ suf) (pre ++ suf) (pre.length : Int)) true
  | [], pre, h => by
    refine Ev.step (fun k => ?_) (Ev.now true)
    rw [ratlinelaw10_bools.l0, if_neg (by simp)]
  | q :: suf, pre, h => by
    refine Ev.step (fun k => ?_) (bools_l0 m hm suf (pre ++ [q]) (by simp at h ⊢; omega))
    simp only [List.length_cons] at h
    have h1 : ((pre.length : Nat) : Int) < ((pre ++ q :: suf).length : Int) := by simp; omega
    rw [ratlinelaw10_bools.l0, if_pos h1, if_pos (by omega), if_pos h1, if_neg (by simp), w1 (by omega)]
    simp
theorem bools (l : List Bool) (h : l.length < 1000000) : Ev (fun k => ratlinelaw10_bools.f k l l) true := by
  refine Ev.congr (fun k => ?_) (bools_l0 l.length h l [] (by simp))
  simp [ratlinelaw10_bools.f]
theorem has_l0 (x : Int) : ∀ (suf pre : List Int), pre.length + suf.length < 1000000 → x ∉ pre → Ev (fun k => ratlineref10_has.l0 k (pre ++ suf) x (pre.length : Int)) (decide (x ∈ pre ++ suf))
  | [], pre, h, hx => by
    refine Ev.step (fun k => ?_) (Ev.now _)
    rw [ratlineref10_has.l0, if_neg (by simp)]
    simp [hx]
  | q :: suf, pre, h, hx => by
    simp only [List.length_cons] at h
    have h1 : ((pre.length : Nat) : Int) < ((pre ++ q :: suf).length : Int) := by simp; omega
    by_cases hq : q = x
    · refine Ev.step (fun k => ?_) (Ev.now _)
      rw [ratlineref10_has.l0, if_pos h1, if_pos (by omega), if_pos (by rw [rdAt]; exact hq)]
      simp [hq]
    · have := has_l0 x suf (pre ++ [q]) (by simp; omega) (by simp [hx]; exact fun h => hq h.symm)
      rw [show decide (x ∈ pre ++ q :: suf) = decide (x ∈ (pre ++ [q]) ++ suf) by simp]
      refine Ev.step (fun k => ?_) this
      rw [ratlineref10_has.l0, if_pos h1, if_pos (by omega), if_neg (by rw [rdAt]; exact hq), w1 (by omega)]
      simp
theorem has (l : List Int) (x : Int) (h : l.length < 1000000) : Ev (fun k => ratlineref10_has.f k l x) (decide (x ∈ l)) :=
  has_l0 x l [] (by simpa using h) (by simp)
/-- Small: as the law's own test has it. -/
def Small (g : List (List Int)) : Prop := g.length ≤ 40 ∧ ∀ l ∈ g, l.length ≤ 60
theorem few_l0 : ∀ (suf pre : List (List Int)), pre.length + suf.length ≤ 40 → Ev (fun k => ratlinelaw10_few.l0 k (pre ++ suf) (pre.length : Int)) (decide (∀ l ∈ suf, l.length ≤ 60))
  | [], pre, h => by
    refine Ev.step (fun k => ?_) (Ev.now _)
    rw [ratlinelaw10_few.l0, if_neg (by simp)]
    simp
  | q :: suf, pre, h => by
    simp only [List.length_cons] at h
    have h1 : ((pre.length : Nat) : Int) < ((pre ++ q :: suf).length : Int) := by simp; omega
    by_cases hq : q.length ≤ 60
    · have := few_l0 suf (pre ++ [q]) (by simp; omega)
      rw [show decide (∀ l ∈ q :: suf, l.length ≤ 60) = decide (∀ l ∈ suf, l.length ≤ 60) by simp [hq]]
      refine Ev.step (fun k => ?_) this
      rw [ratlinelaw10_few.l0, if_pos h1, if_pos (by omega), if_neg (by rw [rdAtL]; omega), w1 (by omega)]
      simp
    · refine Ev.step (fun k => ?_) (Ev.now _)
      rw [ratlinelaw10_few.l0, if_pos h1, if_pos (by omega), if_pos (by rw [rdAtL]; omega)]
      simp [hq]
theorem few (g : List (List Int)) : (Small g ∧ Ev (fun k => ratlinelaw10_few.f k g) true) ∨ Ev (fun k => ratlinelaw10_few.f k g) false := by
  by_cases h : g.length ≤ 40
  · have e := few_l0 g [] (by simpa using h)
    have e2 : Ev (fun k => ratlinelaw10_few.f k g) (decide (∀ l ∈ g, l.length ≤ 60)) := by
      refine Ev.congr (fun k => ?_) e
      simp only [ratlinelaw10_few.f]
      rw [if_neg (by omega)]
      rfl
    by_cases hs : ∀ l ∈ g, l.length ≤ 60
    · left; rw [decide_eq_true hs] at e2; exact ⟨⟨h, hs⟩, e2⟩
    · right; rw [decide_eq_false hs] at e2; exact e2
  · right
    refine Ev.congr (fun k => ?_) (Ev.now false)
    simp only [ratlinelaw10_few.f]
    rw [if_pos (by omega)]

/-! ### clean and Norm -/
theorem set_at {α : Type} (a : List α) (x v : α) (b : List α) : (a ++ x :: b).set a.length v = a ++ v :: b := by
  simp
theorem clean_l1 (n : Nat) (hn : n ≤ 40) (x0 x15 : List (List Int)) (x16 : Int) (h0 : x0.length = n) (dn : List (List Int)) (rest : List (List Int)) (hd : (dn.length + 1 + rest.length) = n) (r : List (List Int)) (x17 : Int) :
    ∀ (suf pre acc last : List Int), pre.length + suf.length ≤ 60 → acc.length ≤ pre.length → last.length = n →
      (∀ q : Int, 0 ≤ q → q < (n : Int) → (rd last q = ((dn.length + 1 : Nat) : Int) ↔ q ∈ acc)) → (∀ q : Int, 0 ≤ q → q < (n : Int) → rd last q ≤ ((dn.length + 1 : Nat) : Int)) →
      (∀ last' : List Int, last'.length = n → (∀ q : Int, 0 ≤ q → q < (n : Int) → rd last' q ≤ ((dn.length + 1 : Nat) : Int)) → Ev (fun k => graph_clean.l0 k x0 (dn ++ nrow n acc suf :: rest) last' x15 x16 (wrap64 (x17 + 1))) r) →
      Ev (fun k => graph_clean.l1 k x0 (dn ++ acc :: rest) last (dn.length : Int) x15 x16 x17 (pre ++ suf) ((pre ++ suf).length : Int) (pre.length : Int)) r
  | [], pre, acc, last, hl, ha, hll, hla, hlb, hk => by
    refine Ev.step (fun k => ?_) (hk last hll hlb)
    rw [graph_clean.l1, if_neg (by simp)]
    rfl
  | q :: suf, pre, acc, last, hl, ha, hll, hla, hlb, hk => by
    simp only [List.length_cons] at hl
    have h1 : ((pre.length : Nat) : Int) < ((pre ++ q :: suf).length : Int) := by simp; omega
    have ih := fun acc' last' => clean_l1 n hn x0 x15 x16 h0 dn rest hd r x17 suf (pre ++ [q]) acc' last' (by simp; omega)
    have skip : ¬ (0 ≤ q ∧ q < (n : Int) ∧ q ∉ acc) → Ev (fun k => graph_clean.l1 k x0 (dn ++ acc :: rest) last (dn.length : Int) x15 x16 x17 (pre ++ q :: suf) ((pre ++ q :: suf).length : Int) (wrap64 ((pre.length : Int) + 1))) r := by
      intro hno
      have hk' := hk
      simp only [nrow] at hk'
      simp only [if_neg hno] at hk'
      have := ih acc last (by simp; omega) hll hla hlb hk'
      rw [w1 (by omega)]
      simpa using this
    by_cases c1 : rd (pre ++ q :: suf) (pre.length : Int) ≥ 0
    · have c1' := c1
      rw [rdAt] at c1'
      by_cases c2 : rd (pre ++ q :: suf) (pre.length : Int) < (x0.length : Int)
      · have c2' := c2
        rw [rdAt] at c2'
        have cl : rd (pre ++ q :: suf) (pre.length : Int) < (last.length : Int) := by rw [rdAt]; omega
        by_cases c3 : rd last q = ((dn.length + 1 : Nat) : Int)
        · refine Ev.step (fun k => ?_) (skip ?_)
          · rw [graph_clean.l1, if_pos h1, if_pos (by omega), if_pos h1, if_pos c1, if_pos c2, if_pos c1, if_pos cl, if_pos (by rw [rdAt, c3, w1 (by omega)])]
          · have := (hla q c1' (by omega)).mp c3
            intro hh; exact hh.2.2 this
        · have hq : 0 ≤ q ∧ q < (n : Int) ∧ q ∉ acc := ⟨c1', by omega, fun hm => c3 ((hla q c1' (by omega)).mpr hm)⟩
          have hk' := hk
          simp only [nrow] at hk'
          simp only [if_pos hq] at hk'
          have hset : ∀ p : Int, 0 ≤ p → p < (n : Int) → rd (last.set q.toNat ((dn.length + 1 : Nat) : Int)) p = if p = q then ((dn.length + 1 : Nat) : Int) else rd last p := by
            intro p hp hpn
            simp only [rd, List.getD_eq_getElem?_getD, List.getElem?_set]
            by_cases hpq : p = q
            · subst hpq
              have : p.toNat < last.length := by omega
              simp [this]
            · have : ¬ q.toNat = p.toNat := by omega
              simp [hpq, this]
          have := ih (acc ++ [q]) (last.set q.toNat ((dn.length + 1 : Nat) : Int)) (by simp; omega) (by simpa using hll) (by
            intro p hp hpn
            rw [hset p hp hpn]
            by_cases hpq : p = q
            · simp [hpq]
            · simp only [hpq, if_false, List.mem_append, List.mem_singleton, or_false]
              exact hla p hp hpn) (by
            intro p hp hpn
            rw [hset p hp hpn]
            split
            · exact Int.le_refl _
            · exact hlb p hp hpn) hk'
          refine Ev.step (fun k => ?_) this
          rw [graph_clean.l1, if_pos h1, if_pos (by omega), if_pos h1, if_pos c1, if_pos c2, if_pos c1, if_pos cl, if_neg (by rw [rdAt, w1 (by omega)]; exact c3), if_pos (by omega), if_pos (by simp; omega), if_pos (by rw [rdAtL]; omega)]
          rw [rdAtL, rdAt, w1 (by omega), w1 (by omega)]
          simp
      · refine Ev.step (fun k => ?_) (skip ?_)
        · rw [graph_clean.l1, if_pos h1, if_pos (by omega), if_pos h1, if_pos c1, if_neg c2]
        · rw [rdAt] at c2
          omega
    · refine Ev.step (fun k => ?_) (skip ?_)
      · rw [graph_clean.l1, if_pos h1, if_pos (by omega), if_pos h1, if_neg c1]
      · rw [rdAt] at c1
        omega

theorem nrow_nil (n : Nat) (acc : List Int) : nrow n acc [] = acc := rfl
theorem clean_l0 (g : List (List Int)) (hg : Small g) : ∀ (suf pre : List (List Int)) (last : List Int), g = pre ++ suf → last.length = g.length →
      (∀ q : Int, 0 ≤ q → q < (g.length : Int) → rd last q ≤ (pre.length : Int)) →
      Ev (fun k => graph_clean.l0 k g (pre.map (nrow g.length []) ++ List.replicate suf.length []) last g (g.length : Int) (pre.length : Int)) (norm g)
  | [], pre, last, he, hll, hlb => by
    refine Ev.step (fun k => ?_) (Ev.now _)
    simp only [List.append_nil] at he
    subst he
    rw [graph_clean.l0, if_neg (by omega)]
    simp [norm]
  | l :: suf, pre, last, he, hll, hlb => by
    have hlen : g.length = pre.length + 1 + suf.length := by rw [he]; simp; omega
    have hs := hg.1
    have hl : l.length ≤ 60 := hg.2 l (by rw [he]; simp)
    have key := clean_l1 g.length hg.1 g g (g.length : Int) rfl (pre.map (nrow g.length [])) (List.replicate suf.length []) (by simp; omega) (norm g) (pre.length : Int) l [] [] last (by simpa using hl) (by simp) hll
      (by
        intro q h0 h1
        have := hlb q h0 h1
        simp only [List.length_map, List.not_mem_nil, iff_false]
        omega)
      (by
        intro q h0 h1
        have := hlb q h0 h1
        simp only [List.length_map]
        omega)
      (by
        intro last' hl' hb'
        have := clean_l0 g hg suf (pre ++ [l]) last' (by rw [he]; simp) hl' (by
          intro q h0 h1
          have := hb' q h0 h1
          simpa using this)
        rw [w1 (by omega)]
        simpa using this)
    refine Ev.step (fun k => ?_) key
    have hx : ((pre.length : Nat) : Int) < (g.length : Int) := by omega
    rw [graph_clean.l0, if_pos hx, if_pos (by omega), if_pos hx]
    have hrow : rd_L1 g (pre.length : Int) = l := by rw [he, rdAtL]
    rw [hrow]
    simp [List.replicate_succ]
theorem clean (g : List (List Int)) (hg : Small g) : Ev (fun k => graph_clean.f k g) (norm g) := by
  have := clean_l0 g hg g [] (List.replicate g.length 0) rfl (by simp) (by
    intro q h0 h1
    simp [rd, List.getD_eq_getElem?_getD, List.getElem?_replicate]
    split <;> simp)
  refine Ev.congr (fun k => ?_) this
  have hs := hg.1
  simp only [graph_clean.f]
  rw [if_pos (by omega), if_pos (by omega), if_pos (by omega)]
  simp

theorem norm_l1 (n : Nat) (hn : n ≤ 40) (x0 : List (List Int)) (h0 : x0.length = n) (row : List Int) (dn : List (List Int)) (rest : List (List Int)) (hd : (dn.length + 1 + rest.length) = n) (hrow : rd_L1 x0 (dn.length : Int) = row) (hrl : row.length ≤ 60) (r : List (List Int)) :
    ∀ (suf pre acc : List Int), row = pre ++ suf → acc.length ≤ pre.length →
      (Ev (fun k => ratlineref10_Norm.l0 k x0 (dn ++ nrow n acc suf :: rest) (wrap64 ((dn.length : Int) + 1))) r) →
      Ev (fun k => ratlineref10_Norm.l1 k x0 (dn ++ acc :: rest) (dn.length : Int) (pre.length : Int)) r
  | [], pre, acc, he, ha, hk => by
    refine Ev.step (fun k => ?_) hk
    rw [ratlineref10_Norm.l1, if_pos (by omega), if_pos (by omega), if_neg (by rw [hrow, he]; simp)]
    rfl
  | q :: suf, pre, acc, he, ha, hk => by
    have hlen : row.length = pre.length + 1 + suf.length := by rw [he]; simp; omega
    have h1 : ((pre.length : Nat) : Int) < ((rd_L1 x0 (dn.length : Int)).length : Int) := by rw [hrow]; omega
    have hq : rd (rd_L1 x0 (dn.length : Int)) (pre.length : Int) = q := by rw [hrow, he, rdAt]
    have ih := fun acc' h => norm_l1 n hn x0 h0 row dn rest hd hrow hrl r suf (pre ++ [q]) acc' (by simp [he]) h
    have skip : ¬ (0 ≤ q ∧ q < (n : Int) ∧ q ∉ acc) → Ev (fun k => ratlineref10_Norm.l1 k x0 (dn ++ acc :: rest) (dn.length : Int) (wrap64 ((pre.length : Int) + 1))) r := by
      intro hno
      have hk' := hk
      simp only [nrow] at hk'
      simp only [if_neg hno] at hk'
      have := ih acc (by simp; omega) hk'
      rw [w1 (by omega)]
      simpa using this
    by_cases c1 : q < 0
    · refine Ev.step (fun k => ?_) (skip (by omega))
      rw [ratlineref10_Norm.l1, if_pos (by omega), if_pos (by omega), if_pos h1, if_pos (by omega), if_pos (by rw [hq]; exact c1)]
    · by_cases c2 : q ≥ (n : Int)
      · refine Ev.step (fun k => ?_) (skip (by omega))
        rw [ratlineref10_Norm.l1, if_pos (by omega), if_pos (by omega), if_pos h1, if_pos (by omega), if_neg (by rw [hq]; exact c1), if_pos (by rw [hq]; omega)]
      · have hh := PG.ratlineref10_has.mono
        have hhas := has acc q (by omega)
        by_cases c3 : q ∈ acc
        · rw [decide_eq_true c3] at hhas
          have := Ev.bind (f := fun k t => if t = true then (ratlineref10_Norm.l1 k x0 (dn ++ acc :: rest) (dn.length : Int) (wrap64 ((pre.length : Int) + 1))) else (if acc.length < 17592186044416 then (ratlineref10_Norm.l1 k x0 ((dn ++ acc :: rest).set ((dn.length : Int)).toNat (acc ++ [q])) (dn.length : Int) (wrap64 ((pre.length : Int) + 1))) else none)) hhas (by simpa using skip (fun h => h.2.2 c3))
          refine Ev.step (fun k => ?_) this
          rw [ratlineref10_Norm.l1, if_pos (by omega), if_pos (by omega), if_pos h1, if_pos (by omega), if_neg (by rw [hq]; exact c1), if_neg (by rw [hq]; omega), if_pos (by simp; omega), hq, rdAtL]
        · rw [decide_eq_false c3] at hhas
          have hyes : 0 ≤ q ∧ q < (n : Int) ∧ q ∉ acc := ⟨by omega, by omega, c3⟩
          have hk' := hk
          simp only [nrow] at hk'
          simp only [if_pos hyes] at hk'
          have go := ih (acc ++ [q]) (by simp; omega) hk'
          have := Ev.bind (f := fun k t => if t = true then (ratlineref10_Norm.l1 k x0 (dn ++ acc :: rest) (dn.length : Int) (wrap64 ((pre.length : Int) + 1))) else (if acc.length < 17592186044416 then (ratlineref10_Norm.l1 k x0 ((dn ++ acc :: rest).set ((dn.length : Int)).toNat (acc ++ [q])) (dn.length : Int) (wrap64 ((pre.length : Int) + 1))) else none)) hhas (by
            rw [w1 (by omega)]
            have ha2 : acc.length < 17592186044416 := by omega
            simpa [ha2] using go)
          refine Ev.step (fun k => ?_) this
          rw [ratlineref10_Norm.l1, if_pos (by omega), if_pos (by omega), if_pos h1, if_pos (by omega), if_neg (by rw [hq]; exact c1), if_neg (by rw [hq]; omega), if_pos (by simp; omega), hq, rdAtL]
theorem norm_l0 (g : List (List Int)) (hg : Small g) : ∀ (suf pre : List (List Int)), g = pre ++ suf →
      Ev (fun k => ratlineref10_Norm.l0 k g (pre.map (nrow g.length []) ++ List.replicate suf.length []) (pre.length : Int)) (norm g)
  | [], pre, he => by
    refine Ev.step (fun k => ?_) (Ev.now _)
    simp only [List.append_nil] at he
    subst he
    rw [ratlineref10_Norm.l0, if_neg (by omega)]
    simp [norm]
  | l :: suf, pre, he => by
    have hlen : g.length = pre.length + 1 + suf.length := by rw [he]; simp; omega
    have hs := hg.1
    have hl : l.length ≤ 60 := hg.2 l (by rw [he]; simp)
    have hrow : rd_L1 g (pre.length : Int) = l := by rw [he, rdAtL]
    have key := norm_l1 g.length hg.1 g rfl l (pre.map (nrow g.length [])) (List.replicate suf.length []) (by simp; omega) (by simpa using hrow) hl (norm g) l [] [] rfl (by simp)
      (by
        have := norm_l0 g hg suf (pre ++ [l]) (by rw [he]; simp)
        simp only [List.length_map]
        rw [w1 (by omega)]
        simpa using this)
    refine Ev.step (fun k => ?_) key
    have hx : ((pre.length : Nat) : Int) < (g.length : Int) := by omega
    rw [ratlineref10_Norm.l0, if_pos hx]
    simp [List.replicate_succ]
theorem refNorm (g : List (List Int)) (hg : Small g) : Ev (fun k => ratlineref10_Norm.f k g) (norm g) := by
  have := norm_l0 g hg g [] rfl
  refine Ev.congr (fun k => ?_) this
  have hs := hg.1
  simp only [ratlineref10_Norm.f]
  rw [if_pos (by omega), if_pos (by omega)]
  simp

/-- What a graph without strange points is. -/
structure Neat (g : List (List Int)) : Prop where
  few : g.length ≤ 40
  short : ∀ l ∈ g, l.length ≤ 60
  pts : ∀ l ∈ g, ∀ q ∈ l, 0 ≤ q ∧ q < (g.length : Int)
theorem norm_length (g : List (List Int)) : (norm g).length = g.length := by simp [norm]
theorem neat (g : List (List Int)) (hg : Small g) : Neat (norm g) := by
  refine ⟨by rw [norm_length]; exact hg.1, ?_, ?_⟩
  · intro l hl
    simp only [norm, List.mem_map] at hl
    obtain ⟨l', h', rfl⟩ := hl
    have := nrow_len g.length l' []
    have := hg.2 l' h'
    simp at *
    omega
  · intro l hl q hq
    rw [norm_length]
    simp only [norm, List.mem_map] at hl
    obtain ⟨l', h', rfl⟩ := hl
    exact nrow_in g.length l' [] (by simp) q hq

def pin (i : Int) : List (List Int) → List Int → List (List Int)
  | o, [] => o
  | o, q :: l => pin i (o.set q.toNat (o.getD q.toNat [] ++ [i])) l
def pall : Nat → List (List Int) → List (List Int) → List (List Int)
  | _, o, [] => o
  | i, o, l :: g => pall (i + 1) (pin (i : Int) o l) g
theorem pin_len (i : Int) : ∀ (l : List Int) (o : List (List Int)), (pin i o l).length = o.length
  | [], o => rfl
  | q :: l, o => by simp [pin, pin_len i l]
theorem push_lb {c : Nat} {o : List (List Int)} (h : ∀ l ∈ o, l.length ≤ c) (q : Nat) (i : Int) : ∀ l ∈ o.set q (o.getD q [] ++ [i]), l.length ≤ c + 1 := by
  intro l hl
  rcases List.mem_or_eq_of_mem_set hl with hl | hl
  · have := h l hl; omega
  · subst hl
    rw [List.length_append, List.getD_eq_getElem?_getD]
    cases ho : o[q]? with
    | none => simp
    | some x => 
      have := h x (List.mem_of_getElem? ho)
      simp; omega
theorem pin_lb (i : Int) : ∀ (l : List Int) (o : List (List Int)) (c : Nat), (∀ r ∈ o, r.length ≤ c) → ∀ r ∈ pin i o l, r.length ≤ c + l.length
  | [], o, c, h => by simpa [pin] using h
  | q :: l, o, c, h => by
    intro r hr
    simp only [pin] at hr
    have := pin_lb i l _ (c + 1) (push_lb h q.toNat i) r hr
    simp; omega

theorem preds_l1 (g0 : List (List Int)) (n : Nat) (x12 x13 : Int) (i : Nat) (r : List (List Int)) : ∀ (suf pre : List Int) (o : List (List Int)) (c : Nat), pre.length + suf.length ≤ 60 → c + suf.length ≤ 100000 → o.length = n → (∀ q ∈ suf, 0 ≤ q ∧ q < (n : Int)) → (∀ l ∈ o, l.length ≤ c) →
    Ev (fun k => graph_preds.l0 k (pin (i : Int) o suf) g0 x12 (wrap64 (x13 + 1))) r →
    Ev (fun k => graph_preds.l1 k o (i : Int) g0 x12 x13 (pre ++ suf) ((pre ++ suf).length : Int) (pre.length : Int)) r
  | [], pre, o, c, hl, hc, ho, hq, hb, hk => by
    refine Ev.step (fun k => ?_) hk
    rw [graph_preds.l1, if_neg (by simp)]
    rfl
  | q :: suf, pre, o, c, hl, hc, ho, hq, hb, hk => by
    simp only [List.length_cons] at hl hc
    have h1 : ((pre.length : Nat) : Int) < ((pre ++ q :: suf).length : Int) := by simp; omega
    obtain ⟨q0, q1⟩ := hq q (by simp)
    have hd : rd_L1 o q = o.getD q.toNat [] := rfl
    have hlen : (rd_L1 o q).length ≤ c := by
      rw [hd, List.getD_eq_getElem?_getD]
      cases hx : o[q.toNat]? with
      | none => simp
      | some x => exact hb x (List.mem_of_getElem? hx)
    have ih := preds_l1 g0 n x12 x13 i r suf (pre ++ [q]) (o.set q.toNat (o.getD q.toNat [] ++ [(i : Int)])) (c + 1) (by simp; omega) (by omega) (by simpa using ho) (fun x hx => hq x (by simp [hx])) (push_lb hb _ _) hk
    refine Ev.step (fun k => ?_) ih
    rw [graph_preds.l1, if_pos h1, if_pos (by omega), if_pos h1, if_pos (by rw [rdAt]; exact q0), if_pos (by rw [rdAt]; omega), if_pos (by rw [rdAt]; omega), rdAt, w1 (by omega), hd]
    simp
theorem preds_l0 (g : List (List Int)) (hg : Neat g) : ∀ (suf pre : List (List Int)) (o : List (List Int)), g = pre ++ suf → o.length = g.length → (∀ l ∈ o, l.length ≤ pre.length * 60) →
    Ev (fun k => graph_preds.l0 k o g (g.length : Int) (pre.length : Int)) (pall pre.length o suf)
  | [], pre, o, he, ho, hb => by
    refine Ev.step (fun k => ?_) (Ev.now _)
    rw [graph_preds.l0, if_neg (by rw [he]; simp)]
    rfl
  | l :: suf, pre, o, he, ho, hb => by
    have hlen : g.length = pre.length + 1 + suf.length := by rw [he]; simp; omega
    have hs := hg.few
    have hlm : l ∈ g := by rw [he]; simp
    have hll := hg.short l hlm
    have hrow : rd_L1 g (pre.length : Int) = l := by rw [he, rdAtL]
    have ih := preds_l0 g hg suf (pre ++ [l]) (pin (pre.length : Int) o l) (by simp [he]) (by rw [pin_len]; exact ho) (by
      intro r hr
      have := pin_lb _ l o _ hb r hr
      simp; omega)
    have key := preds_l1 g g.length (g.length : Int) (pre.length : Int) pre.length (pall (pre.length + 1) (pin (pre.length : Int) o l) suf) l [] o (pre.length * 60) (by simpa using hll) (by omega) ho (fun q hq => hg.pts l hlm q hq) hb (by rw [w1 (by omega)]; simpa using ih)
    refine Ev.step (fun k => ?_) key
    have hx : ((pre.length : Nat) : Int) < (g.length : Int) := by omega
    rw [graph_preds.l0, if_pos hx, if_pos (by omega), if_pos hx, hrow]
    rfl
theorem preds (g : List (List Int)) (hg : Neat g) : Ev (fun k => graph_preds.f k g) (pall 0 (List.replicate g.length []) g) := by
  have := preds_l0 g hg g [] (List.replicate g.length []) rfl (by simp) (by
    intro l hl
    rw [List.eq_of_mem_replicate hl]
    simp)
  refine Ev.congr (fun k => ?_) this
  have hs := hg.few
  simp only [graph_preds.f]
  rw [if_pos (by omega), if_pos (by omega)]
  simp

theorem refpreds_l1 (g : List (List Int)) (row : List Int) (n : Nat) (i : Nat) (hi : i < g.length) (hg40 : g.length ≤ 40) (hrow : rd_L1 g (i : Int) = row) (hrl : row.length ≤ 60) (r : List (List Int)) : ∀ (suf pre : List Int) (o : List (List Int)) (c : Nat), row = pre ++ suf → c + suf.length ≤ 100000 → o.length = n → (∀ q ∈ suf, 0 ≤ q ∧ q < (n : Int)) → (∀ l ∈ o, l.length ≤ c) →
    Ev (fun k => ratlineref10_Preds.l0 k g (pin (i : Int) o suf) (wrap64 ((i : Int) + 1))) r →
    Ev (fun k => ratlineref10_Preds.l1 k g o (i : Int) (pre.length : Int)) r
  | [], pre, o, c, hl, hc, ho, hq, hb, hk => by
    refine Ev.step (fun k => ?_) hk
    rw [ratlineref10_Preds.l1, if_pos (by omega), if_pos (by omega), if_neg (by rw [hrow, hl]; simp)]
    rfl
  | q :: suf, pre, o, c, hl, hc, ho, hq, hb, hk => by
    simp only [List.length_cons] at hc
    have hlen : row.length = pre.length + 1 + suf.length := by rw [hl]; simp; omega
    have h1 : ((pre.length : Nat) : Int) < ((rd_L1 g (i : Int)).length : Int) := by rw [hrow]; omega
    have hqq : rd (rd_L1 g (i : Int)) (pre.length : Int) = q := by rw [hrow, hl, rdAt]
    obtain ⟨q0, q1⟩ := hq q (by simp)
    have hd : rd_L1 o q = o.getD q.toNat [] := rfl
    have hlen : (rd_L1 o q).length ≤ c := by
      rw [hd, List.getD_eq_getElem?_getD]
      cases hx : o[q.toNat]? with
      | none => simp
      | some x => exact hb x (List.mem_of_getElem? hx)
    have ih := refpreds_l1 g row n i hi hg40 hrow hrl r suf (pre ++ [q]) (o.set q.toNat (o.getD q.toNat [] ++ [(i : Int)])) (c + 1) (by simp [hl]) (by omega) (by simpa using ho) (fun x hx => hq x (by simp [hx])) (push_lb hb _ _) hk
    refine Ev.step (fun k => ?_) ih
    rw [ratlineref10_Preds.l1, if_pos (by omega), if_pos (by omega), if_pos h1, if_pos (by omega), if_pos (by rw [hqq]; exact q0), if_pos (by rw [hqq]; omega), if_pos (by rw [hqq]; omega), hqq, w1 (by omega), hd]
    simp
theorem refpreds_l0 (g : List (List Int)) (hg : Neat g) : ∀ (suf pre : List (List Int)) (o : List (List Int)), g = pre ++ suf → o.length = g.length → (∀ l ∈ o, l.length ≤ pre.length * 60) →
    Ev (fun k => ratlineref10_Preds.l0 k g o (pre.length : Int)) (pall pre.length o suf)
  | [], pre, o, he, ho, hb => by
    refine Ev.step (fun k => ?_) (Ev.now _)
    rw [ratlineref10_Preds.l0, if_neg (by rw [he]; simp)]
    rfl
  | l :: suf, pre, o, he, ho, hb => by
    have hlen : g.length = pre.length + 1 + suf.length := by rw [he]; simp; omega
    have hs := hg.few
    have hlm : l ∈ g := by rw [he]; simp
    have hll := hg.short l hlm
    have hrow : rd_L1 g (pre.length : Int) = l := by rw [he, rdAtL]
    have ih := refpreds_l0 g hg suf (pre ++ [l]) (pin (pre.length : Int) o l) (by simp [he]) (by rw [pin_len]; exact ho) (by
      intro r hr
      have := pin_lb _ l o _ hb r hr
      simp; omega)
    have key := refpreds_l1 g l g.length pre.length (by omega) hs hrow hll (pall (pre.length + 1) (pin (pre.length : Int) o l) suf) l [] o (pre.length * 60) rfl (by omega) ho (fun q hq => hg.pts l hlm q hq) hb (by rw [w1 (by omega)]; simpa using ih)
    refine Ev.step (fun k => ?_) key
    have hx : ((pre.length : Nat) : Int) < (g.length : Int) := by omega
    rw [ratlineref10_Preds.l0, if_pos hx]
    rfl
/-- What both tell of the points that lead to each. -/
def predsOf (g : List (List Int)) : List (List Int) := pall 0 (List.replicate g.length []) (norm g)
theorem pall_len : ∀ (g : List (List Int)) (i : Nat) (o : List (List Int)), (pall i o g).length = o.length
  | [], i, o => rfl
  | l :: g, i, o => by simp [pall, pall_len g, pin_len]
theorem pall_lb : ∀ (g : List (List Int)) (i c : Nat) (o : List (List Int)), (∀ l ∈ g, l.length ≤ 60) → (∀ l ∈ o, l.length ≤ c) → ∀ l ∈ pall i o g, l.length ≤ c + g.length * 60
  | [], i, c, o, hg, ho => by simpa [pall] using ho
  | l :: g, i, c, o, hg, ho => by
    intro r hr
    simp only [pall] at hr
    have h1 := pin_lb (i : Int) l o c ho
    have h2 := pall_lb g (i + 1) (c + l.length) _ (fun x hx => hg x (by simp [hx])) h1 r hr
    have := hg l (by simp)
    simp; omega
theorem Preds (g : List (List Int)) (hg : Small g) : Ev (fun k => graph_Preds.f k g) (predsOf g) := by
  have h2 := preds (norm g) (neat g hg)
  rw [norm_length] at h2
  exact Ev.bind (f := fun k t => (graph_preds.f k t).bind fun u => some u) (clean g hg) (Ev.bind (f := fun _ u => some u) h2 (Ev.now _))
theorem refPreds (g : List (List Int)) (hg : Small g) : Ev (fun k => ratlineref10_Preds.f k g) (predsOf g) := by
  have hn := neat g hg
  refine Ev.bind (f := fun k t => ratlineref10_Preds.g k g t) (refNorm g hg) ?_
  have h2 := refpreds_l0 (norm g) hn (norm g) [] (List.replicate (norm g).length []) rfl (by simp) (by
    intro l hl
    rw [List.eq_of_mem_replicate hl]
    simp)
  rw [norm_length] at h2
  refine Ev.congr (fun k => ?_) h2
  have hs := hg.1
  simp only [ratlineref10_Preds.g]
  rw [if_pos (by omega), if_pos (by omega)]
  simp

/-- One point's list gone through: what is new is marked and put behind. -/
def scan (b : Int) : List Bool → List Int → List Int → List Bool × List Int
  | s, t, [] => (s, t)
  | s, t, q :: l => if rdOf false s q = true ∨ q = b then scan b s t l else scan b (s.set q.toNat true) (t ++ [q]) l
/-- The rounds of a search, last in first out. -/
inductive Run (g : List (List Int)) (b : Int) : List Bool → List Int → List Bool → Prop
  | done (s : List Bool) : Run g b s [] s
  | next {s s' r : List Bool} {t t' : List Int} {p : Int} (h0 : 0 ≤ p) (h1 : p < (g.length : Int)) (hs : scan b s t (rd_L1 g p) = (s', t')) (h : Run g b s' t' r) : Run g b s (t ++ [p]) r
def unseen (s : List Bool) : Nat := s.count false
theorem set_unseen {s : List Bool} {q : Nat} (h : q < s.length) (hq : s.getD q false = false) : unseen (s.set q true) + 1 = unseen s := by
  have hx : s[q] = false := by
    rw [List.getD_eq_getElem?_getD, List.getElem?_eq_getElem h] at hq
    simpa using hq
  have hm : 0 < s.count false := List.count_pos_iff.mpr (hx ▸ List.getElem_mem h)
  unfold unseen
  rw [List.count_set h]
  simp [hx]
  omega
theorem scan_len (b : Int) : ∀ (l : List Int) (s : List Bool) (t : List Int), (scan b s t l).1.length = s.length
  | [], s, t => rfl
  | q :: l, s, t => by
    simp only [scan]
    split
    · exact scan_len b l s t
    · rw [scan_len b l]; simp
theorem scan_size (b : Int) : ∀ (l : List Int) (s : List Bool) (t : List Int), (∀ q ∈ l, 0 ≤ q ∧ q < (s.length : Int)) → (scan b s t l).2.length + unseen (scan b s t l).1 = t.length + unseen s
  | [], s, t, h => rfl
  | q :: l, s, t, h => by
    simp only [scan]
    split
    · exact scan_size b l s t (fun x hx => h x (by simp [hx]))
    · rename_i hq
      have hh := h q (by simp)
      rw [scan_size b l _ _ (fun x hx => by simpa using h x (by simp [hx]))]
      have : unseen (s.set q.toNat true) + 1 = unseen s := set_unseen (by omega) (by
        have : ¬ rdOf false s q = true := fun e => hq (.inl e)
        simpa [rdOf] using this)
      simp; omega
theorem scan_le (b : Int) : ∀ (l : List Int) (s : List Bool) (t : List Int), (∀ q ∈ l, 0 ≤ q ∧ q < (s.length : Int)) → unseen (scan b s t l).1 ≤ unseen s
  | [], s, t, h => Nat.le_refl _
  | q :: l, s, t, h => by
    simp only [scan]
    split
    · exact scan_le b l s t (fun x hx => h x (by simp [hx]))
    · rename_i hq
      have hh := h q (by simp)
      have := scan_le b l (s.set q.toNat true) (t ++ [q]) (fun x hx => by simpa using h x (by simp [hx]))
      have : unseen (s.set q.toNat true) + 1 = unseen s := set_unseen (by omega) (by
        have : ¬ rdOf false s q = true := fun e => hq (.inl e)
        simpa [rdOf] using this)
      omega
theorem scan_pts (b : Int) (n : Int) : ∀ (l : List Int) (s : List Bool) (t : List Int), (∀ q ∈ l, 0 ≤ q ∧ q < n) → (∀ q ∈ t, 0 ≤ q ∧ q < n) → ∀ q ∈ (scan b s t l).2, 0 ≤ q ∧ q < n
  | [], s, t, h, ht => ht
  | q :: l, s, t, h, ht => by
    simp only [scan]
    split
    · exact scan_pts b n l s t (fun x hx => h x (by simp [hx])) ht
    · refine scan_pts b n l _ _ (fun x hx => h x (by simp [hx])) ?_
      intro x hx
      rcases List.mem_append.mp hx with hx | hx
      · exact ht x hx
      · simp at hx; subst hx; exact h x (by simp)
theorem row_pts {g : List (List Int)} (hg : Neat g) (p : Int) : ∀ q ∈ rd_L1 g p, 0 ≤ q ∧ q < (g.length : Int) := by
  intro q hq
  unfold rd_L1 at hq
  rw [List.getD_eq_getElem?_getD] at hq
  cases hx : g[p.toNat]? with
  | none => rw [hx] at hq; simp at hq
  | some l => rw [hx] at hq; exact hg.pts l (List.mem_of_getElem? hx) q hq
theorem row_short {g : List (List Int)} (hg : Neat g) (p : Int) : (rd_L1 g p).length ≤ 60 := by
  unfold rd_L1
  rw [List.getD_eq_getElem?_getD]
  cases hx : g[p.toNat]? with
  | none => simp
  | some l => exact hg.short l (List.mem_of_getElem? hx)
theorem run_is {g : List (List Int)} (hg : Neat g) (b : Int) : ∀ (m : Nat) (s : List Bool) (t : List Int), s.length = g.length → (∀ q ∈ t, 0 ≤ q ∧ q < (g.length : Int)) → t.length + 2 * unseen s ≤ m → ∃ r, Run g b s t r
  | 0, s, t, hs, ht, hm => by
    have : t = [] := List.eq_nil_of_length_eq_zero (by omega)
    subst this
    exact ⟨s, .done s⟩
  | m + 1, s, t, hs, ht, hm => by
    rcases List.eq_nil_or_concat t with h | ⟨t0, p, h⟩
    · subst h; exact ⟨s, .done s⟩
    · rw [List.concat_eq_append] at h
      subst h
      obtain ⟨p0, p1⟩ := ht p (by simp)
      have rp := row_pts hg p
      have rp' : ∀ q ∈ rd_L1 g p, 0 ≤ q ∧ q < (s.length : Int) := by rw [hs]; exact rp
      have hsz := scan_size b (rd_L1 g p) s t0 rp'
      have hle := scan_le b (rd_L1 g p) s t0 rp'
      have hpt := scan_pts b (g.length : Int) (rd_L1 g p) s t0 rp (fun q hq => ht q (by simp [hq]))
      have hl := scan_len b (rd_L1 g p) s t0
      simp at hm
      obtain ⟨r, hr⟩ := run_is hg b m (scan b s t0 (rd_L1 g p)).1 (scan b s t0 (rd_L1 g p)).2 (by omega) hpt (by omega)
      exact ⟨r, .next p0 p1 rfl hr⟩
theorem run_len {g : List (List Int)} {b : Int} {s r : List Bool} {t : List Int} (h : Run g b s t r) : r.length = s.length := by
  induction h with
  | done s => rfl
  | next h0 h1 hs h ih =>
    rw [ih]
    have := congrArg Prod.fst hs
    simp only at this
    rw [← this, scan_len]

theorem wl {n : Nat} (h : n < 100000000000000) : wrap64 (((n + 1 : Nat) : Int) - 1) = (n : Int) := by
  unfold wrap64
  omega
theorem reach_l1 {g : List (List Int)} (hg : Neat g) (b : Int) (r : List Bool) : ∀ (suf pre : List Int) (s : List Bool) (t : List Int), pre.length + suf.length ≤ 60 → s.length = g.length → (∀ q ∈ suf, 0 ≤ q ∧ q < (g.length : Int)) → t.length + suf.length ≤ 100000 →
    Ev (fun k => graph_reach.l0 k g b (scan b s t suf).1 (scan b s t suf).2) r → Ev (fun k => graph_reach.l1 k g b s t (pre ++ suf) ((pre ++ suf).length : Int) (pre.length : Int)) r
  | [], pre, s, t, hl, hs, hq, ht, hk => by
    refine Ev.step (fun k => ?_) hk
    rw [graph_reach.l1, if_neg (by simp)]
    rfl
  | q :: suf, pre, s, t, hl, hs, hq, ht, hk => by
    simp only [List.length_cons] at hl ht
    have h1 : ((pre.length : Nat) : Int) < ((pre ++ q :: suf).length : Int) := by simp; omega
    obtain ⟨q0, q1⟩ := hq q (by simp)
    have ih := fun s' t' => reach_l1 hg b r suf (pre ++ [q]) s' t' (by simp; omega)
    simp only [scan] at hk
    by_cases c1 : rdOf false s q = true
    · rw [if_pos (.inl c1)] at hk
      refine Ev.step (fun k => ?_) (ih s t hs (fun x hx => hq x (by simp [hx])) (by omega) hk)
      rw [graph_reach.l1, if_pos h1, if_pos (by omega), if_pos h1, if_pos (by rw [rdAt]; exact q0), if_pos (by rw [rdAt]; omega), if_pos (by rw [rdAt]; exact c1), w1 (by omega)]
      simp
    · by_cases c2 : q = b
      · rw [if_pos (.inr c2)] at hk
        refine Ev.step (fun k => ?_) (ih s t hs (fun x hx => hq x (by simp [hx])) (by omega) hk)
        rw [graph_reach.l1, if_pos h1, if_pos (by omega), if_pos h1, if_pos (by rw [rdAt]; exact q0), if_pos (by rw [rdAt]; omega), if_neg (by rw [rdAt]; exact c1), if_pos (by rw [rdAt]; exact c2), w1 (by omega)]
        simp
      · rw [if_neg (by rintro (h | h); exact c1 h; exact c2 h)] at hk
        refine Ev.step (fun k => ?_) (ih (s.set q.toNat true) (t ++ [q]) (by simpa using hs) (fun x hx => hq x (by simp [hx])) (by simp; omega) hk)
        rw [graph_reach.l1, if_pos h1, if_pos (by omega), if_pos h1, if_pos (by rw [rdAt]; exact q0), if_pos (by rw [rdAt]; omega), if_neg (by rw [rdAt]; exact c1), if_neg (by rw [rdAt]; exact c2), if_pos (by omega), w1 (by omega), rdAt]
        simp
theorem reach_run {g : List (List Int)} (hg : Neat g) (b : Int) {s r : List Bool} {t : List Int} (h : Run g b s t r) : s.length = g.length → t.length + unseen s ≤ 1000 → Ev (fun k => graph_reach.l0 k g b s t) r := by
  induction h with
  | done s =>
    intro hs ht
    refine Ev.step (fun k => ?_) (Ev.now _)
    rw [graph_reach.l0, if_neg (by simp)]
  | @next s s' r t t' p h0 h1 hs h ih =>
    intro hl ht
    have rp := row_pts hg p
    have rs := row_short hg p
    have e1 := congrArg Prod.fst hs
    have e2 := congrArg Prod.snd hs
    simp only at e1 e2
    have hsz := scan_size b (rd_L1 g p) s t (by rw [hl]; exact rp)
    have hlen := scan_len b (rd_L1 g p) s t
    rw [e1, e2] at hsz
    rw [e1] at hlen
    simp at ht
    have ih' := ih (by omega) (by omega)
    have key := reach_l1 hg b r (rd_L1 g p) [] s t (by simpa using rs) hl rp (by omega) (by rw [hs]; exact ih')
    have hx : wrap64 (((t ++ [p]).length : Int) - 1) = (t.length : Int) := by
      rw [show (t ++ [p]).length = t.length + 1 by simp]
      exact wl (by omega)
    have hp : rd (t ++ [p]) (t.length : Int) = p := rdAt t p []
    refine Ev.step (fun k => ?_) key
    rw [graph_reach.l0, if_pos (by simp), hx, if_pos (by omega), if_pos (by simp; omega), if_pos (by simp; omega), hp, if_pos h0, if_pos h1]
    simp
theorem from_l1 {g : List (List Int)} (hg : Neat g) (b : Int) (p : Int) (p0 : 0 ≤ p) (p1 : p < (g.length : Int)) (r : List Bool) : ∀ (suf pre : List Int) (s : List Bool) (t : List Int), rd_L1 g p = pre ++ suf → s.length = g.length → t.length + suf.length ≤ 100000 →
    Ev (fun k => ratlineref10_from.l0 k g b (scan b s t suf).1 (scan b s t suf).2) r → Ev (fun k => ratlineref10_from.l1 k g b s t p (pre.length : Int)) r
  | [], pre, s, t, he, hs, ht, hk => by
    refine Ev.step (fun k => ?_) hk
    rw [ratlineref10_from.l1, if_pos p0, if_pos p1, if_neg (by rw [he]; simp)]
    rfl
  | q :: suf, pre, s, t, he, hs, ht, hk => by
    simp only [List.length_cons] at ht
    have hshort := row_short hg p
    have hlen : (rd_L1 g p).length = pre.length + 1 + suf.length := by rw [he]; simp; omega
    have h1 : ((pre.length : Nat) : Int) < ((rd_L1 g p).length : Int) := by omega
    have hq : rd (rd_L1 g p) (pre.length : Int) = q := by rw [he, rdAt]
    obtain ⟨q0, q1⟩ := row_pts hg p q (by rw [he]; simp)
    have ih := fun s' t' => from_l1 hg b p p0 p1 r suf (pre ++ [q]) s' t' (by simp [he])
    simp only [scan] at hk
    by_cases c2 : q = b
    · rw [if_pos (.inr c2)] at hk
      refine Ev.step (fun k => ?_) (ih s t hs (by omega) hk)
      rw [ratlineref10_from.l1, if_pos p0, if_pos p1, if_pos h1, if_pos (by omega), if_pos (by rw [hq]; exact c2), w1 (by omega)]
      simp
    · by_cases c1 : rdOf false s q = true
      · rw [if_pos (.inl c1)] at hk
        refine Ev.step (fun k => ?_) (ih s t hs (by omega) hk)
        rw [ratlineref10_from.l1, if_pos p0, if_pos p1, if_pos h1, if_pos (by omega), if_neg (by rw [hq]; exact c2), if_pos (by rw [hq]; exact q0), if_pos (by rw [hq]; omega), if_pos (by rw [hq]; exact c1), w1 (by omega)]
        simp
      · rw [if_neg (by rintro (h | h); exact c1 h; exact c2 h)] at hk
        refine Ev.step (fun k => ?_) (ih (s.set q.toNat true) (t ++ [q]) (by simpa using hs) (by simp; omega) hk)
        rw [ratlineref10_from.l1, if_pos p0, if_pos p1, if_pos h1, if_pos (by omega), if_neg (by rw [hq]; exact c2), if_pos (by rw [hq]; exact q0), if_pos (by rw [hq]; omega), if_neg (by rw [hq]; exact c1), if_pos (by omega), w1 (by omega), hq]
        simp
theorem from_run {g : List (List Int)} (hg : Neat g) (b : Int) {s r : List Bool} {t : List Int} (h : Run g b s t r) : s.length = g.length → t.length + unseen s ≤ 1000 → Ev (fun k => ratlineref10_from.l0 k g b s t) r := by
  induction h with
  | done s =>
    intro hs ht
    refine Ev.step (fun k => ?_) (Ev.now _)
    rw [ratlineref10_from.l0, if_neg (by simp)]
  | @next s s' r t t' p h0 h1 hs h ih =>
    intro hl ht
    have rp := row_pts hg p
    have rs := row_short hg p
    have e1 := congrArg Prod.fst hs
    have e2 := congrArg Prod.snd hs
    simp only at e1 e2
    have hsz := scan_size b (rd_L1 g p) s t (by rw [hl]; exact rp)
    have hlen := scan_len b (rd_L1 g p) s t
    rw [e1, e2] at hsz
    rw [e1] at hlen
    simp at ht
    have ih' := ih (by omega) (by omega)
    have key := from_l1 hg b p h0 h1 r (rd_L1 g p) [] s t rfl hl (by omega) (by rw [hs]; exact ih')
    have hx : wrap64 (((t ++ [p]).length : Int) - 1) = (t.length : Int) := by
      rw [show (t ++ [p]).length = t.length + 1 by simp]
      exact wl (by omega)
    have hp : rd (t ++ [p]) (t.length : Int) = p := rdAt t p []
    refine Ev.step (fun k => ?_) key
    rw [ratlineref10_from.l0, if_pos (by simp), hx, if_pos (by omega), if_pos (by simp; omega), if_pos (by simp; omega), hp]
    simp
theorem unseen_le (s : List Bool) : unseen s ≤ s.length := List.count_le_length
/-- What is come to from a point without another one: both tell it, and it is what the search's rounds leave. -/
def Come (g : List (List Int)) (a b : Int) (r : List Bool) : Prop :=
  r.length = g.length ∧ ((((g.length : Int) ≤ a ∨ a = b) ∧ r = List.replicate g.length false) ∨ (¬ ((g.length : Int) ≤ a ∨ a = b) ∧ Run g b ((List.replicate g.length false).set a.toNat true) [a] r))
theorem come_is {g : List (List Int)} (hg : Neat g) (a b : Int) (ha : 0 ≤ a) : ∃ r, Come g a b r ∧ Ev (fun k => graph_reach.f k g a b) r ∧ Ev (fun k => ratlineref10_from.f k g a b) r := by
  have hs := hg.few
  have start1 : ∀ r x, Ev (fun k => graph_reach.j0 k g a b (List.replicate g.length false) x) r → (x = true ↔ ((g.length : Int) ≤ a ∨ a = b)) → Ev (fun k => graph_reach.f k g a b) r := by
    intro r x hx hiff
    refine Ev.congr (fun k => ?_) hx
    simp only [graph_reach.f]
    rw [if_pos (by omega), if_pos (by omega)]
    simp only [Option.bind_some, Int.toNat_natCast]
    by_cases c : a ≥ (g.length : Int)
    · rw [if_pos c, hiff.mpr (.inl c)]
    · rw [if_neg c]
      congr 1
      by_cases e : a = b
      · rw [hiff.mpr (.inr e)]; simpa using e
      · have : x = false := by
          cases x with
          | false => rfl
          | true => rcases hiff.mp rfl with h | h; exact absurd h c; exact absurd h e
        rw [this]; simpa using e
  have start2 : ∀ r x, Ev (fun k => ratlineref10_from.j0 k g a b (List.replicate g.length false) x) r → (x = true ↔ ((g.length : Int) ≤ a ∨ a = b)) → Ev (fun k => ratlineref10_from.f k g a b) r := by
    intro r x hx hiff
    refine Ev.congr (fun k => ?_) hx
    simp only [ratlineref10_from.f]
    rw [if_pos (by omega), if_pos (by omega)]
    simp only [Option.bind_some, Int.toNat_natCast]
    rw [if_neg (by omega)]
    by_cases c : a ≥ (g.length : Int)
    · rw [if_pos c, hiff.mpr (.inl c)]
    · rw [if_neg c]
      congr 1
      by_cases e : a = b
      · rw [hiff.mpr (.inr e)]; simpa using e
      · have : x = false := by
          cases x with
          | false => rfl
          | true => rcases hiff.mp rfl with h | h; exact absurd h c; exact absurd h e
        rw [this]; simpa using e
  by_cases c : (g.length : Int) ≤ a ∨ a = b
  · refine ⟨List.replicate g.length false, ⟨by simp, .inl ⟨c, rfl⟩⟩, start1 _ true ?_ (by simpa using c), start2 _ true ?_ (by simpa using c)⟩
    · refine Ev.step (fun k => ?_) (Ev.now _)
      rw [graph_reach.j0, if_pos rfl]
    · refine Ev.step (fun k => ?_) (Ev.now _)
      rw [ratlineref10_from.j0, if_pos rfl]
  · have c' := c
    rw [not_or] at c'
    have hl : ((List.replicate g.length false).set a.toNat true).length = g.length := by simp
    have hu := unseen_le ((List.replicate g.length false).set a.toNat true)
    obtain ⟨r, hr⟩ := run_is hg b _ ((List.replicate g.length false).set a.toNat true) [a] hl (by intro q hq; simp at hq; subst hq; omega) (Nat.le_refl _)
    refine ⟨r, ⟨by rw [run_len hr, hl], .inr ⟨c, hr⟩⟩, start1 _ false ?_ (by simpa using c), start2 _ false ?_ (by simpa using c)⟩
    · refine Ev.step (fun k => ?_) (reach_run hg b hr hl (by simp; omega))
      rw [graph_reach.j0, if_neg (by simp), if_pos ha, if_pos (by simp; omega)]
    · refine Ev.step (fun k => ?_) (from_run hg b hr hl (by simp; omega))
      rw [ratlineref10_from.j0, if_neg (by simp), if_pos ha, if_pos (by simp; omega)]
theorem Reach (g : List (List Int)) (hg : Small g) : ∃ r, r.length = g.length ∧ Come (norm g) 0 (-1) r ∧ Ev (fun k => graph_Reach.f k g) r ∧ Ev (fun k => ratlineref10_Reach.f k g) r := by
  obtain ⟨r, hc, h1, h2⟩ := come_is (neat g hg) 0 (-1) (by omega)
  refine ⟨r, by rw [hc.1, norm_length], hc, ?_, ?_⟩
  · exact Ev.bind (f := fun k t => (graph_reach.f k t 0 (-1)).bind fun u => some u) (clean g hg) (Ev.bind (f := fun _ u => some u) h1 (Ev.now _))
  · exact Ev.bind (f := fun k t => (ratlineref10_from.f k t 0 (-1)).bind fun u => some u) (refNorm g hg) (Ev.bind (f := fun _ u => some u) h2 (Ev.now _))

/-! ### slices.Reverse -/
theorem rev_l0 : ∀ (n : Nat) (pre mid suf : List Int), mid.length = n → pre.length = suf.length → pre.length + mid.length + suf.length < 1000000 →
    Ev (fun k => slices_Reverse_int_int.l0 k (pre ++ mid ++ suf) (pre.length : Int) (((pre ++ mid).length : Int) - 1)) (pre ++ mid.reverse ++ suf) := by
  intro n
  induction n using Nat.strongRecOn with
  | _ n ih =>
    intro pre mid suf hm hps hl
    match mid, hm with
    | [], hm =>
      refine Ev.step (fun k => ?_) (Ev.now _)
      rw [slices_Reverse_int_int.l0, if_neg (by simp; omega)]
      simp
    | [x], hm =>
      refine Ev.step (fun k => ?_) (Ev.now _)
      rw [slices_Reverse_int_int.l0, if_neg (by simp)]
      simp
    | x :: y :: mid', hm =>
      obtain ⟨m0, z, hz⟩ : ∃ m0 z, y :: mid' = m0 ++ [z] := by
        rcases List.eq_nil_or_concat (y :: mid') with h | ⟨m0, z, h⟩
        · simp at h
        · exact ⟨m0, z, by rw [h, List.concat_eq_append]⟩
      have hlen : m0.length = mid'.length := by
        have := congrArg List.length hz
        simp at this; omega
      rw [hz] at hm hl ⊢
      simp at hm hl
      have key := ih m0.length (by omega) (pre ++ [z]) m0 (x :: suf) rfl (by simp; omega) (by simp; omega)
      have hj : (((pre ++ x :: (m0 ++ [z])).length : Int) - 1) = ((pre.length + 1 + m0.length : Nat) : Int) := by
        simp; omega
      have hI : rd (pre ++ x :: (m0 ++ [z]) ++ suf) (pre.length : Int) = x := by
        rw [show pre ++ x :: (m0 ++ [z]) ++ suf = pre ++ x :: (m0 ++ [z] ++ suf) by simp]; exact rdAt _ _ _
      have hJ : rd (pre ++ x :: (m0 ++ [z]) ++ suf) ((pre.length + 1 + m0.length : Nat) : Int) = z := by
        rw [show pre ++ x :: (m0 ++ [z]) ++ suf = (pre ++ x :: m0) ++ z :: suf by simp, show pre.length + 1 + m0.length = (pre ++ x :: m0).length by simp; omega]
        exact rdAt _ _ _
      have hset : ((pre ++ x :: (m0 ++ [z]) ++ suf).set ((pre.length : Int)).toNat z).set (((pre.length + 1 + m0.length : Nat) : Int)).toNat x = (pre ++ [z]) ++ m0 ++ (x :: suf) := by
        rw [Int.toNat_natCast, Int.toNat_natCast]
        rw [show pre ++ x :: (m0 ++ [z]) ++ suf = pre ++ x :: (m0 ++ [z] ++ suf) by simp, set_at]
        rw [show pre ++ z :: (m0 ++ [z] ++ suf) = (pre ++ z :: m0) ++ z :: suf by simp, show pre.length + 1 + m0.length = (pre ++ z :: m0).length by simp; omega, set_at]
        simp
      rw [hj]
      rw [show pre ++ (x :: (m0 ++ [z])).reverse ++ suf = (pre ++ [z]) ++ m0.reverse ++ (x :: suf) by simp]
      refine Ev.step (fun k => ?_) key
      rw [slices_Reverse_int_int.l0, if_pos (by omega), if_pos (by omega), if_pos (by simp; omega), if_pos (by omega), if_pos (by simp; omega), hI, hJ, hset, w1 (by omega)]
      rw [show wrap64 (((pre.length + 1 + m0.length : Nat) : Int) - 1) = (((pre ++ [z] ++ m0).length : Int) - 1) by unfold wrap64; simp; omega]
      simp
theorem reverse (l : List Int) (h : l.length < 1000000) : Ev (fun k => slices_Reverse_int_int.f k l) l.reverse := by
  have := rev_l0 l.length [] l [] rfl rfl (by simpa using h)
  refine Ev.congr (fun k => ?_) (show Ev _ l.reverse by simpa using this)
  simp only [slices_Reverse_int_int.f]
  rw [show wrap64 ((l.length : Int) - 1) = (l.length : Int) - 1 by unfold wrap64; omega]

/-! ### leaving, depth first -/
inductive Lv (g : List (List Int)) : Int → Nat → List Bool → List Int → List Int → List Bool → Prop
  | fin {a : Int} {i : Nat} {s : List Bool} {o : List Int} (h : (rd_L1 g a).length ≤ i) : Lv g a i s o (a :: o) s
  | skip {a : Int} {i : Nat} {s s' : List Bool} {o o' : List Int} (h : i < (rd_L1 g a).length) (hq : rdOf false s (rd (rd_L1 g a) (i : Int)) = true) (hr : Lv g a (i + 1) s o o' s') : Lv g a i s o o' s'
  | go {a : Int} {i : Nat} {s s1 s' : List Bool} {o o1 o' : List Int} (h : i < (rd_L1 g a).length) (hq : ¬ rdOf false s (rd (rd_L1 g a) (i : Int)) = true)
      (hc : Lv g (rd (rd_L1 g a) (i : Int)) 0 (s.set (rd (rd_L1 g a) (i : Int)).toNat true) o o1 s1) (hr : Lv g a (i + 1) s1 o1 o' s') : Lv g a i s o o' s'
theorem child_pts {g : List (List Int)} (hg : Neat g) (a : Int) {i : Nat} (h : i < (rd_L1 g a).length) : 0 ≤ rd (rd_L1 g a) (i : Int) ∧ rd (rd_L1 g a) (i : Int) < (g.length : Int) := by
  refine row_pts hg a _ ?_
  rw [rdNat, List.getD_eq_getElem?_getD, List.getElem?_eq_getElem h]
  exact List.getElem_mem h
theorem mark {s : List Bool} {q : Int} (h0 : 0 ≤ q) (h1 : q < (s.length : Int)) (hq : ¬ rdOf false s q = true) : unseen (s.set q.toNat true) + 1 = unseen s :=
  set_unseen (by omega) (by simpa [rdOf] using hq)
theorem lv_size {g : List (List Int)} (hg : Neat g) {a : Int} {i : Nat} {s s' : List Bool} {o o' : List Int} (h : Lv g a i s o o' s') : s.length = g.length → s'.length = g.length ∧ o'.length + unseen s' = o.length + unseen s + 1 ∧ unseen s' ≤ unseen s := by
  induction h with
  | fin h => intro hs; exact ⟨hs, by simp; omega, Nat.le_refl _⟩
  | skip h hq hr ih => exact ih
  | go h hq hc hr ih1 ih2 =>
    intro hs
    obtain ⟨q0, q1⟩ := child_pts hg _ h
    have hm := mark q0 (by rw [hs]; exact q1) hq
    obtain ⟨a1, a2, a3⟩ := ih1 (by simpa using hs)
    obtain ⟨b1, b2, b3⟩ := ih2 a1
    exact ⟨b1, by omega, by omega⟩
theorem lv_is {g : List (List Int)} (hg : Neat g) : ∀ (u : Nat) (m : Nat) (a : Int) (i : Nat) (s : List Bool) (o : List Int), s.length = g.length → unseen s = u → (rd_L1 g a).length - i = m → ∃ o' s', Lv g a i s o o' s' := by
  intro u
  induction u using Nat.strongRecOn with
  | _ u ihu =>
    intro m
    induction m with
    | zero =>
      intro a i s o hs hu hm
      exact ⟨_, _, .fin (by omega)⟩
    | succ m ihm =>
      intro a i s o hs hu hm
      have h : i < (rd_L1 g a).length := by omega
      obtain ⟨q0, q1⟩ := child_pts hg a h
      by_cases hq : rdOf false s (rd (rd_L1 g a) (i : Int)) = true
      · obtain ⟨o', s', hr⟩ := ihm a (i + 1) s o hs hu (by omega)
        exact ⟨o', s', .skip h hq hr⟩
      · have hmk := mark q0 (by rw [hs]; exact q1) hq
        obtain ⟨o1, s1, hc⟩ := ihu (unseen (s.set (rd (rd_L1 g a) (i : Int)).toNat true)) (by omega) _ (rd (rd_L1 g a) (i : Int)) 0 _ o (by simpa using hs) rfl rfl
        obtain ⟨l1, _, l3⟩ := lv_size hg hc (by simpa using hs)
        obtain ⟨o', s', hr⟩ := ihu (unseen s1) (by omega) _ a (i + 1) s1 o1 l1 rfl rfl
        exact ⟨o', s', .go h hq hc hr⟩
theorem leave_l0 {g : List (List Int)} (hg : Neat g) {a : Int} {i : Nat} {s s' : List Bool} {o o' : List Int} (h : Lv g a i s o o' s') : 0 ≤ a → a < (g.length : Int) → s.length = g.length → o.length + unseen s ≤ 1000 →
    Ev (fun k => ratlineref10_leave.l0 k g a s o (i : Int)) (o', s') := by
  induction h with
  | @fin a i s o h =>
    intro a0 a1 hs hb
    refine Ev.step (fun k => ?_) (Ev.now _)
    rw [ratlineref10_leave.l0, if_pos a0, if_pos a1, if_neg (by omega)]
    simp
    omega
  | @skip a i s s' o o' h hq hr ih =>
    intro a0 a1 hs hb
    obtain ⟨q0, q1⟩ := child_pts hg a h
    have hsh := row_short hg a
    refine Ev.step (fun k => ?_) (ih a0 a1 hs hb)
    rw [ratlineref10_leave.l0, if_pos a0, if_pos a1, if_pos (by omega), if_pos (by omega), if_pos q0, if_pos (by omega), if_pos hq, w1 (by omega)]
  | @go a i s s1 s' o o1 o' h hq hc hr ih1 ih2 =>
    intro a0 a1 hs hb
    obtain ⟨q0, q1⟩ := child_pts hg a h
    have hsh := row_short hg a
    have hm := mark q0 (by rw [hs]; exact q1) hq
    obtain ⟨l1, l2, l3⟩ := lv_size hg hc (by simpa using hs)
    have e1 := ih1 q0 q1 (by simpa using hs) (by omega)
    have e2 := ih2 a0 a1 l1 (by omega)
    have e1' : Ev (fun k => ratlineref10_leave.f k g (rd (rd_L1 g a) (i : Int)) s o) (o1, s1) := by
      refine Ev.step (fun k => ?_) e1
      rw [ratlineref10_leave.f, if_pos q0, if_pos (by omega)]
      rfl
    have e3 := Ev.bind (f := fun k bt => ratlineref10_leave.l0 k g a bt.2 bt.1 (wrap64 ((i : Int) + 1))) e1' (by
      rw [w1 (by omega)]
      exact e2)
    refine Ev.step (fun k => ?_) e3
    rw [ratlineref10_leave.l0, if_pos a0, if_pos a1, if_pos (by omega), if_pos (by omega), if_pos q0, if_pos (by omega), if_neg hq]
theorem order_l0 {g : List (List Int)} (hg : Neat g) (r : List Int) {a : Int} {i : Nat} {s s' : List Bool} {o o' : List Int} (h : Lv g a i s o o' s') : ∀ (way : List S56), 0 ≤ a → a < (g.length : Int) → s.length = g.length → o.length + unseen s ≤ 1000 → way.length + unseen s ≤ 1000 →
    Ev (fun k => graph_order.l0 k g s' way o'.reverse) r → Ev (fun k => graph_order.l0 k g s (⟨a, (i : Int)⟩ :: way) o.reverse) r := by
  induction h with
  | @fin a i s o h =>
    intro way a0 a1 hs hb hw hk
    refine Ev.step (fun k => ?_) hk
    rw [graph_order.l0, if_pos ⟨a0, a1⟩, if_neg (by simp; omega), if_pos (by simp; omega)]
    simp
  | @skip a i s s' o o' h hq hr ih =>
    intro way a0 a1 hs hb hw hk
    obtain ⟨q0, q1⟩ := child_pts hg a h
    refine Ev.step (fun k => ?_) (ih way a0 a1 hs hb hw hk)
    rw [graph_order.l0, if_pos ⟨a0, a1⟩, if_pos (by simp; omega), if_pos ⟨by simp, q0, by simp only; omega⟩, if_pos hq]
    rfl
  | @go a i s s1 s' o o1 o' h hq hc hr ih1 ih2 =>
    intro way a0 a1 hs hb hw hk
    obtain ⟨q0, q1⟩ := child_pts hg a h
    have hm := mark q0 (by rw [hs]; exact q1) hq
    obtain ⟨l1, l2, l3⟩ := lv_size hg hc (by simpa using hs)
    have e2 := ih2 way a0 a1 l1 (by omega) (by omega) hk
    have e1 := ih1 (⟨a, ((i + 1 : Nat) : Int)⟩ :: way) q0 q1 (by simpa using hs) (by omega) (by simp; omega) e2
    refine Ev.step (fun k => ?_) e1
    rw [graph_order.l0, if_pos ⟨a0, a1⟩, if_pos (by simp; omega), if_pos ⟨by simp, q0, by simp only; omega⟩, if_neg hq, if_pos (by omega)]
    rfl
/-- The order of leaving: the list that both tell. -/
def Left (g : List (List Int)) (o : List Int) : Prop := (g.length = 0 ∧ o = []) ∨ (0 < g.length ∧ ∃ s, Lv g 0 0 ((List.replicate g.length false).set 0 true) [] o s)
theorem order_is {g : List (List Int)} (hg : Neat g) : ∃ o, Left g o ∧ o.length ≤ 100 ∧ Ev (fun k => graph_order.f k g) o ∧ (0 < g.length → Ev (fun k => (ratlineref10_leave.f k g 0 (List.replicate g.length false) []).bind fun bt => some bt.1) o) := by
  have hs := hg.few
  by_cases h0 : g.length = 0
  · refine ⟨[], .inl ⟨h0, rfl⟩, by simp, ?_, fun h => by omega⟩
    refine Ev.congr (fun k => ?_) (Ev.now [])
    simp only [graph_order.f]
    rw [if_pos h0]
  · have hl : ((List.replicate g.length false).set 0 true).length = g.length := by simp
    have hu := unseen_le ((List.replicate g.length false).set 0 true)
    obtain ⟨o, s, hlv⟩ := lv_is hg _ _ 0 0 ((List.replicate g.length false).set 0 true) [] hl rfl rfl
    obtain ⟨l1, l2, l3⟩ := lv_size hg hlv hl
    simp at l2
    refine ⟨o, .inr ⟨by omega, s, hlv⟩, by omega, ?_, fun _ => ?_⟩
    · have hr := reverse o.reverse (by simp; omega)
      rw [List.reverse_reverse] at hr
      have := order_l0 hg o hlv [] (by omega) (by omega) hl (by simp; omega) (by simp; omega) (by
        refine Ev.step (fun k => ?_) hr
        rw [graph_order.l0])
      refine Ev.congr (fun k => ?_) this
      simp only [graph_order.f]
      rw [if_neg h0, if_pos (by omega)]
      rfl
    · have e1 := leave_l0 hg hlv (by omega) (by omega) hl (by simp; omega)
      have e2 : Ev (fun k => ratlineref10_leave.f k g 0 (List.replicate g.length false) []) (o, s) := by
        refine Ev.step (fun k => ?_) e1
        rw [ratlineref10_leave.f, if_pos (by omega), if_pos (by simp; omega)]
        rfl
      exact Ev.bind (f := fun _ bt => some bt.1) e2 (Ev.now _)
theorem Order (g : List (List Int)) (hg : Small g) : ∃ o, Left (norm g) o ∧ o.length ≤ 100 ∧ Ev (fun k => graph_Order.f k g) o ∧ Ev (fun k => ratlineref10_Order.f k g) o := by
  obtain ⟨o, hL, hl, h1, h2⟩ := order_is (neat g hg)
  have hs := hg.1
  refine ⟨o, hL, hl, ?_, ?_⟩
  · exact Ev.bind (f := fun k t => (graph_order.f k t).bind fun u => (slices_Clip_int_int.f u).bind fun v => some v) (clean g hg) (Ev.bind (f := fun _ u => (slices_Clip_int_int.f u).bind fun v => some v) h1 (Ev.now _))
  · by_cases h0 : g.length = 0
    · have ho : o = [] := by
        rcases hL with ⟨_, h⟩ | ⟨h, _⟩
        · exact h
        · rw [norm_length] at h; omega
      subst ho
      refine Ev.congr (fun k => ?_) (Ev.now [])
      simp only [ratlineref10_Order.f]
      rw [if_pos (by omega)]
    · have h3 := h2 (by rw [norm_length]; omega)
      rw [norm_length] at h3
      have h4 := Ev.bind (f := fun k t => (ratlineref10_leave.f k t 0 (List.replicate g.length false) []).bind fun bt => some bt.1) (refNorm g hg) h3
      refine Ev.congr (fun k => ?_) h4
      simp only [ratlineref10_Order.f]
      rw [if_neg (by omega)]
      congr 1
      funext t
      rw [if_pos (by omega), if_pos (by omega)]
      simp
end Go.Proofs.Ytjflddnmkajleaa.Norm
