/- Plain law: graph.clean and ratlineref10.Norm tell one and the same graph; small helpers of the laws of layer 10. -/
import Derived.Test.YtjflddnmkajleaaPGx1
import Derived.Test.YtjflddnmkajleaaPGx2
import Derived.Test.YtjflddnmkajleaaPGx4
import Derived.Test.YtjflddnmkajleaaPGx7
import Derived.Test.YtjflddnmkajleaaPGx10
import Derived.Test.YtjflddnmkajleaaPGx22
import Derived.Test.YtjflddnmkajleaaPGx23
import Derived.Test.YtjflddnmkajleaaPGx24
import Derived.Test.YtjflddnmkajleaaPGx25
import Derived.Test.YtjflddnmkajleaaPGx26
import Derived.Test.YtjflddnmkajleaaPGx6
import Derived.Test.YtjflddnmkajleaaGt
namespace Go.Proofs.Ytjflddnmkajleaa.Norm
set_option linter.unusedVariables false
set_option linter.unusedSimpArgs false
open Go.RowKit Go.Proofs.Ytjflddnmkajleaa.PG Go.Proofs.YtjflddnmkajleaaW.PrintWords Go.Proofs.YtjflddnmkajleaaW.PrintLast Go.Proofs.Ytjflddnmkajleaa.Dm

theorem w1 {n : Nat} (h : n < 100000000000000) : wrap64 ((n : Int) + 1) = ((n + 1 : Nat) : Int) := by
  unfold wrap64
  omega
theorem rdAt (pre : List Int) (q : Int) (suf : List Int) : rd (pre ++ q :: suf) (pre.length : Int) = q := by
  simp [rd, List.getD]
theorem rdAtL (pre : List (List Int)) (q : List Int) (suf : List (List Int)) : rd_L1 (pre ++ q :: suf) (pre.length : Int) = q := by
  simp [rd_L1, List.getD]
theorem rdNat (l : List Int) (i : Nat) : rd l (i : Int) = l.getD i 0 := by simp [rd]
theorem rdLNat (l : List (List Int)) (i : Nat) : rd_L1 l (i : Int) = l.getD i [] := by simp [rd_L1]

/-- A row without what is no point and without doubles, behind what is there. -/
def nrow (n : Nat) : List Int → List Int → List Int
  | acc, [] => acc
  | acc, q :: l => if 0 ≤ q ∧ q < (n : Int) ∧ q ∉ acc then nrow n (acc ++ [q]) l else nrow n acc l
def norm (g : List (List Int)) : List (List Int) := g.map (nrow g.length [])

theorem nrow_len (n : Nat) : ∀ (l acc : List Int), (nrow n acc l).length ≤ acc.length + l.length
  | [], acc => by simp [nrow]
  | q :: l, acc => by
    simp only [nrow]
    split
    · have := nrow_len n l (acc ++ [q]); simp at this ⊢; omega
    · have := nrow_len n l acc; simp; omega
theorem nrow_in (n : Nat) : ∀ (l acc : List Int), (∀ q ∈ acc, 0 ≤ q ∧ q < (n : Int)) → ∀ q ∈ nrow n acc l, 0 ≤ q ∧ q < (n : Int)
  | [], acc, h => by simpa [nrow] using h
  | q :: l, acc, h => by
    simp only [nrow]
    split
    · rename_i hq
      refine nrow_in n l (acc ++ [q]) ?_
      intro x hx
      rcases List.mem_append.mp hx with hx | hx
      · exact h x hx
      · simp at hx; subst hx; exact ⟨hq.1, hq.2.1⟩
    · exact nrow_in n l acc h

/-! ### SameInts, bools, few, has -/
theorem same_l0 (m : Nat) (hm : m < 1000000) : ∀ (suf pre : List Int), pre.length + suf.length = m → Ev (fun k => ratlineref11_SameInts.l0 k (pre ++ suf) (pre ++ suf) (pre.length : Int)) true
  | [], pre, h => by
    refine Ev.step (fun k => ?_) (Ev.now true)
    rw [ratlineref11_SameInts.l0, if_neg (by simp)]
  | q :: suf, pre, h => by
    refine Ev.step (fun k => ?_) (same_l0 m hm suf (pre ++ [q]) (by simp at h ⊢; omega))
    simp only [List.length_cons] at h
    have h1 : ((pre.length : Nat) : Int) < ((pre ++ q :: suf).length : Int) := by simp; omega
    rw [ratlineref11_SameInts.l0, if_pos h1, if_pos (by omega), if_pos h1, if_pos rfl, w1 (by omega)]
    simp
theorem same (l : List Int) (h : l.length < 1000000) : Ev (fun k => ratlineref11_SameInts.f k l l) true := by
  refine Ev.congr (fun k => ?_) (same_l0 l.length h l [] (by simp))
  simp [ratlineref11_SameInts.f]
theorem has_l0 (x : Int) : ∀ (suf pre : List Int), pre.length + suf.length < 1000000 → x ∉ pre → Ev (fun k => ratlineref10_has.l0 k (pre ++ suf) x (pre.length : Int)) (decide (x ∈ pre ++ suf))
  | [], pre, h, hx => by
    refine Ev.step (fun k => ?_) (Ev.now _)
    rw [ratlineref10_has.l0, if_neg (by simp)]
    simp [hx]
  | q :: suf, pre, h, hx => by
    simp only [List.length_cons] at h
    have h1 : ((pre.length : Nat) : Int) < ((pre ++ q :: suf).length : Int) := by simp; omega
    by_cases hq : q = x
    · refine Ev.step (fun k => ?_) (Ev.now _)
      rw [ratlineref10_has.l0, if_pos h1, if_pos (by omega), if_pos (by rw [rdAt]; exact hq)]
      simp [hq]
    · have := has_l0 x suf (pre ++ [q]) (by simp; omega) (by simp [hx]; exact fun h => hq h.symm)
      rw [show decide (x ∈ pre ++ q :: suf) = decide (x ∈ (pre ++ [q]) ++ suf) by simp]
      refine Ev.step (fun k => ?_) this
      rw [ratlineref10_has.l0, if_pos h1, if_pos (by omega), if_neg (by rw [rdAt]; exact hq), w1 (by omega)]
      simp
theorem has (l : List Int) (x : Int) (h : l.length < 1000000) : Ev (fun k => ratlineref10_has.f k l x) (decide (x ∈ l)) :=
  has_l0 x l [] (by simpa using h) (by simp)
/-- Small: as the law's own test has it. -/
def Small (g : List (List Int)) : Prop := g.length ≤ 40 ∧ ∀ l ∈ g, l.length ≤ 60
theorem few_l0 : ∀ (suf pre : List (List Int)), pre.length + suf.length ≤ 40 → Ev (fun k => ratlinelaw10_few.l0 k (pre ++ suf) (pre.length : Int)) (decide (∀ l ∈ suf, l.length ≤ 60))
  | [], pre, h => by
    refine Ev.step (fun k => ?_) (Ev.now _)
    rw [ratlinelaw10_few.l0, if_neg (by simp)]
    simp
  | q :: suf, pre, h => by
    simp only [List.length_cons] at h
    have h1 : ((pre.length : Nat) : Int) < ((pre ++ q :: suf).length : Int) := by simp; omega
    by_cases hq : q.length ≤ 60
    · have := few_l0 suf (pre ++ [q]) (by simp; omega)
      rw [show decide (∀ l ∈ q :: suf, l.length ≤ 60) = decide (∀ l ∈ suf, l.length ≤ 60) by simp [hq]]
      refine Ev.step (fun k => ?_) this
      rw [ratlinelaw10_few.l0, if_pos h1, if_pos (by omega), if_neg (by rw [rdAtL]; omega), w1 (by omega)]
      simp
    · refine Ev.step (fun k => ?_) (Ev.now _)
      rw [ratlinelaw10_few.l0, if_pos h1, if_pos (by omega), if_pos (by rw [rdAtL]; omega)]
      simp [hq]
theorem few (g : List (List Int)) : (Small g ∧ Ev (fun k => ratlinelaw10_few.f k g) true) ∨ Ev (fun k => ratlinelaw10_few.f k g) false := by
  by_cases h : g.length ≤ 40
  · have e := few_l0 g [] (by simpa using h)
    have e2 : Ev (fun k => ratlinelaw10_few.f k g) (decide (∀ l ∈ g, l.length ≤ 60)) := by
      refine Ev.congr (fun k => ?_) e
      simp only [ratlinelaw10_few.f]
      rw [if_neg (by omega)]
      rfl
    by_cases hs : ∀ l ∈ g, l.length ≤ 60
    · left; rw [decide_eq_true hs] at e2; exact ⟨⟨h, hs⟩, e2⟩
    · right; rw [decide_eq_false hs] at e2; exact e2
  · right
    refine Ev.congr (fun k => ?_) (Ev.now false)
    simp only [ratlinelaw10_few.f]
    rw [if_pos (by omega)]

/-! ### clean and Norm -/
theorem set_at {α : Type} (a : List α) (x v : α) (b : List α) : (a ++ x :: b).set a.length v = a ++ v :: b := by
  simp
theorem clean_l1 (n : Nat) (hn : n ≤ 40) (x0 x15 : List (List Int)) (x16 : Int) (h0 : x0.length = n) (dn : List (List Int)) (rest : List (List Int)) (hd : (dn.length + 1 + rest.length) = n) (r : List (List Int)) (x17 : Int) :
    ∀ (suf pre acc last : List Int), pre.length + suf.length ≤ 60 → acc.length ≤ pre.length → last.length = n →
      (∀ q : Int, 0 ≤ q → q < (n : Int) → (rd last q = ((dn.length + 1 : Nat) : Int) ↔ q ∈ acc)) → (∀ q : Int, 0 ≤ q → q < (n : Int) → rd last q ≤ ((dn.length + 1 : Nat) : Int)) →
      (∀ last' : List Int, last'.length = n → (∀ q : Int, 0 ≤ q → q < (n : Int) → rd last' q ≤ ((dn.length + 1 : Nat) : Int)) → Ev (fun k => graph_clean.l0 k x0 (dn ++ nrow n acc suf :: rest) last' x15 x16 (wrap64 (x17 + 1))) r) →
      Ev (fun k => graph_clean.l1 k x0 (dn ++ acc :: rest) last (dn.length : Int) x15 x16 x17 (pre ++ suf) ((pre ++ suf).length : Int) (pre.length : Int)) r
  | [], pre, acc, last, hl, ha, hll, hla, hlb, hk => by
    refine Ev.step (fun k => ?_) (hk last hll hlb)
    rw [graph_clean.l1, if_neg (by simp)]
    rfl
  | q :: suf, pre, acc, last, hl, ha, hll, hla, hlb, hk => by
    simp only [List.length_cons] at hl
    have h1 : ((pre.length : Nat) : Int) < ((pre ++ q :: suf).length : Int) := by simp; omega
    have ih := fun acc' last' => clean_l1 n hn x0 x15 x16 h0 dn rest hd r x17 suf (pre ++ [q]) acc' last' (by simp; omega)
    have skip : ¬ (0 ≤ q ∧ q < (n : Int) ∧ q ∉ acc) → Ev (fun k => graph_clean.l1 k x0 (dn ++ acc :: rest) last (dn.length : Int) x15 x16 x17 (pre ++ q :: suf) ((pre ++ q :: suf).length : Int) (wrap64 ((pre.length : Int) + 1))) r := by
      intro hno
      have hk' := hk
      simp only [nrow] at hk'
      simp only [if_neg hno] at hk'
      have := ih acc last (by simp; omega) hll hla hlb hk'
      rw [w1 (by omega)]
      simpa using this
    by_cases c1 : rd (pre ++ q :: suf) (pre.length : Int) ≥ 0
    · have c1' := c1
      rw [rdAt] at c1'
      by_cases c2 : rd (pre ++ q :: suf) (pre.length : Int) < (x0.length : Int)
      · have c2' := c2
        rw [rdAt] at c2'
        have cl : rd (pre ++ q :: suf) (pre.length : Int) < (last.length : Int) := by rw [rdAt]; omega
        by_cases c3 : rd last q = ((dn.length + 1 : Nat) : Int)
        · refine Ev.step (fun k => ?_) (skip ?_)
          · rw [graph_clean.l1, if_pos h1, if_pos (by omega), if_pos h1, if_pos c1, if_pos c2, if_pos c1, if_pos cl, if_pos (by rw [rdAt, c3, w1 (by omega)])]
          · have := (hla q c1' (by omega)).mp c3
            intro hh; exact hh.2.2 this
        · have hq : 0 ≤ q ∧ q < (n : Int) ∧ q ∉ acc := ⟨c1', by omega, fun hm => c3 ((hla q c1' (by omega)).mpr hm)⟩
          have hk' := hk
          simp only [nrow] at hk'
          simp only [if_pos hq] at hk'
          have hset : ∀ p : Int, 0 ≤ p → p < (n : Int) → rd (last.set q.toNat ((dn.length + 1 : Nat) : Int)) p = if p = q then ((dn.length + 1 : Nat) : Int) else rd last p := by
            intro p hp hpn
            simp only [rd, List.getD_eq_getElem?_getD, List.getElem?_set]
            by_cases hpq : p = q
            · subst hpq
              have : p.toNat < last.length := by omega
              simp [this]
            · have : ¬ q.toNat = p.toNat := by omega
              simp [hpq, this]
          have := ih (acc ++ [q]) (last.set q.toNat ((dn.length + 1 : Nat) : Int)) (by simp; omega) (by simpa using hll) (by
            intro p hp hpn
            rw [hset p hp hpn]
            by_cases hpq : p = q
            · simp [hpq]
            · simp only [hpq, if_false, List.mem_append, List.mem_singleton, or_false]
              exact hla p hp hpn) (by
            intro p hp hpn
            rw [hset p hp hpn]
            split
            · exact Int.le_refl _
            · exact hlb p hp hpn) hk'
          refine Ev.step (fun k => ?_) this
          rw [graph_clean.l1, if_pos h1, if_pos (by omega), if_pos h1, if_pos c1, if_pos c2, if_pos c1, if_pos cl, if_neg (by rw [rdAt, w1 (by omega)]; exact c3), if_pos (by omega), if_pos (by simp; omega), if_pos (by rw [rdAtL]; omega)]
          rw [rdAtL, rdAt, w1 (by omega), w1 (by omega)]
          simp
      · refine Ev.step (fun k => ?_) (skip ?_)
        · rw [graph_clean.l1, if_pos h1, if_pos (by omega), if_pos h1, if_pos c1, if_neg c2]
        · rw [rdAt] at c2
          omega
    · refine Ev.step (fun k => ?_) (skip ?_)
      · rw [graph_clean.l1, if_pos h1, if_pos (by omega), if_pos h1, if_neg c1]
      · rw [rdAt] at c1
        omega

theorem nrow_nil (n : Nat) (acc : List Int) : nrow n acc [] = acc := rfl
theorem clean_l0 (g : List (List Int)) (hg : Small g) : ∀ (suf pre : List (List Int)) (last : List Int), g = pre ++ suf → last.length = g.length →
      (∀ q : Int, 0 ≤ q → q < (g.length : Int) → rd last q ≤ (pre.length : Int)) →
      Ev (fun k => graph_clean.l0 k g (pre.map (nrow g.length []) ++ List.replicate suf.length []) last g (g.length : Int) (pre.length : Int)) (norm g)
  | [], pre, last, he, hll, hlb => by
    refine Ev.step (fun k => ?_) (Ev.now _)
    simp only [List.append_nil] at he
    subst he
    rw [graph_clean.l0, if_neg (by omega)]
    simp [norm]
  | l :: suf, pre, last, he, hll, hlb => by
    have hlen : g.length = pre.length + 1 + suf.length := by rw [he]; simp; omega
    have hs := hg.1
    have hl : l.length ≤ 60 := hg.2 l (by rw [he]; simp)
    have key := clean_l1 g.length hg.1 g g (g.length : Int) rfl (pre.map (nrow g.length [])) (List.replicate suf.length []) (by simp; omega) (norm g) (pre.length : Int) l [] [] last (by simpa using hl) (by simp) hll
      (by
        intro q h0 h1
        have := hlb q h0 h1
        simp only [List.length_map, List.not_mem_nil, iff_false]
        omega)
      (by
        intro q h0 h1
        have := hlb q h0 h1
        simp only [List.length_map]
        omega)
      (by
        intro last' hl' hb'
        have := clean_l0 g hg suf (pre ++ [l]) last' (by rw [he]; simp) hl' (by
          intro q h0 h1
          have := hb' q h0 h1
          simpa using this)
        rw [w1 (by omega)]
        simpa using this)
    refine Ev.step (fun k => ?_) key
    have hx : ((pre.length : Nat) : Int) < (g.length : Int) := by omega
    rw [graph_clean.l0, if_pos hx, if_pos (by omega), if_pos hx]
    have hrow : rd_L1 g (pre.length : Int) = l := by rw [he, rdAtL]
    rw [hrow]
    simp [List.replicate_succ]
theorem clean (g : List (List Int)) (hg : Small g) : Ev (fun k => graph_clean.f k g) (norm g) := by
  have := clean_l0 g hg g [] (List.replicate g.length 0) rfl (by simp) (by
    intro q h0 h1
    simp [rd, List.getD_eq_getElem?_getD, List.getElem?_replicate]
    split <;> simp)
  refine Ev.congr (fun k => ?_) this
  have hs := hg.1
  simp only [graph_clean.f]
  rw [if_pos (by omega), if_pos (by omega), if_pos (by omega)]
  simp

theorem norm_l1 (n : Nat) (hn : n ≤ 40) (x0 : List (List Int)) (h0 : x0.length = n) (row : List Int) (dn : List (List Int)) (rest : List (List Int)) (hd : (dn.length + 1 + rest.length) = n) (hrow : rd_L1 x0 (dn.length : Int) = row) (hrl : row.length ≤ 60) (r : List (List Int)) :
    ∀ (suf pre acc : List Int), row = pre ++ suf → acc.length ≤ pre.length →
      (Ev (fun k => ratlineref10_Norm.l0 k x0 (dn ++ nrow n acc suf :: rest) (wrap64 ((dn.length : Int) + 1))) r) →
      Ev (fun k => ratlineref10_Norm.l1 k x0 (dn ++ acc :: rest) (dn.length : Int) (pre.length : Int)) r
  | [], pre, acc, he, ha, hk => by
    refine Ev.step (fun k => ?_) hk
    rw [ratlineref10_Norm.l1, if_pos (by omega), if_pos (by omega), if_neg (by rw [hrow, he]; simp)]
    rfl
  | q :: suf, pre, acc, he, ha, hk => by
    have hlen : row.length = pre.length + 1 + suf.length := by rw [he]; simp; omega
    have h1 : ((pre.length : Nat) : Int) < ((rd_L1 x0 (dn.length : Int)).length : Int) := by rw [hrow]; omega
    have hq : rd (rd_L1 x0 (dn.length : Int)) (pre.length : Int) = q := by rw [hrow, he, rdAt]
    have ih := fun acc' h => norm_l1 n hn x0 h0 row dn rest hd hrow hrl r suf (pre ++ [q]) acc' (by simp [he]) h
    have skip : ¬ (0 ≤ q ∧ q < (n : Int) ∧ q ∉ acc) → Ev (fun k => ratlineref10_Norm.l1 k x0 (dn ++ acc :: rest) (dn.length : Int) (wrap64 ((pre.length : Int) + 1))) r := by
      intro hno
      have hk' := hk
      simp only [nrow] at hk'
      simp only [if_neg hno] at hk'
      have := ih acc (by simp; omega) hk'
      rw [w1 (by omega)]
      simpa using this
    by_cases c1 : q < 0
    · refine Ev.step (fun k => ?_) (skip (by omega))
      rw [ratlineref10_Norm.l1, if_pos (by omega), if_pos (by omega), if_pos h1, if_pos (by omega), if_pos (by rw [hq]; exact c1)]
    · by_cases c2 : q ≥ (n : Int)
      · refine Ev.step (fun k => ?_) (skip (by omega))
        rw [ratlineref10_Norm.l1, if_pos (by omega), if_pos (by omega), if_pos h1, if_pos (by omega), if_neg (by rw [hq]; exact c1), if_pos (by rw [hq]; omega)]
      · have hh := PG.ratlineref10_has.mono
        have hhas := has acc q (by omega)
        by_cases c3 : q ∈ acc
        · rw [decide_eq_true c3] at hhas
          have := Ev.bind (f := fun k t => if t = true then (ratlineref10_Norm.l1 k x0 (dn ++ acc :: rest) (dn.length : Int) (wrap64 ((pre.length : Int) + 1))) else (if acc.length < 17592186044416 then (ratlineref10_Norm.l1 k x0 ((dn ++ acc :: rest).set ((dn.length : Int)).toNat (acc ++ [q])) (dn.length : Int) (wrap64 ((pre.length : Int) + 1))) else none)) hhas (by simpa using skip (fun h => h.2.2 c3))
          refine Ev.step (fun k => ?_) this
          rw [ratlineref10_Norm.l1, if_pos (by omega), if_pos (by omega), if_pos h1, if_pos (by omega), if_neg (by rw [hq]; exact c1), if_neg (by rw [hq]; omega), if_pos (by simp; omega), hq, rdAtL]
        · rw [decide_eq_false c3] at hhas
          have hyes : 0 ≤ q ∧ q < (n : Int) ∧ q ∉ acc := ⟨by omega, by omega, c3⟩
          have hk' := hk
          simp only [nrow] at hk'
          simp only [if_pos hyes] at hk'
          have go := ih (acc ++ [q]) (by simp; omega) hk'
          have := Ev.bind (f := fun k t => if t = true then (ratlineref10_Norm.l1 k x0 (dn ++ acc :: rest) (dn.length : Int) (wrap64 ((pre.length : Int) + 1))) else (if acc.length < 17592186044416 then (ratlineref10_Norm.l1 k x0 ((dn ++ acc :: rest).set ((dn.length : Int)).toNat (acc ++ [q])) (dn.length : Int) (wrap64 ((pre.length : Int) + 1))) else none)) hhas (by
            rw [w1 (by omega)]
            have ha2 : acc.length < 17592186044416 := by omega
            simpa [ha2] using go)
          refine Ev.step (fun k => ?_) this
          rw [ratlineref10_Norm.l1, if_pos (by omega), if_pos (by omega), if_pos h1, if_pos (by omega), if_neg (by rw [hq]; exact c1), if_neg (by rw [hq]; omega), if_pos (by simp; omega), hq, rdAtL]
theorem norm_l0 (g : List (List Int)) (hg : Small g) : ∀ (suf pre : List (List Int)), g = pre ++ suf →
      Ev (fun k => ratlineref10_Norm.l0 k g (pre.map (nrow g.length []) ++ List.replicate suf.length []) (pre.length : Int)) (norm g)
  | [], pre, he => by
    refine Ev.step (fun k => ?_) (Ev.now _)
    simp only [List.append_nil] at he
    subst he
    rw [ratlineref10_Norm.l0, if_neg (by omega)]
    simp [norm]
  | l :: suf, pre, he => by
    have hlen : g.length = pre.length + 1 + suf.length := by rw [he]; simp; omega
    have hs := hg.1
    have hl : l.length ≤ 60 := hg.2 l (by rw [he]; simp)
    have hrow : rd_L1 g (pre.length : Int) = l := by rw [he, rdAtL]
    have key := norm_l1 g.length hg.1 g rfl l (pre.map (nrow g.length [])) (List.replicate suf.length []) (by simp; omega) (by simpa using hrow) hl (norm g) l [] [] rfl (by simp)
      (by
        have := norm_l0 g hg suf (pre ++ [l]) (by rw [he]; simp)
        simp only [List.length_map]
        rw [w1 (by omega)]
        simpa using this)
    refine Ev.step (fun k => ?_) key
    have hx : ((pre.length : Nat) : Int) < (g.length : Int) := by omega
    rw [ratlineref10_Norm.l0, if_pos hx]
    simp [List.replicate_succ]
theorem refNorm (g : List (List Int)) (hg : Small g) : Ev (fun k => ratlineref10_Norm.f k g) (norm g) := by
  have := norm_l0 g hg g [] rfl
  refine Ev.congr (fun k => ?_) this
  have hs := hg.1
  simp only [ratlineref10_Norm.f]
  rw [if_pos (by omega), if_pos (by omega)]
  simp

/-- What a graph without strange points is. -/
structure Neat (g : List (List Int)) : Prop where
  few : g.length ≤ 40
  short : ∀ l ∈ g, l.length ≤ 60
  pts : ∀ l ∈ g, ∀ q ∈ l, 0 ≤ q ∧ q < (g.length : Int)
theorem norm_length (g : List (List Int)) : (norm g).length = g.length := by simp [norm]
theorem neat (g : List (List Int)) (hg : Small g) : Neat (norm g) := by
  refine ⟨by rw [norm_length]; exact hg.1, ?_, ?_⟩
  · intro l hl
    simp only [norm, List.mem_map] at hl
    obtain ⟨l', h', rfl⟩ := hl
    have := nrow_len g.length l' []
    have := hg.2 l' h'
    simp at *
    omega
  · intro l hl q hq
    rw [norm_length]
    simp only [norm, List.mem_map] at hl
    obtain ⟨l', h', rfl⟩ := hl
    exact nrow_in g.length l' [] (by simp) q hq

def pin (i : Int) : List (List Int) → List Int → List (List Int)
  | o, [] => o
  | o, q :: l => pin i (o.set q.toNat (o.getD q.toNat [] ++ [i])) l
def pall : Nat → List (List Int) → List (List Int) → List (List Int)
  | _, o, [] => o
  | i, o, l :: g => pall (i + 1) (pin (i : Int) o l) g
theorem pin_len (i : Int) : ∀ (l : List Int) (o : List (List Int)), (pin i o l).length = o.length
  | [], o => rfl
  | q :: l, o => by simp [pin, pin_len i l]
theorem push_lb {c : Nat} {o : List (List Int)} (h : ∀ l ∈ o, l.length ≤ c) (q : Nat) (i : Int) : ∀ l ∈ o.set q (o.getD q [] ++ [i]), l.length ≤ c + 1 := by
  intro l hl
  rcases List.mem_or_eq_of_mem_set hl with hl | hl
  · have := h l hl; omega
  · subst hl
    rw [List.length_append, List.getD_eq_getElem?_getD]
    cases ho : o[q]? with
    | none => simp
    | some x => 
      have := h x (List.mem_of_getElem? ho)
      simp; omega
theorem pin_lb (i : Int) : ∀ (l : List Int) (o : List (List Int)) (c : Nat), (∀ r ∈ o, r.length ≤ c) → ∀ r ∈ pin i o l, r.length ≤ c + l.length
  | [], o, c, h => by simpa [pin] using h
  | q :: l, o, c, h => by
    intro r hr
    simp only [pin] at hr
    have := pin_lb i l _ (c + 1) (push_lb h q.toNat i) r hr
    simp; omega

theorem preds_l1 (g0 : List (List Int)) (n : Nat) (x12 x13 : Int) (i : Nat) (r : List (List Int)) : ∀ (suf pre : List Int) (o : List (List Int)) (c : Nat), pre.length + suf.length ≤ 60 → c + suf.length ≤ 100000 → o.length = n → (∀ q ∈ suf, 0 ≤ q ∧ q < (n : Int)) → (∀ l ∈ o, l.length ≤ c) →
    Ev (fun k => graph_preds.l0 k (pin (i : Int) o suf) g0 x12 (wrap64 (x13 + 1))) r →
    Ev (fun k => graph_preds.l1 k o (i : Int) g0 x12 x13 (pre ++ suf) ((pre ++ suf).length : Int) (pre.length : Int)) r
  | [], pre, o, c, hl, hc, ho, hq, hb, hk => by
    refine Ev.step (fun k => ?_) hk
    rw [graph_preds.l1, if_neg (by simp)]
    rfl
  | q :: suf, pre, o, c, hl, hc, ho, hq, hb, hk => by
    simp only [List.length_cons] at hl hc
    have h1 : ((pre.length : Nat) : Int) < ((pre ++ q :: suf).length : Int) := by simp; omega
    obtain ⟨q0, q1⟩ := hq q (by simp)
    have hd : rd_L1 o q = o.getD q.toNat [] := rfl
    have hlen : (rd_L1 o q).length ≤ c := by
      rw [hd, List.getD_eq_getElem?_getD]
      cases hx : o[q.toNat]? with
      | none => simp
      | some x => exact hb x (List.mem_of_getElem? hx)
    have ih := preds_l1 g0 n x12 x13 i r suf (pre ++ [q]) (o.set q.toNat (o.getD q.toNat [] ++ [(i : Int)])) (c + 1) (by simp; omega) (by omega) (by simpa using ho) (fun x hx => hq x (by simp [hx])) (push_lb hb _ _) hk
    refine Ev.step (fun k => ?_) ih
    rw [graph_preds.l1, if_pos h1, if_pos (by omega), if_pos h1, if_pos (by rw [rdAt]; exact q0), if_pos (by rw [rdAt]; omega), if_pos (by rw [rdAt]; omega), rdAt, w1 (by omega), hd]
    simp
theorem preds_l0 (g : List (List Int)) (hg : Neat g) : ∀ (suf pre : List (List Int)) (o : List (List Int)), g = pre ++ suf → o.length = g.length → (∀ l ∈ o, l.length ≤ pre.length * 60) →
    Ev (fun k => graph_preds.l0 k o g (g.length : Int) (pre.length : Int)) (pall pre.length o suf)
  | [], pre, o, he, ho, hb => by
    refine Ev.step (fun k => ?_) (Ev.now _)
    rw [graph_preds.l0, if_neg (by rw [he]; simp)]
    rfl
  | l :: suf, pre, o, he, ho, hb => by
    have hlen : g.length = pre.length + 1 + suf.length := by rw [he]; simp; omega
    have hs := hg.few
    have hlm : l ∈ g := by rw [he]; simp
    have hll := hg.short l hlm
    have hrow : rd_L1 g (pre.length : Int) = l := by rw [he, rdAtL]
    have ih := preds_l0 g hg suf (pre ++ [l]) (pin (pre.length : Int) o l) (by simp [he]) (by rw [pin_len]; exact ho) (by
      intro r hr
      have := pin_lb _ l o _ hb r hr
      simp; omega)
    have key := preds_l1 g g.length (g.length : Int) (pre.length : Int) pre.length (pall (pre.length + 1) (pin (pre.length : Int) o l) suf) l [] o (pre.length * 60) (by simpa using hll) (by omega) ho (fun q hq => hg.pts l hlm q hq) hb (by rw [w1 (by omega)]; simpa using ih)
    refine Ev.step (fun k => ?_) key
    have hx : ((pre.length : Nat) : Int) < (g.length : Int) := by omega
    rw [graph_preds.l0, if_pos hx, if_pos (by omega), if_pos hx, hrow]
    rfl
theorem preds (g : List (List Int)) (hg : Neat g) : Ev (fun k => graph_preds.f k g) (pall 0 (List.replicate g.length []) g) := by
  have := preds_l0 g hg g [] (List.replicate g.length []) rfl (by simp) (by
    intro l hl
    rw [List.eq_of_mem_replicate hl]
    simp)
  refine Ev.congr (fun k => ?_) this
  have hs := hg.few
  simp only [graph_preds.f]
  rw [if_pos (by omega), if_pos (by omega)]
  simp

theorem pall_len : ∀ (g : List (List Int)) (i : Nat) (o : List (List Int)), (pall i o g).length = o.length
  | [], i, o => rfl
  | l :: g, i, o => by simp [pall, pall_len g, pin_len]
theorem pall_lb : ∀ (g : List (List Int)) (i c : Nat) (o : List (List Int)), (∀ l ∈ g, l.length ≤ 60) → (∀ l ∈ o, l.length ≤ c) → ∀ l ∈ pall i o g, l.length ≤ c + g.length * 60
  | [], i, c, o, hg, ho => by simpa [pall] using ho
  | l :: g, i, c, o, hg, ho => by
    intro r hr
    simp only [pall] at hr
    have h1 := pin_lb (i : Int) l o c ho
    have h2 := pall_lb g (i + 1) (c + l.length) _ (fun x hx => hg x (by simp [hx])) h1 r hr
    have := hg l (by simp)
    simp; omega
/-- One point's list gone through: what is new is marked and put behind. -/
def scan (b : Int) : List Bool → List Int → List Int → List Bool × List Int
  | s, t, [] => (s, t)
  | s, t, q :: l => if rdOf false s q = true ∨ q = b then scan b s t l else scan b (s.set q.toNat true) (t ++ [q]) l
/-- The rounds of a search, last in first out. -/
inductive Run (g : List (List Int)) (b : Int) : List Bool → List Int → List Bool → Prop
  | done (s : List Bool) : Run g b s [] s
  | next {s s' r : List Bool} {t t' : List Int} {p : Int} (h0 : 0 ≤ p) (h1 : p < (g.length : Int)) (hs : scan b s t (rd_L1 g p) = (s', t')) (h : Run g b s' t' r) : Run g b s (t ++ [p]) r
def unseen (s : List Bool) : Nat := s.count false
theorem set_unseen {s : List Bool} {q : Nat} (h : q < s.length) (hq : s.getD q false = false) : unseen (s.set q true) + 1 = unseen s := by
  have hx : s[q] = false := by
    rw [List.getD_eq_getElem?_getD, List.getElem?_eq_getElem h] at hq
    simpa using hq
  have hm : 0 < s.count false := List.count_pos_iff.mpr (hx ▸ List.getElem_mem h)
  unfold unseen
  rw [List.count_set h]
  simp [hx]
  omega
theorem scan_len (b : Int) : ∀ (l : List Int) (s : List Bool) (t : List Int), (scan b s t l).1.length = s.length
  | [], s, t => rfl
  | q :: l, s, t => by
    simp only [scan]
    split
    · exact scan_len b l s t
    · rw [scan_len b l]; simp
theorem scan_size (b : Int) : ∀ (l : List Int) (s : List Bool) (t : List Int), (∀ q ∈ l, 0 ≤ q ∧ q < (s.length : Int)) → (scan b s t l).2.length + unseen (scan b s t l).1 = t.length + unseen s
  | [], s, t, h => rfl
  | q :: l, s, t, h => by
    simp only [scan]
    split
    · exact scan_size b l s t (fun x hx => h x (by simp [hx]))
    · rename_i hq
      have hh := h q (by simp)
      rw [scan_size b l _ _ (fun x hx => by simpa using h x (by simp [hx]))]
      have : unseen (s.set q.toNat true) + 1 = unseen s := set_unseen (by omega) (by
        have : ¬ rdOf false s q = true := fun e => hq (.inl e)
        simpa [rdOf] using this)
      simp; omega
theorem scan_le (b : Int) : ∀ (l : List Int) (s : List Bool) (t : List Int), (∀ q ∈ l, 0 ≤ q ∧ q < (s.length : Int)) → unseen (scan b s t l).1 ≤ unseen s
  | [], s, t, h => Nat.le_refl _
  | q :: l, s, t, h => by
    simp only [scan]
    split
    · exact scan_le b l s t (fun x hx => h x (by simp [hx]))
    · rename_i hq
      have hh := h q (by simp)
      have := scan_le b l (s.set q.toNat true) (t ++ [q]) (fun x hx => by simpa using h x (by simp [hx]))
      have : unseen (s.set q.toNat true) + 1 = unseen s := set_unseen (by omega) (by
        have : ¬ rdOf false s q = true := fun e => hq (.inl e)
        simpa [rdOf] using this)
      omega
theorem scan_pts (b : Int) (n : Int) : ∀ (l : List Int) (s : List Bool) (t : List Int), (∀ q ∈ l, 0 ≤ q ∧ q < n) → (∀ q ∈ t, 0 ≤ q ∧ q < n) → ∀ q ∈ (scan b s t l).2, 0 ≤ q ∧ q < n
  | [], s, t, h, ht => ht
  | q :: l, s, t, h, ht => by
    simp only [scan]
    split
    · exact scan_pts b n l s t (fun x hx => h x (by simp [hx])) ht
    · refine scan_pts b n l _ _ (fun x hx => h x (by simp [hx])) ?_
      intro x hx
      rcases List.mem_append.mp hx with hx | hx
      · exact ht x hx
      · simp at hx; subst hx; exact h x (by simp)
theorem row_pts {g : List (List Int)} (hg : Neat g) (p : Int) : ∀ q ∈ rd_L1 g p, 0 ≤ q ∧ q < (g.length : Int) := by
  intro q hq
  unfold rd_L1 at hq
  rw [List.getD_eq_getElem?_getD] at hq
  cases hx : g[p.toNat]? with
  | none => rw [hx] at hq; simp at hq
  | some l => rw [hx] at hq; exact hg.pts l (List.mem_of_getElem? hx) q hq
theorem row_short {g : List (List Int)} (hg : Neat g) (p : Int) : (rd_L1 g p).length ≤ 60 := by
  unfold rd_L1
  rw [List.getD_eq_getElem?_getD]
  cases hx : g[p.toNat]? with
  | none => simp
  | some l => exact hg.short l (List.mem_of_getElem? hx)
theorem run_is {g : List (List Int)} (hg : Neat g) (b : Int) : ∀ (m : Nat) (s : List Bool) (t : List Int), s.length = g.length → (∀ q ∈ t, 0 ≤ q ∧ q < (g.length : Int)) → t.length + 2 * unseen s ≤ m → ∃ r, Run g b s t r
  | 0, s, t, hs, ht, hm => by
    have : t = [] := List.eq_nil_of_length_eq_zero (by omega)
    subst this
    exact ⟨s, .done s⟩
  | m + 1, s, t, hs, ht, hm => by
    rcases List.eq_nil_or_concat t with h | ⟨t0, p, h⟩
    · subst h; exact ⟨s, .done s⟩
    · rw [List.concat_eq_append] at h
      subst h
      obtain ⟨p0, p1⟩ := ht p (by simp)
      have rp := row_pts hg p
      have rp' : ∀ q ∈ rd_L1 g p, 0 ≤ q ∧ q < (s.length : Int) := by rw [hs]; exact rp
      have hsz := scan_size b (rd_L1 g p) s t0 rp'
      have hle := scan_le b (rd_L1 g p) s t0 rp'
      have hpt := scan_pts b (g.length : Int) (rd_L1 g p) s t0 rp (fun q hq => ht q (by simp [hq]))
      have hl := scan_len b (rd_L1 g p) s t0
      simp at hm
      obtain ⟨r, hr⟩ := run_is hg b m (scan b s t0 (rd_L1 g p)).1 (scan b s t0 (rd_L1 g p)).2 (by omega) hpt (by omega)
      exact ⟨r, .next p0 p1 rfl hr⟩
theorem run_len {g : List (List Int)} {b : Int} {s r : List Bool} {t : List Int} (h : Run g b s t r) : r.length = s.length := by
  induction h with
  | done s => rfl
  | next h0 h1 hs h ih =>
    rw [ih]
    have := congrArg Prod.fst hs
    simp only at this
    rw [← this, scan_len]

theorem wl {n : Nat} (h : n < 100000000000000) : wrap64 (((n + 1 : Nat) : Int) - 1) = (n : Int) := by
  unfold wrap64
  omega
theorem reach_l1 {g : List (List Int)} (hg : Neat g) (b : Int) (r : List Bool) : ∀ (suf pre : List Int) (s : List Bool) (t : List Int), pre.length + suf.length ≤ 60 → s.length = g.length → (∀ q ∈ suf, 0 ≤ q ∧ q < (g.length : Int)) → t.length + suf.length ≤ 100000 →
    Ev (fun k => graph_reach.l0 k g b (scan b s t suf).1 (scan b s t suf).2) r → Ev (fun k => graph_reach.l1 k g b s t (pre ++ suf) ((pre ++ suf).length : Int) (pre.length : Int)) r
  | [], pre, s, t, hl, hs, hq, ht, hk => by
    refine Ev.step (fun k => ?_) hk
    rw [graph_reach.l1, if_neg (by simp)]
    rfl
  | q :: suf, pre, s, t, hl, hs, hq, ht, hk => by
    simp only [List.length_cons] at hl ht
    have h1 : ((pre.length : Nat) : Int) < ((pre ++ q :: suf).length : Int) := by simp; omega
    obtain ⟨q0, q1⟩ := hq q (by simp)
    have ih := fun s' t' => reach_l1 hg b r suf (pre ++ [q]) s' t' (by simp; omega)
    simp only [scan] at hk
    by_cases c1 : rdOf false s q = true
    · rw [if_pos (.inl c1)] at hk
      refine Ev.step (fun k => ?_) (ih s t hs (fun x hx => hq x (by simp [hx])) (by omega) hk)
      rw [graph_reach.l1, if_pos h1, if_pos (by omega), if_pos h1, if_pos (by rw [rdAt]; exact q0), if_pos (by rw [rdAt]; omega), if_pos (by rw [rdAt]; exact c1), w1 (by omega)]
      simp
    · by_cases c2 : q = b
      · rw [if_pos (.inr c2)] at hk
        refine Ev.step (fun k => ?_) (ih s t hs (fun x hx => hq x (by simp [hx])) (by omega) hk)
        rw [graph_reach.l1, if_pos h1, if_pos (by omega), if_pos h1, if_pos (by rw [rdAt]; exact q0), if_pos (by rw [rdAt]; omega), if_neg (by rw [rdAt]; exact c1), if_pos (by rw [rdAt]; exact c2), w1 (by omega)]
        simp
      · rw [if_neg (by rintro (h | h); exact c1 h; exact c2 h)] at hk
        refine Ev.step (fun k => ?_) (ih (s.set q.toNat true) (t ++ [q]) (by simpa using hs) (fun x hx => hq x (by simp [hx])) (by simp; omega) hk)
        rw [graph_reach.l1, if_pos h1, if_pos (by omega), if_pos h1, if_pos (by rw [rdAt]; exact q0), if_pos (by rw [rdAt]; omega), if_neg (by rw [rdAt]; exact c1), if_neg (by rw [rdAt]; exact c2), if_pos (by omega), w1 (by omega), rdAt]
        simp
theorem reach_run {g : List (List Int)} (hg : Neat g) (b : Int) {s r : List Bool} {t : List Int} (h : Run g b s t r) : s.length = g.length → t.length + unseen s ≤ 1000 → Ev (fun k => graph_reach.l0 k g b s t) r := by
  induction h with
  | done s =>
    intro hs ht
    refine Ev.step (fun k => ?_) (Ev.now _)
    rw [graph_reach.l0, if_neg (by simp)]
  | @next s s' r t t' p h0 h1 hs h ih =>
    intro hl ht
    have rp := row_pts hg p
    have rs := row_short hg p
    have e1 := congrArg Prod.fst hs
    have e2 := congrArg Prod.snd hs
    simp only at e1 e2
    have hsz := scan_size b (rd_L1 g p) s t (by rw [hl]; exact rp)
    have hlen := scan_len b (rd_L1 g p) s t
    rw [e1, e2] at hsz
    rw [e1] at hlen
    simp at ht
    have ih' := ih (by omega) (by omega)
    have key := reach_l1 hg b r (rd_L1 g p) [] s t (by simpa using rs) hl rp (by omega) (by rw [hs]; exact ih')
    have hx : wrap64 (((t ++ [p]).length : Int) - 1) = (t.length : Int) := by
      rw [show (t ++ [p]).length = t.length + 1 by simp]
      exact wl (by omega)
    have hp : rd (t ++ [p]) (t.length : Int) = p := rdAt t p []
    refine Ev.step (fun k => ?_) key
    rw [graph_reach.l0, if_pos (by simp), hx, if_pos (by omega), if_pos (by simp; omega), if_pos (by simp; omega), hp, if_pos h0, if_pos h1]
    simp
theorem from_l1 {g : List (List Int)} (hg : Neat g) (b : Int) (p : Int) (p0 : 0 ≤ p) (p1 : p < (g.length : Int)) (r : List Bool) : ∀ (suf pre : List Int) (s : List Bool) (t : List Int), rd_L1 g p = pre ++ suf → s.length = g.length → t.length + suf.length ≤ 100000 →
    Ev (fun k => ratlineref10_from.l0 k g b (scan b s t suf).1 (scan b s t suf).2) r → Ev (fun k => ratlineref10_from.l1 k g b s t p (pre.length : Int)) r
  | [], pre, s, t, he, hs, ht, hk => by
    refine Ev.step (fun k => ?_) hk
    rw [ratlineref10_from.l1, if_pos p0, if_pos p1, if_neg (by rw [he]; simp)]
    rfl
  | q :: suf, pre, s, t, he, hs, ht, hk => by
    simp only [List.length_cons] at ht
    have hshort := row_short hg p
    have hlen : (rd_L1 g p).length = pre.length + 1 + suf.length := by rw [he]; simp; omega
    have h1 : ((pre.length : Nat) : Int) < ((rd_L1 g p).length : Int) := by omega
    have hq : rd (rd_L1 g p) (pre.length : Int) = q := by rw [he, rdAt]
    obtain ⟨q0, q1⟩ := row_pts hg p q (by rw [he]; simp)
    have ih := fun s' t' => from_l1 hg b p p0 p1 r suf (pre ++ [q]) s' t' (by simp [he])
    simp only [scan] at hk
    by_cases c2 : q = b
    · rw [if_pos (.inr c2)] at hk
      refine Ev.step (fun k => ?_) (ih s t hs (by omega) hk)
      rw [ratlineref10_from.l1, if_pos p0, if_pos p1, if_pos h1, if_pos (by omega), if_pos (by rw [hq]; exact c2), w1 (by omega)]
      simp
    · by_cases c1 : rdOf false s q = true
      · rw [if_pos (.inl c1)] at hk
        refine Ev.step (fun k => ?_) (ih s t hs (by omega) hk)
        rw [ratlineref10_from.l1, if_pos p0, if_pos p1, if_pos h1, if_pos (by omega), if_neg (by rw [hq]; exact c2), if_pos (by rw [hq]; exact q0), if_pos (by rw [hq]; omega), if_pos (by rw [hq]; exact c1), w1 (by omega)]
        simp
      · rw [if_neg (by rintro (h | h); exact c1 h; exact c2 h)] at hk
        refine Ev.step (fun k => ?_) (ih (s.set q.toNat true) (t ++ [q]) (by simpa using hs) (by simp; omega) hk)
        rw [ratlineref10_from.l1, if_pos p0, if_pos p1, if_pos h1, if_pos (by omega), if_neg (by rw [hq]; exact c2), if_pos (by rw [hq]; exact q0), if_pos (by rw [hq]; omega), if_neg (by rw [hq]; exact c1), if_pos (by omega), w1 (by omega), hq]
        simp
theorem from_run {g : List (List Int)} (hg : Neat g) (b : Int) {s r : List Bool} {t : List Int} (h : Run g b s t r) : s.length = g.length → t.length + unseen s ≤ 1000 → Ev (fun k => ratlineref10_from.l0 k g b s t) r := by
  induction h with
  | done s =>
    intro hs ht
    refine Ev.step (fun k => ?_) (Ev.now _)
    rw [ratlineref10_from.l0, if_neg (by simp)]
  | @next s s' r t t' p h0 h1 hs h ih =>
    intro hl ht
    have rp := row_pts hg p
    have rs := row_short hg p
    have e1 := congrArg Prod.fst hs
    have e2 := congrArg Prod.snd hs
    simp only at e1 e2
    have hsz := scan_size b (rd_L1 g p) s t (by rw [hl]; exact rp)
    have hlen := scan_len b (rd_L1 g p) s t
    rw [e1, e2] at hsz
    rw [e1] at hlen
    simp at ht
    have ih' := ih (by omega) (by omega)
    have key := from_l1 hg b p h0 h1 r (rd_L1 g p) [] s t rfl hl (by omega) (by rw [hs]; exact ih')
    have hx : wrap64 (((t ++ [p]).length : Int) - 1) = (t.length : Int) := by
      rw [show (t ++ [p]).length = t.length + 1 by simp]
      exact wl (by omega)
    have hp : rd (t ++ [p]) (t.length : Int) = p := rdAt t p []
    refine Ev.step (fun k => ?_) key
    rw [ratlineref10_from.l0, if_pos (by simp), hx, if_pos (by omega), if_pos (by simp; omega), if_pos (by simp; omega), hp]
    simp
theorem unseen_le (s : List Bool) : unseen s ≤ s.length := List.count_le_length
/-- What is come to from a point without another one: both tell it, and it is what the search's rounds leave. -/
def Come (g : List (List Int)) (a b : Int) (r : List Bool) : Prop :=
  r.length = g.length ∧ ((((g.length : Int) ≤ a ∨ a = b) ∧ r = List.replicate g.length false) ∨ (¬ ((g.length : Int) ≤ a ∨ a = b) ∧ Run g b ((List.replicate g.length false).set a.toNat true) [a] r))
theorem come_is {g : List (List Int)} (hg : Neat g) (a b : Int) (ha : 0 ≤ a) : ∃ r, Come g a b r ∧ Ev (fun k => graph_reach.f k g a b) r ∧ Ev (fun k => ratlineref10_from.f k g a b) r := by
  have hs := hg.few
  have start1 : ∀ r x, Ev (fun k => graph_reach.j0 k g a b (List.replicate g.length false) x) r → (x = true ↔ ((g.length : Int) ≤ a ∨ a = b)) → Ev (fun k => graph_reach.f k g a b) r := by
    intro r x hx hiff
    refine Ev.congr (fun k => ?_) hx
    simp only [graph_reach.f]
    rw [if_pos (by omega), if_pos (by omega)]
    simp only [Option.bind_some, Int.toNat_natCast]
    by_cases c : a ≥ (g.length : Int)
    · rw [if_pos c, hiff.mpr (.inl c)]
    · rw [if_neg c]
      congr 1
      by_cases e : a = b
      · rw [hiff.mpr (.inr e)]; simpa using e
      · have : x = false := by
          cases x with
          | false => rfl
          | true => rcases hiff.mp rfl with h | h; exact absurd h c; exact absurd h e
        rw [this]; simpa using e
  have start2 : ∀ r x, Ev (fun k => ratlineref10_from.j0 k g a b (List.replicate g.length false) x) r → (x = true ↔ ((g.length : Int) ≤ a ∨ a = b)) → Ev (fun k => ratlineref10_from.f k g a b) r := by
    intro r x hx hiff
    refine Ev.congr (fun k => ?_) hx
    simp only [ratlineref10_from.f]
    rw [if_pos (by omega), if_pos (by omega)]
    simp only [Option.bind_some, Int.toNat_natCast]
    rw [if_neg (by omega)]
    by_cases c : a ≥ (g.length : Int)
    · rw [if_pos c, hiff.mpr (.inl c)]
    · rw [if_neg c]
      congr 1
      by_cases e : a = b
      · rw [hiff.mpr (.inr e)]; simpa using e
      · have : x = false := by
          cases x with
          | false => rfl
          | true => rcases hiff.mp rfl with h | h; exact absurd h c; exact absurd h e
        rw [this]; simpa using e
  by_cases c : (g.length : Int) ≤ a ∨ a = b
  · refine ⟨List.replicate g.length false, ⟨by simp, .inl ⟨c, rfl⟩⟩, start1 _ true ?_ (by simpa using c), start2 _ true ?_ (by simpa using c)⟩
    · refine Ev.step (fun k => ?_) (Ev.now _)
      rw [graph_reach.j0, if_pos rfl]
    · refine Ev.step (fun k => ?_) (Ev.now _)
      rw [ratlineref10_from.j0, if_pos rfl]
  · have c' := c
    rw [not_or] at c'
    have hl : ((List.replicate g.length false).set a.toNat true).length = g.length := by simp
    have hu := unseen_le ((List.replicate g.length false).set a.toNat true)
    obtain ⟨r, hr⟩ := run_is hg b _ ((List.replicate g.length false).set a.toNat true) [a] hl (by intro q hq; simp at hq; subst hq; omega) (Nat.le_refl _)
    refine ⟨r, ⟨by rw [run_len hr, hl], .inr ⟨c, hr⟩⟩, start1 _ false ?_ (by simpa using c), start2 _ false ?_ (by simpa using c)⟩
    · refine Ev.step (fun k => ?_) (reach_run hg b hr hl (by simp; omega))
      rw [graph_reach.j0, if_neg (by simp), if_pos ha, if_pos (by simp; omega)]
    · refine Ev.step (fun k => ?_) (from_run hg b hr hl (by simp; omega))
      rw [ratlineref10_from.j0, if_neg (by simp), if_pos ha, if_pos (by simp; omega)]
/-! ### slices.Reverse -/
theorem rev_l0 : ∀ (n : Nat) (pre mid suf : List Int), mid.length = n → pre.length = suf.length → pre.length + mid.length + suf.length < 1000000 →
    Ev (fun k => slices_Reverse_int_int.l0 k (pre ++ mid ++ suf) (pre.length : Int) (((pre ++ mid).length : Int) - 1)) (pre ++ mid.reverse ++ suf) := by
  intro n
  induction n using Nat.strongRecOn with
  | _ n ih =>
    intro pre mid suf hm hps hl
    match mid, hm with
    | [], hm =>
      refine Ev.step (fun k => ?_) (Ev.now _)
      rw [slices_Reverse_int_int.l0, if_neg (by simp; omega)]
      simp
    | [x], hm =>
      refine Ev.step (fun k => ?_) (Ev.now _)
      rw [slices_Reverse_int_int.l0, if_neg (by simp)]
      simp
    | x :: y :: mid', hm =>
      obtain ⟨m0, z, hz⟩ : ∃ m0 z, y :: mid' = m0 ++ [z] := by
        rcases List.eq_nil_or_concat (y :: mid') with h | ⟨m0, z, h⟩
        · simp at h
        · exact ⟨m0, z, by rw [h, List.concat_eq_append]⟩
      have hlen : m0.length = mid'.length := by
        have := congrArg List.length hz
        simp at this; omega
      rw [hz] at hm hl ⊢
      simp at hm hl
      have key := ih m0.length (by omega) (pre ++ [z]) m0 (x :: suf) rfl (by simp; omega) (by simp; omega)
      have hj : (((pre ++ x :: (m0 ++ [z])).length : Int) - 1) = ((pre.length + 1 + m0.length : Nat) : Int) := by
        simp; omega
      have hI : rd (pre ++ x :: (m0 ++ [z]) ++ suf) (pre.length : Int) = x := by
        rw [show pre ++ x :: (m0 ++ [z]) ++ suf = pre ++ x :: (m0 ++ [z] ++ suf) by simp]; exact rdAt _ _ _
      have hJ : rd (pre ++ x :: (m0 ++ [z]) ++ suf) ((pre.length + 1 + m0.length : Nat) : Int) = z := by
        rw [show pre ++ x :: (m0 ++ [z]) ++ suf = (pre ++ x :: m0) ++ z :: suf by simp, show pre.length + 1 + m0.length = (pre ++ x :: m0).length by simp; omega]
        exact rdAt _ _ _
      have hset : ((pre ++ x :: (m0 ++ [z]) ++ suf).set ((pre.length : Int)).toNat z).set (((pre.length + 1 + m0.length : Nat) : Int)).toNat x = (pre ++ [z]) ++ m0 ++ (x :: suf) := by
        rw [Int.toNat_natCast, Int.toNat_natCast]
        rw [show pre ++ x :: (m0 ++ [z]) ++ suf = pre ++ x :: (m0 ++ [z] ++ suf) by simp, set_at]
        rw [show pre ++ z :: (m0 ++ [z] ++ suf) = (pre ++ z :: m0) ++ z :: suf by simp, show pre.length + 1 + m0.length = (pre ++ z :: m0).length by simp; omega, set_at]
        simp
      rw [hj]
      rw [show pre ++ (x :: (m0 ++ [z])).reverse ++ suf = (pre ++ [z]) ++ m0.reverse ++ (x :: suf) by simp]
      refine Ev.step (fun k => ?_) key
      rw [slices_Reverse_int_int.l0, if_pos (by omega), if_pos (by omega), if_pos (by simp; omega), if_pos (by omega), if_pos (by simp; omega), hI, hJ, hset, w1 (by omega)]
      rw [show wrap64 (((pre.length + 1 + m0.length : Nat) : Int) - 1) = (((pre ++ [z] ++ m0).length : Int) - 1) by unfold wrap64; simp; omega]
      simp
theorem reverse (l : List Int) (h : l.length < 1000000) : Ev (fun k => slices_Reverse_int_int.f k l) l.reverse := by
  have := rev_l0 l.length [] l [] rfl rfl (by simpa using h)
  refine Ev.congr (fun k => ?_) (show Ev _ l.reverse by simpa using this)
  simp only [slices_Reverse_int_int.f]
  rw [show wrap64 ((l.length : Int) - 1) = (l.length : Int) - 1 by unfold wrap64; omega]

/-! ### leaving, depth first -/
inductive Lv (g : List (List Int)) : Int → Nat → List Bool → List Int → List Int → List Bool → Prop
  | fin {a : Int} {i : Nat} {s : List Bool} {o : List Int} (h : (rd_L1 g a).length ≤ i) : Lv g a i s o (a :: o) s
  | skip {a : Int} {i : Nat} {s s' : List Bool} {o o' : List Int} (h : i < (rd_L1 g a).length) (hq : rdOf false s (rd (rd_L1 g a) (i : Int)) = true) (hr : Lv g a (i + 1) s o o' s') : Lv g a i s o o' s'
  | go {a : Int} {i : Nat} {s s1 s' : List Bool} {o o1 o' : List Int} (h : i < (rd_L1 g a).length) (hq : ¬ rdOf false s (rd (rd_L1 g a) (i : Int)) = true)
      (hc : Lv g (rd (rd_L1 g a) (i : Int)) 0 (s.set (rd (rd_L1 g a) (i : Int)).toNat true) o o1 s1) (hr : Lv g a (i + 1) s1 o1 o' s') : Lv g a i s o o' s'
theorem child_pts {g : List (List Int)} (hg : Neat g) (a : Int) {i : Nat} (h : i < (rd_L1 g a).length) : 0 ≤ rd (rd_L1 g a) (i : Int) ∧ rd (rd_L1 g a) (i : Int) < (g.length : Int) := by
  refine row_pts hg a _ ?_
  rw [rdNat, List.getD_eq_getElem?_getD, List.getElem?_eq_getElem h]
  exact List.getElem_mem h
theorem mark {s : List Bool} {q : Int} (h0 : 0 ≤ q) (h1 : q < (s.length : Int)) (hq : ¬ rdOf false s q = true) : unseen (s.set q.toNat true) + 1 = unseen s :=
  set_unseen (by omega) (by simpa [rdOf] using hq)
theorem lv_size {g : List (List Int)} (hg : Neat g) {a : Int} {i : Nat} {s s' : List Bool} {o o' : List Int} (h : Lv g a i s o o' s') : s.length = g.length → s'.length = g.length ∧ o'.length + unseen s' = o.length + unseen s + 1 ∧ unseen s' ≤ unseen s := by
  induction h with
  | fin h => intro hs; exact ⟨hs, by simp; omega, Nat.le_refl _⟩
  | skip h hq hr ih => exact ih
  | go h hq hc hr ih1 ih2 =>
    intro hs
    obtain ⟨q0, q1⟩ := child_pts hg _ h
    have hm := mark q0 (by rw [hs]; exact q1) hq
    obtain ⟨a1, a2, a3⟩ := ih1 (by simpa using hs)
    obtain ⟨b1, b2, b3⟩ := ih2 a1
    exact ⟨b1, by omega, by omega⟩
theorem lv_is {g : List (List Int)} (hg : Neat g) : ∀ (u : Nat) (m : Nat) (a : Int) (i : Nat) (s : List Bool) (o : List Int), s.length = g.length → unseen s = u → (rd_L1 g a).length - i = m → ∃ o' s', Lv g a i s o o' s' := by
  intro u
  induction u using Nat.strongRecOn with
  | _ u ihu =>
    intro m
    induction m with
    | zero =>
      intro a i s o hs hu hm
      exact ⟨_, _, .fin (by omega)⟩
    | succ m ihm =>
      intro a i s o hs hu hm
      have h : i < (rd_L1 g a).length := by omega
      obtain ⟨q0, q1⟩ := child_pts hg a h
      by_cases hq : rdOf false s (rd (rd_L1 g a) (i : Int)) = true
      · obtain ⟨o', s', hr⟩ := ihm a (i + 1) s o hs hu (by omega)
        exact ⟨o', s', .skip h hq hr⟩
      · have hmk := mark q0 (by rw [hs]; exact q1) hq
        obtain ⟨o1, s1, hc⟩ := ihu (unseen (s.set (rd (rd_L1 g a) (i : Int)).toNat true)) (by omega) _ (rd (rd_L1 g a) (i : Int)) 0 _ o (by simpa using hs) rfl rfl
        obtain ⟨l1, _, l3⟩ := lv_size hg hc (by simpa using hs)
        obtain ⟨o', s', hr⟩ := ihu (unseen s1) (by omega) _ a (i + 1) s1 o1 l1 rfl rfl
        exact ⟨o', s', .go h hq hc hr⟩
theorem order_l0 {g : List (List Int)} (hg : Neat g) (r : List Int) {a : Int} {i : Nat} {s s' : List Bool} {o o' : List Int} (h : Lv g a i s o o' s') : ∀ (way : List S56), 0 ≤ a → a < (g.length : Int) → s.length = g.length → o.length + unseen s ≤ 1000 → way.length + unseen s ≤ 1000 →
    Ev (fun k => graph_order.l0 k g s' way o'.reverse) r → Ev (fun k => graph_order.l0 k g s (⟨a, (i : Int)⟩ :: way) o.reverse) r := by
  induction h with
  | @fin a i s o h =>
    intro way a0 a1 hs hb hw hk
    refine Ev.step (fun k => ?_) hk
    rw [graph_order.l0, if_pos ⟨a0, a1⟩, if_neg (by simp; omega), if_pos (by simp; omega)]
    simp
  | @skip a i s s' o o' h hq hr ih =>
    intro way a0 a1 hs hb hw hk
    obtain ⟨q0, q1⟩ := child_pts hg a h
    refine Ev.step (fun k => ?_) (ih way a0 a1 hs hb hw hk)
    rw [graph_order.l0, if_pos ⟨a0, a1⟩, if_pos (by simp; omega), if_pos ⟨by simp, q0, by simp only; omega⟩, if_pos hq]
    rfl
  | @go a i s s1 s' o o1 o' h hq hc hr ih1 ih2 =>
    intro way a0 a1 hs hb hw hk
    obtain ⟨q0, q1⟩ := child_pts hg a h
    have hm := mark q0 (by rw [hs]; exact q1) hq
    obtain ⟨l1, l2, l3⟩ := lv_size hg hc (by simpa using hs)
    have e2 := ih2 way a0 a1 l1 (by omega) (by omega) hk
    have e1 := ih1 (⟨a, ((i + 1 : Nat) : Int)⟩ :: way) q0 q1 (by simpa using hs) (by omega) (by simp; omega) e2
    refine Ev.step (fun k => ?_) e1
    rw [graph_order.l0, if_pos ⟨a0, a1⟩, if_pos (by simp; omega), if_pos ⟨by simp, q0, by simp only; omega⟩, if_neg hq, if_pos (by omega)]
    rfl
/-- The order of leaving: the list that both tell. -/
def Left (g : List (List Int)) (o : List Int) : Prop := (g.length = 0 ∧ o = []) ∨ (0 < g.length ∧ ∃ s, Lv g 0 0 ((List.replicate g.length false).set 0 true) [] o s)
theorem order_is {g : List (List Int)} (hg : Neat g) : ∃ o, Left g o ∧ o.length ≤ 100 ∧ Ev (fun k => graph_order.f k g) o ∧ True := by
  have hs := hg.few
  by_cases h0 : g.length = 0
  · refine ⟨[], .inl ⟨h0, rfl⟩, by simp, ?_, trivial⟩
    refine Ev.congr (fun k => ?_) (Ev.now [])
    simp only [graph_order.f]
    rw [if_pos h0]
  · have hl : ((List.replicate g.length false).set 0 true).length = g.length := by simp
    have hu := unseen_le ((List.replicate g.length false).set 0 true)
    obtain ⟨o, s, hlv⟩ := lv_is hg _ _ 0 0 ((List.replicate g.length false).set 0 true) [] hl rfl rfl
    obtain ⟨l1, l2, l3⟩ := lv_size hg hlv hl
    simp at l2
    refine ⟨o, .inr ⟨by omega, s, hlv⟩, by omega, ?_, trivial⟩
    · have hr := reverse o.reverse (by simp; omega)
      rw [List.reverse_reverse] at hr
      have := order_l0 hg o hlv [] (by omega) (by omega) hl (by simp; omega) (by simp; omega) (by
        refine Ev.step (fun k => ?_) hr
        rw [graph_order.l0])
      refine Ev.congr (fun k => ?_) this
      simp only [graph_order.f]
      rw [if_neg h0, if_pos (by omega)]
      rfl
theorem RefReach (g : List (List Int)) (hg : Small g) : ∃ r, r.length = g.length ∧ Come (norm g) 0 (-1) r ∧ Ev (fun k => ratlineref10_Reach.f k g) r := by
  obtain ⟨r, hc, h1, h2⟩ := come_is (neat g hg) 0 (-1) (by omega)
  exact ⟨r, by rw [hc.1, norm_length], hc, Ev.bind (f := fun k t => (ratlineref10_from.f k t 0 (-1)).bind fun u => some u) (refNorm g hg) (Ev.bind (f := fun _ u => some u) h2 (Ev.now _))⟩

/-- A step of the graph. -/
def Eg (g : List (List Int)) (u v : Nat) : Prop := (v : Int) ∈ rd_L1 g (u : Int)
theorem eg_lt {g : List (List Int)} (hg : Neat g) {u v : Nat} (h : Eg g u v) : u < g.length ∧ v < g.length := by
  have h2 := row_pts hg _ _ h
  refine ⟨?_, by omega⟩
  unfold Eg rd_L1 at h
  rw [List.getD_eq_getElem?_getD] at h
  cases hx : g[u]? with
  | none => simp [hx] at h
  | some l => exact (List.getElem?_eq_some_iff.mp hx).1

/-! ### the order -/
def ParL (g : List (List Int)) : List Int → List Int → Prop
  | _, [] => True
  | seen, x :: l => (∃ u ∈ seen, x ∈ rd_L1 g u) ∧ ParL g (x :: seen) l
theorem parL_mono {g : List (List Int)} : ∀ (l seen seen' : List Int), (∀ x ∈ seen, x ∈ seen') → ParL g seen l → ParL g seen' l
  | [], _, _, _, _ => trivial
  | x :: l, seen, seen', hs, ⟨⟨u, hu, h⟩, h2⟩ => by
    refine ⟨⟨u, hs u hu, h⟩, parL_mono l (x :: seen) (x :: seen') ?_ h2⟩
    intro y hy
    rcases List.mem_cons.mp hy with hy | hy
    · simp [hy]
    · simp [hs y hy]
theorem parL_app {g : List (List Int)} : ∀ (l1 l2 seen seen2 : List Int), ParL g seen l1 → ParL g seen2 l2 → (∀ x ∈ seen2, x ∈ seen ∨ x ∈ l1) → ParL g seen (l1 ++ l2)
  | [], l2, seen, seen2, _, h2, hs => parL_mono l2 seen2 seen (fun x hx => by simpa using hs x hx) h2
  | x :: l1, l2, seen, seen2, ⟨h0, h1⟩, h2, hs => by
    refine ⟨h0, parL_app l1 l2 (x :: seen) seen2 h1 h2 ?_⟩
    intro y hy
    rcases hs y hy with h | h
    · exact .inl (by simp [h])
    · rcases List.mem_cons.mp h with h | h
      · exact .inl (by simp [h])
      · exact .inr h
theorem lv_ord {g : List (List Int)} (hg : Neat g) {a : Int} {i : Nat} {s s' : List Bool} {o o' : List Int} (h : Lv g a i s o o' s') : s.length = g.length →
    ∃ rest, o' = a :: rest ++ o ∧ (∀ q : Int, 0 ≤ q → q < (g.length : Int) → (rdOf false s' q = true ↔ rdOf false s q = true ∨ q ∈ rest)) ∧ rest.Nodup ∧ (∀ q ∈ rest, 0 ≤ q ∧ q < (g.length : Int) ∧ ¬ rdOf false s q = true) ∧
      ParL g [a] rest ∧ (∀ u ∈ rest, ∀ q ∈ rd_L1 g u, rdOf false s' q = true) ∧ (∀ j, i ≤ j → j < (rd_L1 g a).length → rdOf false s' (rd (rd_L1 g a) (j : Int)) = true) := by
  induction h with
  | fin h =>
    intro hs
    exact ⟨[], rfl, by simp, List.nodup_nil, by simp, trivial, by simp, fun j h1 h2 => by omega⟩
  | @skip a i s s' o o' h hq hr ih =>
    intro hs
    obtain ⟨rest, r1, r2, r3, r4, r5, r6, r7⟩ := ih hs
    refine ⟨rest, r1, r2, r3, r4, r5, r6, fun j h1 h2 => ?_⟩
    by_cases e : j = i
    · subst e
      obtain ⟨q0, q1⟩ := child_pts hg a h
      exact (r2 _ q0 q1).mpr (.inl hq)
    · exact r7 j (by omega) h2
  | @go a i s s1 s' o o1 o' h hq hc hr ih1 ih2 =>
    intro hs
    obtain ⟨q0, q1⟩ := child_pts hg a h
    obtain ⟨l1, _, _⟩ := lv_size hg hc (by simpa using hs)
    obtain ⟨rest1, a1, a2, a3, a4, a5, a6, a7⟩ := ih1 (by simpa using hs)
    obtain ⟨rest2, b1, b2, b3, b4, b5, b6, b7⟩ := ih2 l1
    generalize hx : rd (rd_L1 g a) (i : Int) = x at *
    have hxm : x ∈ rd_L1 g a := by
      rw [← hx, rdNat, List.getD_eq_getElem?_getD, List.getElem?_eq_getElem h]
      exact List.getElem_mem h
    have hset : ∀ q : Int, 0 ≤ q → q < (g.length : Int) → (rdOf false (s.set x.toNat true) q = true ↔ rdOf false s q = true ∨ q = x) := by
      intro q h0 h1
      simp only [rdOf, List.getD_eq_getElem?_getD, List.getElem?_set]
      by_cases e : q = x
      · subst e
        have : q.toNat < s.length := by omega
        simp [this]
      · have : ¬ x.toNat = q.toNat := by omega
        simp [e, this]
    have m1 : ∀ q : Int, 0 ≤ q → q < (g.length : Int) → (rdOf false s1 q = true ↔ rdOf false s q = true ∨ q = x ∨ q ∈ rest1) := by
      intro q h0 h1
      rw [a2 q h0 h1, hset q h0 h1, or_assoc]
    refine ⟨rest2 ++ x :: rest1, by rw [b1, a1]; simp, ?_, ?_, ?_, ?_, ?_, ?_⟩
    · intro q h0 h1
      rw [b2 q h0 h1, m1 q h0 h1]
      simp only [List.mem_append, List.mem_cons]
      constructor
      · rintro ((h | h | h) | h) <;> simp [h]
      · rintro (h | h | h | h) <;> simp [h]
    · rw [List.nodup_append]
      refine ⟨b3, List.nodup_cons.mpr ⟨fun hm => ?_, a3⟩, ?_⟩
      · exact (a4 x hm).2.2 ((hset x q0 q1).mpr (.inr rfl))
      · intro y hy z hz hyz
        subst hyz
        obtain ⟨y0, y1, y2⟩ := b4 y hy
        refine y2 ((m1 y y0 y1).mpr ?_)
        rcases List.mem_cons.mp hz with hz | hz
        · exact .inr (.inl hz)
        · exact .inr (.inr hz)
    · intro q hm
      rcases List.mem_append.mp hm with hm | hm
      · obtain ⟨y0, y1, y2⟩ := b4 q hm
        exact ⟨y0, y1, fun hh => y2 ((m1 q y0 y1).mpr (.inl hh))⟩
      · rcases List.mem_cons.mp hm with hm | hm
        · subst hm; exact ⟨q0, q1, hq⟩
        · obtain ⟨y0, y1, y2⟩ := a4 q hm
          exact ⟨y0, y1, fun hh => y2 ((hset q y0 y1).mpr (.inl hh))⟩
    · refine parL_app rest2 (x :: rest1) [a] [a] b5 ⟨⟨a, by simp, hxm⟩, parL_mono rest1 [x] [x, a] (by simp) a5⟩ (by simp)
    · intro u hu q hqm
      obtain ⟨y0, y1⟩ := row_pts hg u q hqm
      rcases List.mem_append.mp hu with hu | hu
      · exact b6 u hu q hqm
      · refine (b2 q y0 y1).mpr (.inl ?_)
        rcases List.mem_cons.mp hu with hu | hu
        · subst hu
          obtain ⟨j, hj, he⟩ := List.getElem_of_mem hqm
          have := a7 j (Nat.zero_le _) hj
          rw [rdNat, List.getD_eq_getElem?_getD, List.getElem?_eq_getElem hj] at this
          simpa [he] using this
        · exact a6 u hu q hqm
    · intro j h1 h2
      by_cases e : j = i
      · subst e
        rw [hx]
        refine (b2 x q0 q1).mpr (.inl ?_)
        exact (m1 x q0 q1).mpr (.inr (.inl rfl))
      · exact b7 j (by omega) h2
theorem parL_idx {g : List (List Int)} (L : List Int) (hn : L.Nodup) : ∀ (l pre seen : List Int), L = pre ++ l → (∀ x ∈ seen, x ∈ pre) → ParL g seen l → ∀ v ∈ l, ∃ u ∈ L, v ∈ rd_L1 g u ∧ L.idxOf u < L.idxOf v
  | [], _, _, _, _, _, v, hv => by cases hv
  | x :: l, pre, seen, he, hs, ⟨⟨u, hu, h⟩, h2⟩, v, hv => by
    rcases List.mem_cons.mp hv with hv | hv
    · subst hv
      have hup := hs u hu
      have hvn : v ∉ pre := by
        intro hm
        rw [he] at hn
        exact (List.nodup_append.mp hn).2.2 v hm v (by simp) rfl
      refine ⟨u, by rw [he]; simp [hup], h, ?_⟩
      rw [he, List.idxOf_append, if_pos hup, List.idxOf_append, if_neg hvn]
      have := List.idxOf_lt_length_iff.mpr hup
      omega
    · exact parL_idx L hn l (pre ++ [x]) (x :: seen) (by simp [he]) (by
        intro y hy
        rcases List.mem_cons.mp hy with hy | hy
        · simp [hy]
        · simp [hs y hy]) h2 v hv
theorem idx_map (o : List Int) (h : ∀ q ∈ o, 0 ≤ q) (u : Int) (hu : 0 ≤ u) : (o.map Int.toNat).idxOf u.toNat = o.idxOf u := by
  induction o with
  | nil => rfl
  | cons x l ih =>
    have hx := h x (by simp)
    have ih' := ih (fun q hq => h q (by simp [hq]))
    simp only [List.map_cons, List.idxOf_cons, ih']
    by_cases e : x = u
    · subst e; simp
    · have h1 : (x == u) = false := by simpa using e
      have h2 : (x.toNat == u.toNat) = false := by
        have : ¬ x.toNat = u.toNat := by omega
        simpa using this
      rw [h1, h2]
theorem ord_is {g : List (List Int)} (hg : Neat g) {o : List Int} (h0 : 0 < g.length) (h : Left g o) : Ord g.length (Eg g) (o.map Int.toNat) ∧ ∀ q ∈ o, 0 ≤ q ∧ q < (g.length : Int) := by
  rcases h with ⟨h, _⟩ | ⟨_, s, h⟩
  · omega
  · obtain ⟨rest, r1, r2, r3, r4, r5, r6, r7⟩ := lv_ord hg h (by simp)
    rw [List.append_nil] at r1
    have hz : rdOf false ((List.replicate g.length false).set 0 true) 0 = true := by
      simp [rdOf, List.getD_eq_getElem?_getD, List.getElem?_set, h0]
    have hpts : ∀ q ∈ o, 0 ≤ q ∧ q < (g.length : Int) := by
      intro q hq
      rw [r1] at hq
      rcases List.mem_cons.mp hq with hq | hq
      · subst hq; omega
      · exact ⟨(r4 q hq).1, (r4 q hq).2.1⟩
    have hnd : o.Nodup := by
      rw [r1]
      exact List.nodup_cons.mpr ⟨fun hm => (r4 0 hm).2.2 hz, r3⟩
    have hzero : ∀ q : Int, 0 ≤ q → q < (g.length : Int) → rdOf false ((List.replicate g.length false).set 0 true) q = true → q = 0 := by
      intro q h1 h2 h3
      by_cases e : q = 0
      · exact e
      · have : ¬ 0 = q.toNat := by omega
        simp [rdOf, List.getD_eq_getElem?_getD, List.getElem?_set, this, List.getElem?_replicate] at h3
        split at h3 <;> simp at h3
    refine ⟨⟨⟨rest.map Int.toNat, by rw [r1]; rfl⟩, ?_, ?_, ?_, ?_⟩, hpts⟩
    · have : ∀ (l : List Int), l.Nodup → (∀ q ∈ l, 0 ≤ q) → (l.map Int.toNat).Nodup := by
        intro l
        induction l with
        | nil => intro _ _; exact List.nodup_nil
        | cons x l ih =>
          intro hn hp
          obtain ⟨n1, n2⟩ := List.nodup_cons.mp hn
          refine List.nodup_cons.mpr ⟨fun hm => ?_, ih n2 (fun q hq => hp q (by simp [hq]))⟩
          obtain ⟨y, hy, hye⟩ := List.mem_map.mp hm
          have h1 := hp y (by simp [hy])
          have h2 := hp x (by simp)
          have : y = x := by omega
          subst this
          exact n1 hy
      exact this o hnd (fun q hq => (hpts q hq).1)
    · intro v hv
      obtain ⟨q, hq, rfl⟩ := List.mem_map.mp hv
      have := hpts q hq
      omega
    · intro v hv hv0
      obtain ⟨q, hq, rfl⟩ := List.mem_map.mp hv
      have hq0 := hpts q hq
      have hqr : q ∈ rest := by
        rw [r1] at hq
        rcases List.mem_cons.mp hq with hq | hq
        · subst hq; exact absurd rfl hv0
        · exact hq
      obtain ⟨u, hu, h1, h2⟩ := parL_idx o hnd rest [0] [0] (by rw [r1]; rfl) (by simp) r5 q hqr
      have hu0 := hpts u hu
      refine ⟨u.toNat, List.mem_map.mpr ⟨u, hu, rfl⟩, ?_, ?_⟩
      · unfold Eg
        rw [Int.toNat_of_nonneg hu0.1, Int.toNat_of_nonneg hq0.1]
        exact h1
      · rw [idx_map o (fun q hq => (hpts q hq).1) u hu0.1, idx_map o (fun q hq => (hpts q hq).1) q hq0.1]
        exact h2
    · intro u hu v e
      obtain ⟨q, hq, rfl⟩ := List.mem_map.mp hu
      have hq0 := hpts q hq
      unfold Eg at e
      rw [Int.toNat_of_nonneg hq0.1] at e
      obtain ⟨y0, y1⟩ := row_pts hg q _ e
      have hm : rdOf false s (v : Int) = true := by
        rw [r1] at hq
        rcases List.mem_cons.mp hq with hq | hq
        · subst hq
          obtain ⟨j, hj, he⟩ := List.getElem_of_mem e
          have := r7 j (Nat.zero_le _) hj
          rw [rdNat, List.getD_eq_getElem?_getD, List.getElem?_eq_getElem hj] at this
          simpa [he] using this
        · exact r6 q hq _ e
      refine List.mem_map.mpr ⟨(v : Int), ?_, by simp⟩
      rw [r1]
      rcases (r2 _ y0 y1).mp hm with h3 | h3
      · rw [hzero _ y0 y1 h3]; simp
      · simp [h3]

/-! ### those that lead to a point -/
theorem pin_mem (i x : Int) (k : Nat) : ∀ (l : List Int) (o : List (List Int)), (∀ q ∈ l, 0 ≤ q ∧ q < (o.length : Int)) → (x ∈ (pin i o l).getD k [] ↔ x ∈ o.getD k [] ∨ (x = i ∧ (k : Int) ∈ l))
  | [], o, h => by simp [pin]
  | q :: l, o, h => by
    have hq := h q (by simp)
    rw [pin, pin_mem i x k l _ (fun y hy => by simpa using h y (by simp [hy]))]
    have hs : (o.set q.toNat (o.getD q.toNat [] ++ [i])).getD k [] = if (k : Int) = q then o.getD k [] ++ [i] else o.getD k [] := by
      simp only [List.getD_eq_getElem?_getD, List.getElem?_set]
      by_cases e : (k : Int) = q
      · have e1 : q.toNat = k := by omega
        have e2 : k < o.length := by omega
        simp [e, e1, e2]
      · have e1 : ¬ q.toNat = k := by omega
        simp [e, e1]
    rw [hs]
    by_cases e : (k : Int) = q
    · simp only [e, if_true, List.mem_append, List.mem_cons, List.not_mem_nil, or_false]
      constructor
      · rintro ((h | h) | h)
        · exact .inl h
        · exact .inr ⟨h, .inl trivial⟩
        · exact .inr ⟨h.1, .inr h.2⟩
      · rintro (h | ⟨h, _⟩)
        · exact .inl (.inl h)
        · exact .inl (.inr h)
    · simp [e]
theorem pall_mem (x : Int) (k : Nat) : ∀ (g : List (List Int)) (i : Nat) (o : List (List Int)), (∀ l ∈ g, ∀ q ∈ l, 0 ≤ q ∧ q < (o.length : Int)) → (x ∈ (pall i o g).getD k [] ↔ x ∈ o.getD k [] ∨ ∃ j, j < g.length ∧ x = ((i + j : Nat) : Int) ∧ (k : Int) ∈ g.getD j [])
  | [], i, o, h => by simp [pall]
  | l :: g, i, o, h => by
    rw [pall, pall_mem x k g (i + 1) _ (fun l' hl' q hq => by rw [pin_len]; exact h l' (by simp [hl']) q hq), pin_mem _ x k l o (h l (by simp))]
    constructor
    · rintro ((h1 | ⟨h1, h2⟩) | ⟨j, h1, h2, h3⟩)
      · exact .inl h1
      · exact .inr ⟨0, by simp, by simpa using h1, by simpa using h2⟩
      · exact .inr ⟨j + 1, by simp; omega, by rw [h2]; congr 1; omega, by simpa using h3⟩
    · rintro (h1 | ⟨j, h1, h2, h3⟩)
      · exact .inl (.inl h1)
      · cases j with
        | zero => exact .inl (.inr ⟨by simpa using h2, by simpa using h3⟩)
        | succ j => exact .inr ⟨j, by simpa using h1, by rw [h2]; congr 1; omega, by simpa using h3⟩
/-- The points that lead to one, as the code's list has them. -/
def prs (p : List (List Int)) (k : Nat) : List Nat := (rd_L1 p (k : Int)).map Int.toNat
theorem preds_mem {g : List (List Int)} (hg : Neat g) (k : Nat) (x : Int) : x ∈ rd_L1 (pall 0 (List.replicate g.length []) g) (k : Int) ↔ 0 ≤ x ∧ Eg g x.toNat k := by
  rw [rdLNat, pall_mem x k g 0 _ (by simpa using hg.pts)]
  have hr : (List.replicate g.length ([] : List Int)).getD k [] = [] := by
    simp [List.getD_eq_getElem?_getD, List.getElem?_replicate]
    split <;> simp
  rw [hr]
  simp only [List.not_mem_nil, false_or, Nat.zero_add]
  constructor
  · rintro ⟨j, h1, h2, h3⟩
    subst h2
    refine ⟨by omega, ?_⟩
    unfold Eg
    rw [Int.toNat_natCast, rdLNat]
    exact h3
  · rintro ⟨h1, h2⟩
    have := (eg_lt hg h2).1
    refine ⟨x.toNat, this, by omega, ?_⟩
    unfold Eg at h2
    rw [rdLNat] at h2
    exact h2
theorem prs_mem {g : List (List Int)} (hg : Neat g) (k x : Nat) : x ∈ prs (pall 0 (List.replicate g.length []) g) k ↔ Eg g x k := by
  unfold prs
  rw [List.mem_map]
  constructor
  · rintro ⟨y, hy, rfl⟩
    exact ((preds_mem hg k y).mp hy).2
  · intro h
    exact ⟨(x : Int), (preds_mem hg k _).mpr ⟨by omega, by simpa using h⟩, by simp⟩

/-! ### what is come to -/
theorem scan_marks {b : Int} {n : Nat} : ∀ (l : List Int) (s : List Bool) (t : List Int), s.length = n → (∀ q ∈ l, 0 ≤ q ∧ q < (n : Int)) →
    (∀ q : Int, 0 ≤ q → q < (n : Int) → (rdOf false (scan b s t l).1 q = true ↔ rdOf false s q = true ∨ (q ∈ l ∧ q ≠ b))) ∧
    (∀ q : Int, q ∈ t → q ∈ (scan b s t l).2) ∧ (∀ q : Int, q ∈ (scan b s t l).2 → q ∈ t ∨ (q ∈ l ∧ q ≠ b)) ∧ (∀ q : Int, q ∈ l → q ≠ b → rdOf false s q = true ∨ q ∈ (scan b s t l).2)
  | [], s, t, hs, h => by simp [scan]
  | x :: l, s, t, hs, h => by
    obtain ⟨x0, x1⟩ := h x (by simp)
    simp only [scan]
    have hr : ∀ q ∈ l, 0 ≤ q ∧ q < (n : Int) := fun q hq => h q (by simp [hq])
    by_cases c : rdOf false s x = true ∨ x = b
    · rw [if_pos c]
      obtain ⟨a1, a2, a3, a4⟩ := scan_marks (b := b) l s t hs hr
      refine ⟨fun q h0 h1 => ?_, a2, fun q hq => ?_, fun q hq hb => ?_⟩
      · rw [a1 q h0 h1]
        constructor
        · rintro (h | ⟨h, h'⟩)
          · exact .inl h
          · exact .inr ⟨by simp [h], h'⟩
        · rintro (h | ⟨h, h'⟩)
          · exact .inl h
          · rcases List.mem_cons.mp h with h | h
            · subst h
              rcases c with c | c
              · exact .inl c
              · exact absurd c h'
            · exact .inr ⟨h, h'⟩
      · rcases a3 q hq with h | ⟨h, h'⟩
        · exact .inl h
        · exact .inr ⟨by simp [h], h'⟩
      · rcases List.mem_cons.mp hq with h | h
        · subst h
          rcases c with c | c
          · exact .inl c
          · exact absurd c hb
        · exact a4 q h hb
    · rw [if_neg c]
      obtain ⟨a1, a2, a3, a4⟩ := scan_marks (b := b) l (s.set x.toNat true) (t ++ [x]) (by simpa using hs) hr
      have hset : ∀ q : Int, 0 ≤ q → q < (n : Int) → (rdOf false (s.set x.toNat true) q = true ↔ rdOf false s q = true ∨ q = x) := by
        intro q h0 h1
        simp only [rdOf, List.getD_eq_getElem?_getD, List.getElem?_set]
        by_cases e : q = x
        · subst e
          have : q.toNat < s.length := by omega
          simp [this]
        · have : ¬ x.toNat = q.toNat := by omega
          simp [e, this]
      have hxb : x ≠ b := fun e => c (.inr e)
      refine ⟨fun q h0 h1 => ?_, fun q hq => a2 q (by simp [hq]), fun q hq => ?_, fun q hq hb => ?_⟩
      · rw [a1 q h0 h1, hset q h0 h1]
        constructor
        · rintro ((h | h) | ⟨h, h'⟩)
          · exact .inl h
          · subst h; exact .inr ⟨by simp, hxb⟩
          · exact .inr ⟨by simp [h], h'⟩
        · rintro (h | ⟨h, h'⟩)
          · exact .inl (.inl h)
          · rcases List.mem_cons.mp h with h | h
            · exact .inl (.inr h)
            · exact .inr ⟨h, h'⟩
      · rcases a3 q hq with h | ⟨h, h'⟩
        · rcases List.mem_append.mp h with h | h
          · exact .inl h
          · simp at h; subst h; exact .inr ⟨by simp, hxb⟩
        · exact .inr ⟨by simp [h], h'⟩
      · rcases List.mem_cons.mp hq with h | h
        · subst h; exact .inr (a2 q (by simp))
        · rcases a4 q h hb with h2 | h2
          · obtain ⟨q0, q1⟩ := hr q h
            rcases (hset q q0 q1).mp h2 with h3 | h3
            · exact .inl h3
            · subst h3; exact .inr (a2 q (by simp))
          · exact .inr h2
theorem run_marks {g : List (List Int)} (hg : Neat g) {b : Int} (P : Int → Prop) (hP : ∀ u, P u → ∀ q ∈ rd_L1 g u, q ≠ b → P q) {s r : List Bool} {t : List Int} (h : Run g b s t r) : s.length = g.length →
    (∀ q : Int, 0 ≤ q → q < (g.length : Int) → rdOf false s q = true → P q) → (∀ q ∈ t, rdOf false s q = true ∧ 0 ≤ q ∧ q < (g.length : Int)) → (∀ u : Int, 0 ≤ u → u < (g.length : Int) → rdOf false s u = true → u ∈ t ∨ ∀ q ∈ rd_L1 g u, q ≠ b → rdOf false s q = true) →
    (∀ q : Int, 0 ≤ q → q < (g.length : Int) → rdOf false s q = true → rdOf false r q = true) ∧ (∀ q : Int, 0 ≤ q → q < (g.length : Int) → rdOf false r q = true → P q) ∧ (∀ u : Int, 0 ≤ u → u < (g.length : Int) → rdOf false r u = true → ∀ q ∈ rd_L1 g u, q ≠ b → rdOf false r q = true) := by
  induction h with
  | done s =>
    intro hl hp ht hc
    refine ⟨fun q _ _ h => h, hp, fun u u0 u1 hu q hq hb => ?_⟩
    rcases hc u u0 u1 hu with h | h
    · cases h
    · exact h q hq hb
  | @next s s' r t t' p h0 h1 hs h ih =>
    intro hl hp ht hc
    obtain ⟨a1, a2, a3, a4⟩ := scan_marks (b := b) (n := g.length) (rd_L1 g p) s t hl (row_pts hg p)
    have e1 := congrArg Prod.fst hs
    have e2 := congrArg Prod.snd hs
    simp only at e1 e2
    rw [e1] at a1
    rw [e2] at a2 a3 a4
    have hl' : s'.length = g.length := by rw [← e1, scan_len]; exact hl
    have hpp : P p := hp p h0 h1 (ht p (by simp)).1
    obtain ⟨b1, b2, b3⟩ := ih hl' (by
      intro q q0 q1 hq
      rcases (a1 q q0 q1).mp hq with h2 | ⟨h2, h3⟩
      · exact hp q q0 q1 h2
      · exact hP p hpp q h2 h3) (by
      intro q hq
      rcases a3 q hq with h2 | ⟨h2, h3⟩
      · obtain ⟨c1, c2, c3⟩ := ht q (by simp [h2])
        exact ⟨(a1 q c2 c3).mpr (.inl c1), c2, c3⟩
      · obtain ⟨c2, c3⟩ := row_pts hg p q h2
        exact ⟨(a1 q c2 c3).mpr (.inr ⟨h2, h3⟩), c2, c3⟩) (by
      intro u u0 u1 hu
      by_cases hup : u = p
      · subst hup
        right
        intro q hq hb
        obtain ⟨c2, c3⟩ := row_pts hg u q hq
        exact (a1 q c2 c3).mpr (.inr ⟨hq, hb⟩)
      · rcases (a1 u u0 u1).mp hu with h2 | ⟨h2, h3⟩
        · rcases hc u u0 u1 h2 with h4 | h4
          · rcases List.mem_append.mp h4 with h4 | h4
            · exact .inl (a2 u h4)
            · simp at h4; exact absurd h4 hup
          · right
            intro q hq hb
            obtain ⟨c2, c3⟩ := row_pts hg u q hq
            exact (a1 q c2 c3).mpr (.inl (h4 q hq hb))
        · by_cases hus : rdOf false s u = true
          · rcases hc u u0 u1 hus with h4 | h4
            · rcases List.mem_append.mp h4 with h4 | h4
              · exact .inl (a2 u h4)
              · simp at h4; exact absurd h4 hup
            · right
              intro q hq hb
              obtain ⟨c2, c3⟩ := row_pts hg u q hq
              exact (a1 q c2 c3).mpr (.inl (h4 q hq hb))
          · rcases a4 u h2 h3 with h4 | h4
            · exact absurd h4 hus
            · exact .inl h4)
    exact ⟨fun q q0 q1 hq => b1 q q0 q1 ((a1 q q0 q1).mpr (.inl hq)), b2, b3⟩
/-- What is come to from 0 without a point is what Av says. -/
theorem come_av {g : List (List Int)} (hg : Neat g) {b : Int} {r : List Bool} (h0 : 0 < g.length) (h : Come g 0 b r) (v : Nat) (hv : v < g.length) : rdOf false r (v : Int) = true ↔ Av (Eg g) b v := by
  obtain ⟨hl, h | h⟩ := h
  · obtain ⟨h1, rfl⟩ := h
    have hb : (0 : Int) = b := by omega
    constructor
    · intro hh
      simp [rdOf, List.getD_eq_getElem?_getD, List.getElem?_replicate, hv] at hh
    · intro ha
      exfalso
      induction ha with
      | base h => exact h hb
      | step h e hv' ih => exact ih (eg_lt hg e).1
  · obtain ⟨h1, hr⟩ := h
    have hb : (0 : Int) ≠ b := by omega
    have hset : ∀ q : Int, 0 ≤ q → q < (g.length : Int) → (rdOf false ((List.replicate g.length false).set 0 true) q = true ↔ q = 0) := by
      intro q q0 q1
      simp only [rdOf, List.getD_eq_getElem?_getD, List.getElem?_set]
      by_cases e : q = 0
      · subst e; simp [h0]
      · have e1 : ¬ 0 = q.toNat := by omega
        have e2 : q.toNat < g.length := by omega
        simp [e, e1, e2, List.getElem?_replicate]
    have hr' : Run g b ((List.replicate g.length false).set 0 true) [0] r := hr
    obtain ⟨c1, c2, c3⟩ := run_marks hg (fun q => 0 ≤ q ∧ Av (Eg g) b q.toNat) (by
      rintro u ⟨hu0, hu⟩ q hq hqb
      obtain ⟨q0, q1⟩ := row_pts hg u q hq
      refine ⟨q0, .step hu ?_ (by omega)⟩
      unfold Eg
      rw [Int.toNat_of_nonneg q0, Int.toNat_of_nonneg hu0]
      exact hq) hr' (by simp) (by
      intro q q0 q1 hq
      have := (hset q q0 q1).mp hq
      subst this
      exact ⟨by omega, .base hb⟩) (by
      intro q hq
      simp at hq
      subst hq
      exact ⟨(hset 0 (by omega) (by omega)).mpr rfl, by omega, by omega⟩) (by
      intro u u0 u1 hu
      left
      have := (hset u u0 u1).mp hu
      simp [this])
    constructor
    · intro hh
      have := (c2 (v : Int) (by omega) (by omega) hh).2
      simpa using this
    · intro ha
      induction ha with
      | base h => exact c1 0 (by omega) (by omega) ((hset 0 (by omega) (by omega)).mpr rfl)
      | @step u v' h e hv' ih =>
        have hu := (eg_lt hg e).1
        exact c3 (u : Int) (by omega) (by omega) (ih hu) (v' : Int) e hv'

/-- A table as a function. -/
def fn (X : List Int) : Nat → Int := fun v => rd X (v : Int)
theorem fn_set {X : List Int} {k : Nat} (hk : k < X.length) (b : Int) : fn (X.set k b) = upd (fn X) k b := by
  funext v
  simp only [fn, upd, rd, List.getD_eq_getElem?_getD, List.getElem?_set, Int.toNat_natCast]
  by_cases e : v = k
  · subst e; simp [hk]
  · have : ¬ k = v := fun h => e h.symm
    simp [e, this]
/-- A list of ranks. -/
def Ranks (n : Nat) (o : List Nat) (R : List Int) : Prop := R.length = n ∧ ∀ v ∈ o, rd R (v : Int) = (o.idxOf v : Int)
theorem meet_l0 {n : Nat} {E : Nat → Nat → Prop} {o : List Nat} (O : Ord n E o) {X R : List Int} (hX : X.length = n) (hR : Ranks n o R) (I : Inv n E o (fn X)) {a b m : Nat} (h : Meet o (fn X) a b m) : a ∈ o → b ∈ o → Set (fn X) a → Set (fn X) b → Ev (fun k => graph_meet.l0 k X R (a : Int) (b : Int)) (m : Int) := by
  induction h with
  | done a =>
    intro ha hb sa sb
    refine Ev.step (fun k => ?_) (Ev.now _)
    rw [graph_meet.l0, if_pos rfl]
  | @second a b m hne hr h0 h ih =>
    intro ha hb sa sb
    have la := O.lt a ha
    have lb := O.lt b hb
    obtain ⟨_, p1, p2, p3, p4⟩ := I.pt b lb h0
    have e := ih p1 ha p3 sa
    have hv : rd X (b : Int) = (((fn X b).toNat : Nat) : Int) := by
      show fn X b = _
      omega
    refine Ev.step (fun k => ?_) e
    have hRl := hR.1
    rw [graph_meet.l0, if_neg (by omega), if_pos (by omega), if_pos (by omega), if_pos (by omega), if_pos (by omega), if_pos (by rw [hR.2 a ha, hR.2 b hb]; omega), if_pos (by omega), hv]
  | @first a b m hne hr h0 h ih =>
    intro ha hb sa sb
    have la := O.lt a ha
    have lb := O.lt b hb
    obtain ⟨_, p1, p2, p3, p4⟩ := I.pt a la h0
    have e := ih p1 hb p3 sb
    have hv : rd X (a : Int) = (((fn X a).toNat : Nat) : Int) := by
      show fn X a = _
      omega
    refine Ev.step (fun k => ?_) e
    have hRl := hR.1
    rw [graph_meet.l0, if_neg (by omega), if_pos (by omega), if_pos (by omega), if_pos (by omega), if_pos (by omega), if_neg (by rw [hR.2 a ha, hR.2 b hb]; omega), if_pos (by omega), hv]
/-- What stays the same through the passes. -/
structure Fix (g : List (List Int)) (ol : List Int) (R : List Int) (p : List (List Int)) : Prop where
  hg : Neat g
  O : Ord g.length (Eg g) (ol.map Int.toNat)
  pts : ∀ q ∈ ol, 0 ≤ q ∧ q < (g.length : Int)
  few : ol.length ≤ 100
  R : Ranks g.length (ol.map Int.toNat) R
  p : p = pall 0 (List.replicate g.length []) g
theorem p_len {g ol R p} (F : Fix g ol R p) : p.length = g.length := by rw [F.p, pall_len]; simp
theorem p_pts {g ol R p} (F : Fix g ol R p) (k : Nat) : ∀ x ∈ rd_L1 p (k : Int), 0 ≤ x ∧ x < (g.length : Int) := by
  intro x hx
  rw [F.p] at hx
  obtain ⟨h0, h1⟩ := (preds_mem F.hg k x).mp hx
  have := (eg_lt F.hg h1).1
  exact ⟨h0, by omega⟩
theorem p_short {g ol R p} (F : Fix g ol R p) (k : Nat) : (rd_L1 p (k : Int)).length ≤ 2400 := by
  have h := pall_lb g 0 0 (List.replicate g.length []) F.hg.short (by
    intro l hl
    rw [List.eq_of_mem_replicate hl]
    simp)
  rw [← F.p] at h
  have := F.hg.few
  unfold rd_L1
  rw [List.getD_eq_getElem?_getD]
  cases hx : p[(k : Int).toNat]? with
  | none => simp
  | some l =>
    have := h l (List.mem_of_getElem? hx)
    simp
    omega
theorem l4_is {g ol R p} (F : Fix g ol R p) {X : List Int} (hX : X.length = g.length) (I : Inv g.length (Eg g) (ol.map Int.toNat) (fn X)) (x6 : List Int) (x10 : Bool) (x52 : List Int) (x53 x54 : Int) (kk : Nat) (hk : kk < g.length) (r : List Int) (res : Int)
    (hlast : Ev (fun k => if rd X (kk : Int) = res then graph_doms.l3 k X R x6 p x10 x52 x53 (wrap64 (x54 + 1)) else graph_doms.l3 k (X.set kk res) R x6 p true x52 x53 (wrap64 (x54 + 1))) r) :
    ∀ (suf pre : List Int) (b : Int), rd_L1 p (kk : Int) = pre ++ suf → (b = -1 ∨ (0 ≤ b ∧ b.toNat ∈ ol.map Int.toNat ∧ Set (fn X) b.toNat)) → Best (ol.map Int.toNat) (fn X) b (suf.map Int.toNat) res →
      Ev (fun k => graph_doms.l4 k X R x6 p x10 (kk : Int) b x52 x53 x54 (rd_L1 p (kk : Int)) ((rd_L1 p (kk : Int)).length : Int) (pre.length : Int)) r
  | [], pre, b, he, hb, hB => by
    cases hB
    refine Ev.step (fun k => ?_) hlast
    rw [graph_doms.l4, if_neg (by rw [he]; simp), if_pos (by omega), if_pos (by omega)]
    simp
  | x :: suf, pre, b, he, hb, hB => by
    have hlen : (rd_L1 p (kk : Int)).length = pre.length + 1 + suf.length := by rw [he]; simp; omega
    have hsh := p_short F kk
    obtain ⟨x0, x1⟩ := p_pts F kk x (by rw [he]; simp)
    have h1 : ((pre.length : Nat) : Int) < ((rd_L1 p (kk : Int)).length : Int) := by omega
    have hx : rd (rd_L1 p (kk : Int)) (pre.length : Int) = x := by rw [he, rdAt]
    have ih := fun b' => l4_is F hX I x6 x10 x52 x53 x54 kk hk r res hlast suf (pre ++ [x]) b' (by simp [he])
    have hfx : fn X x.toNat = rd X x := by
      unfold fn
      rw [Int.toNat_of_nonneg x0]
    -- the test whether it is passed by
    have toj : ∀ (t : Bool), (t = true ↔ ¬ Set (fn X) x.toNat) → Ev (fun k => graph_doms.j5 k X R x6 p x10 (kk : Int) b x x52 x53 x54 (rd_L1 p (kk : Int)) ((rd_L1 p (kk : Int)).length : Int) (pre.length : Int) t) r →
        Ev (fun k => graph_doms.l4 k X R x6 p x10 (kk : Int) b x52 x53 x54 (rd_L1 p (kk : Int)) ((rd_L1 p (kk : Int)).length : Int) (pre.length : Int)) r := by
      intro t ht ej
      refine Ev.step (fun k => ?_) ej
      rw [graph_doms.l4, if_pos h1, if_pos (by omega), if_pos h1, hx]
      by_cases c : x = 0
      · rw [if_pos c]
        have : t = false := by
          cases t with
          | false => rfl
          | true => exact absurd (Or.inl (by omega)) (ht.mp rfl)
        rw [this]
      · rw [if_neg c, if_pos x0, if_pos (by omega)]
        congr 1
        have hS : Set (fn X) x.toNat ↔ 0 ≤ rd X x := by
          unfold Set
          rw [hfx]
          constructor
          · rintro (h | h)
            · omega
            · exact h
          · exact .inr
        cases t with
        | false =>
          have h2 : Set (fn X) x.toNat := by
            rcases Classical.em (Set (fn X) x.toNat) with h | h
            · exact h
            · have := ht.mpr h; cases this
          have := hS.mp h2
          simp; omega
        | true =>
          have h2 := ht.mp rfl
          rw [hS] at h2
          simp; omega
    have hw : wrap64 ((pre.length : Int) + 1) = (((pre ++ [x]).length : Nat) : Int) := by
      rw [w1 (by omega)]; simp
    cases hB with
    | skip hns hr =>
      refine toj true (by simp [hns]) ?_
      have := ih b hb hr
      refine Ev.step (fun k => ?_) this
      rw [graph_doms.j5, if_pos rfl, hw]
    | new hs hb0 hr =>
      refine toj false (by simp [hs]) ?_
      rw [Int.toNat_of_nonneg x0] at hr
      have xo : x.toNat ∈ ol.map Int.toNat := by
        rcases hs with hs | hs
        · rw [hs]; exact zero_in F.O
        · exact (I.pt x.toNat (by omega) hs).1
      have := ih x (.inr ⟨x0, xo, hs⟩) hr
      refine Ev.step (fun k => ?_) this
      rw [graph_doms.j5, if_neg (by simp), if_pos hb0, hw]
    | @meet _ _ _ m _ hs hb0 hm hr =>
      refine toj false (by simp [hs]) ?_
      have xo : x.toNat ∈ ol.map Int.toNat := by
        rcases hs with hs | hs
        · rw [hs]; exact zero_in F.O
        · exact (I.pt x.toNat (by omega) hs).1
      obtain ⟨hb1, hb2, hb3⟩ : 0 ≤ b ∧ b.toNat ∈ ol.map Int.toNat ∧ Set (fn X) b.toNat := by
        rcases hb with h | h
        · omega
        · exact h
      have em := meet_l0 F.O hX F.R I hm hb2 xo hb3 hs
      rw [Int.toNat_of_nonneg x0, Int.toNat_of_nonneg hb1] at em
      obtain ⟨m', m1, m2, m3, _⟩ := meet_is F.O I _ b.toNat x.toNat (Nat.le_refl _) hb2 xo hb3 hs
      have hmm := meet_det hm _ m1
      subst hmm
      have := ih (m : Int) (.inr ⟨by omega, by simpa using m2, by simpa using m3⟩) hr
      have e2 := Ev.bind (f := fun k t170 => graph_doms.l4 k X R x6 p x10 (kk : Int) t170 x52 x53 x54 (rd_L1 p (kk : Int)) ((rd_L1 p (kk : Int)).length : Int) (wrap64 ((pre.length : Int) + 1))) (show Ev (fun k => graph_meet.f k X R b x) (m : Int) from em) (by rw [hw]; exact this)
      refine Ev.step (fun k => ?_) e2
      rw [graph_doms.j5, if_neg (by simp), if_neg (by omega)]
theorem l3_is {g ol R p} (F : Fix g ol R p) (r : List Int) : ∀ (ks pre : List Int) (X : List Int) (ch ch' : Bool) (S' : Nat → Int) (pp : Nat), ol.drop 1 = pre ++ ks → X.length = g.length →
    PassR (ol.map Int.toNat) (prs p) (ks.map Int.toNat) (fn X) ch S' ch' → Mid g.length (Eg g) (ol.map Int.toNat) (fn X) pp (pre.length + 1) →
    (∀ X' : List Int, X'.length = g.length → fn X' = S' → Ev (fun k => graph_doms.l2 k X' R ol p ch') r) →
    Ev (fun k => graph_doms.l3 k X R ol p ch (ol.drop 1) ((ol.drop 1).length : Int) (pre.length : Int)) r
  | [], pre, X, ch, ch', S', pp, he, hX, hP, M, hk => by
    cases hP
    refine Ev.step (fun k => ?_) (hk X hX rfl)
    rw [graph_doms.l3, if_neg (by rw [he]; simp)]
  | x :: ks, pre, X, ch, ch', S', pp, he, hX, hP, M, hk => by
    have hlen : (ol.drop 1).length = pre.length + 1 + ks.length := by rw [he]; simp; omega
    have hdl : (ol.drop 1).length = ol.length - 1 := by simp
    have hfew := F.few
    have h1 : ((pre.length : Nat) : Int) < ((ol.drop 1).length : Int) := by omega
    have hx : rd (ol.drop 1) (pre.length : Int) = x := by rw [he, rdAt]
    have hxo : x ∈ ol := List.mem_of_mem_drop (i := 1) (by rw [he]; simp)
    obtain ⟨x0, x1⟩ := F.pts x hxo
    have hxk : x = ((x.toNat : Nat) : Int) := by omega
    have hpl := p_len F
    have hw : wrap64 ((pre.length : Int) + 1) = (((pre ++ [x]).length : Nat) : Int) := by
      rw [w1 (by omega)]; simp
    have hp : ∀ k ∈ ol.map Int.toNat, ∀ y, y ∈ prs p k ↔ Eg g y k := by
      intro k _ y
      rw [F.p]
      exact prs_mem F.hg k y
    have hxm : x.toNat ∈ ol.map Int.toNat := List.mem_map.mpr ⟨x, hxo, rfl⟩
    have hidx : (ol.map Int.toNat).idxOf x.toNat = pre.length + 1 := by
      have hs : ol.map Int.toNat = (ol.take 1 ++ pre).map Int.toNat ++ x.toNat :: ks.map Int.toNat := by
        rw [← List.map_cons, ← List.map_append, List.append_assoc, ← he, List.take_append_drop]
      have hl : ((ol.take 1 ++ pre).map Int.toNat).length = pre.length + 1 := by
        simp
        omega
      have hj : (ol.map Int.toNat)[pre.length + 1]? = some x.toNat := by
        rw [hs, List.getElem?_append_right (by omega), hl]
        simp
      obtain ⟨hlt, hge⟩ := List.getElem?_eq_some_iff.mp hj
      have := F.O.nodup.idxOf_getElem (pre.length + 1) hlt
      rw [hge] at this
      exact this
    obtain ⟨b, hb, hM⟩ := step_is F.O (prs p) hp (fun u v e => (eg_lt F.hg e).1) M hxm hidx (by omega)
    have ih := fun X' ch0 => l3_is F r ks (pre ++ [x]) X' ch0 ch' S' pp (by simp [he])
    have enter : ∀ res : Int, Best (ol.map Int.toNat) (fn X) (-1) (prs p x.toNat) res →
        Ev (fun k => if rd X x = res then graph_doms.l3 k X R ol p ch (ol.drop 1) ((ol.drop 1).length : Int) (wrap64 ((pre.length : Int) + 1)) else graph_doms.l3 k (X.set x.toNat res) R ol p true (ol.drop 1) ((ol.drop 1).length : Int) (wrap64 ((pre.length : Int) + 1))) r →
        Ev (fun k => graph_doms.l3 k X R ol p ch (ol.drop 1) ((ol.drop 1).length : Int) (pre.length : Int)) r := by
      intro res hB hl
      have := l4_is F hX M.inv ol ch (ol.drop 1) ((ol.drop 1).length : Int) (pre.length : Int) x.toNat (by omega) r res (by rw [← hxk]; exact hl) (rd_L1 p ((x.toNat : Nat) : Int)) [] (-1) rfl (.inl rfl) hB
      rw [← hxk] at this
      refine Ev.step (fun k => ?_) this
      rw [graph_doms.l3, if_pos h1, if_pos (by omega), if_pos h1, hx, if_pos x0, if_pos (by omega)]
      rfl
    have hfx : fn X x.toNat = rd X x := by
      unfold fn
      rw [← hxk]
    cases hP with
    | same hB hr =>
      have hbb := best_det hb _ hB
      subst hbb
      rw [upd_same] at hM
      have := ih X ch hX hr (by simpa using hM) hk
      refine enter _ hB ?_
      rw [hfx]
      simp only [if_true]
      rw [hw]
      exact this
    | @chg _ _ _ _ _ _ b' hB hne hr =>
      have hbb := best_det hb _ hB
      subst hbb
      have hX' : (X.set x.toNat b).length = g.length := by simpa using hX
      have hf := fn_set (X := X) (k := x.toNat) (by omega) b
      rw [← hf] at hr hM
      have := ih (X.set x.toNat b) true hX' hr (by simpa using hM) hk
      refine enter _ hB ?_
      rw [hfx] at hne
      simp only [hne, if_false]
      rw [hw]
      exact this
theorem l2_is {g ol R p} (F : Fix g ol R p) (T : Nat → Int) {S : Nat → Int} (h : LoopR (ol.map Int.toNat) (prs p) S T) : ∀ (X : List Int) (pp : Nat), X.length = g.length → fn X = S → Rdy g.length (Eg g) (ol.map Int.toNat) S pp →
    ∃ Y : List Int, Y.length = g.length ∧ fn Y = T ∧ Ev (fun k => graph_doms.l2 k X R ol p true) Y := by
  have hp : ∀ k ∈ ol.map Int.toNat, ∀ y, y ∈ prs p k ↔ Eg g y k := by
    intro k _ y
    rw [F.p]
    exact prs_mem F.hg k y
  have hne : 1 ≤ ol.length := by
    obtain ⟨t, ht⟩ := F.O.head
    have := congrArg List.length ht
    simp at this
    omega
  have enter : ∀ (X Y : List Int) (S S' : Nat → Int) (ch' : Bool) (pp : Nat), X.length = g.length → fn X = S → Rdy g.length (Eg g) (ol.map Int.toNat) S pp → PassR (ol.map Int.toNat) (prs p) ((ol.map Int.toNat).drop 1) S false S' ch' →
      (∀ X' : List Int, X'.length = g.length → fn X' = S' → Ev (fun k => graph_doms.l2 k X' R ol p ch') Y) → Ev (fun k => graph_doms.l2 k X R ol p true) Y := by
    intro X Y S S' ch' pp hX hf Rd hP hk
    subst hf
    rw [← List.map_drop] at hP
    have := l3_is F Y (ol.drop 1) [] X false ch' S' pp rfl hX hP ⟨Rd.inv, Rd.all, fun v hv h0 hlt => by
      have := rank_pos F.O hv h0
      simp at hlt
      omega⟩ hk
    refine Ev.step (fun k => ?_) this
    have hmn : mn 1 (ol.length : Int) = 1 := by
      unfold mn
      split <;> omega
    rw [graph_doms.l2, if_pos rfl, hmn, if_pos (by omega), if_pos (by omega)]
    rfl
  induction h with
  | @stop S S' h =>
    intro X pp hX hf Rd
    have hq := (pass_quiet h).2 rfl
    subst hq
    refine ⟨X, hX, hf, enter X X _ _ _ pp hX hf Rd h ?_⟩
    intro X' hX' hf'
    have : X' = X := by
      apply List.ext_getElem? 
      intro i
      have e : fn X' = fn X := by rw [hf', hf]
      have := congrFun e i
      simp only [fn, rd, List.getD_eq_getElem?_getD, Int.toNat_natCast] at this
      by_cases hi : i < g.length
      · rw [List.getElem?_eq_getElem (by omega), List.getElem?_eq_getElem (by omega)] at this ⊢
        simpa using this
      · rw [List.getElem?_eq_none (by omega), List.getElem?_eq_none (by omega)]
    subst this
    refine Ev.step (fun k => ?_) (Ev.now _)
    rw [graph_doms.l2, if_neg (by simp)]
  | @more S S' T h hr ih =>
    intro X pp hX hf Rd
    obtain ⟨S2, ch2, h2, R2⟩ := rdy_next F.O (prs p) hp (fun u v e => (eg_lt F.hg e).1) Rd
    obtain ⟨e1, e2⟩ := pass_det h _ _ h2
    subst e1
    subst e2
    -- the table behind this pass
    have hYs : ∃ X1 : List Int, X1.length = g.length ∧ fn X1 = S' := by
      have key : ∀ (ks : List Nat) (S : Nat → Int) (ch : Bool), (∃ X : List Int, X.length = g.length ∧ fn X = S) → (∀ k ∈ ks, k < g.length) → ∀ S' ch', PassR (ol.map Int.toNat) (prs p) ks S ch S' ch' → ∃ X1 : List Int, X1.length = g.length ∧ fn X1 = S' := by
        intro ks
        induction ks with
        | nil => intro S ch hx _ S' ch' hP; cases hP; exact hx
        | cons k ks ih =>
          intro S ch hx hk S' ch' hP
          cases hP with
          | same _ hr => exact ih S ch hx (fun k hk' => hk k (by simp [hk'])) _ _ hr
          | @chg _ _ _ _ _ _ b _ _ hr =>
            obtain ⟨X, hX, rfl⟩ := hx
            exact ih _ _ ⟨X.set k b, by simpa using hX, fn_set (by rw [hX]; exact hk k (by simp)) b⟩ (fun k hk' => hk k (by simp [hk'])) _ _ hr
      exact key _ S false ⟨X, hX, hf⟩ (fun k hk => F.O.lt k (List.mem_of_mem_drop hk)) _ _ h
    obtain ⟨X1, hX1, hf1⟩ := hYs
    obtain ⟨Y, y1, y2, y3⟩ := ih X1 (pp + 1) hX1 hf1 R2
    refine ⟨Y, y1, y2, enter X Y _ _ _ pp hX hf Rd h ?_⟩
    intro X' hX' hf'
    have : X' = X1 := by
      apply List.ext_getElem? 
      intro i
      have e : fn X' = fn X1 := by rw [hf', hf1]
      have := congrFun e i
      simp only [fn, rd, List.getD_eq_getElem?_getD, Int.toNat_natCast] at this
      by_cases hi : i < g.length
      · rw [List.getElem?_eq_getElem (by omega), List.getElem?_eq_getElem (by omega)] at this ⊢
        simpa using this
      · rw [List.getElem?_eq_none (by omega), List.getElem?_eq_none (by omega)]
    subst this
    exact y3
end Go.Proofs.Ytjflddnmkajleaa.Norm
