/- Plain laws of layer 10 that this claim reaches: the graph without doubles, ways, counts. -/
import Derived.Test.YtjflddnmkajleaaPGx41
namespace Go.Proofs.Ytjflddnmkajleaa.Norm
set_option linter.unusedVariables false
set_option linter.unusedSimpArgs false
open Go.RowKit Go.Proofs.Ytjflddnmkajleaa.PG Go.Proofs.YtjflddnmkajleaaW.PrintWords Go.Proofs.YtjflddnmkajleaaW.PrintLast

theorem w1 {n : Nat} (h : n < 100000000000000) : wrap64 ((n : Int) + 1) = ((n + 1 : Nat) : Int) := by
  unfold wrap64
  omega
theorem rdAt (pre : List Int) (q : Int) (suf : List Int) : rd (pre ++ q :: suf) (pre.length : Int) = q := by
  simp [rd, List.getD]
theorem rdAtL (pre : List (List Int)) (q : List Int) (suf : List (List Int)) : rd_L1 (pre ++ q :: suf) (pre.length : Int) = q := by
  simp [rd_L1, List.getD]
theorem rdLNat (l : List (List Int)) (i : Nat) : rd_L1 l (i : Int) = l.getD i [] := by simp [rd_L1]

/-- A row without what is no point and without doubles, behind what is there. -/
def nrow (n : Nat) : List Int → List Int → List Int
  | acc, [] => acc
  | acc, q :: l => if 0 ≤ q ∧ q < (n : Int) ∧ q ∉ acc then nrow n (acc ++ [q]) l else nrow n acc l
def norm (g : List (List Int)) : List (List Int) := g.map (nrow g.length [])

theorem nrow_len (n : Nat) : ∀ (l acc : List Int), (nrow n acc l).length ≤ acc.length + l.length
  | [], acc => by simp [nrow]
  | q :: l, acc => by
    simp only [nrow]
    split
    · have := nrow_len n l (acc ++ [q]); simp at this ⊢; omega
    · have := nrow_len n l acc; simp; omega
theorem nrow_in (n : Nat) : ∀ (l acc : List Int), (∀ q ∈ acc, 0 ≤ q ∧ q < (n : Int)) → ∀ q ∈ nrow n acc l, 0 ≤ q ∧ q < (n : Int)
  | [], acc, h => by simpa [nrow] using h
  | q :: l, acc, h => by
    simp only [nrow]
    split
    · rename_i hq
      refine nrow_in n l (acc ++ [q]) ?_
      intro x hx
      rcases List.mem_append.mp hx with hx | hx
      · exact h x hx
      · simp at hx; subst hx; exact ⟨hq.1, hq.2.1⟩
    · exact nrow_in n l acc h

theorem has_l0 (x : Int) : ∀ (suf pre : List Int), pre.length + suf.length < 1000000 → x ∉ pre → Ev (fun k => ratlineref10_has.l0 k (pre ++ suf) x (pre.length : Int)) (decide (x ∈ pre ++ suf))
  | [], pre, h, hx => by
    refine Ev.step (fun k => ?_) (Ev.now _)
    rw [ratlineref10_has.l0, if_neg (by simp)]
    simp [hx]
  | q :: suf, pre, h, hx => by
    simp only [List.length_cons] at h
    have h1 : ((pre.length : Nat) : Int) < ((pre ++ q :: suf).length : Int) := by simp; omega
    by_cases hq : q = x
    · refine Ev.step (fun k => ?_) (Ev.now _)
      rw [ratlineref10_has.l0, if_pos h1, if_pos (by omega), if_pos (by rw [rdAt]; exact hq)]
      simp [hq]
    · have := has_l0 x suf (pre ++ [q]) (by simp; omega) (by simp [hx]; exact fun h => hq h.symm)
      rw [show decide (x ∈ pre ++ q :: suf) = decide (x ∈ (pre ++ [q]) ++ suf) by simp]
      refine Ev.step (fun k => ?_) this
      rw [ratlineref10_has.l0, if_pos h1, if_pos (by omega), if_neg (by rw [rdAt]; exact hq), w1 (by omega)]
      simp
theorem has (l : List Int) (x : Int) (h : l.length < 1000000) : Ev (fun k => ratlineref10_has.f k l x) (decide (x ∈ l)) :=
  has_l0 x l [] (by simpa using h) (by simp)
/-- Small: as the law's own test has it. -/
def Small (g : List (List Int)) : Prop := g.length ≤ 40 ∧ ∀ l ∈ g, l.length ≤ 60
theorem few_l0 : ∀ (suf pre : List (List Int)), pre.length + suf.length ≤ 40 → Ev (fun k => ratlinelaw10_few.l0 k (pre ++ suf) (pre.length : Int)) (decide (∀ l ∈ suf, l.length ≤ 60))
  | [], pre, h => by
    refine Ev.step (fun k => ?_) (Ev.now _)
    rw [ratlinelaw10_few.l0, if_neg (by simp)]
    simp
  | q :: suf, pre, h => by
    simp only [List.length_cons] at h
    have h1 : ((pre.length : Nat) : Int) < ((pre ++ q :: suf).length : Int) := by simp; omega
    by_cases hq : q.length ≤ 60
    · have := few_l0 suf (pre ++ [q]) (by simp; omega)
      rw [show decide (∀ l ∈ q :: suf, l.length ≤ 60) = decide (∀ l ∈ suf, l.length ≤ 60) by simp [hq]]
      refine Ev.step (fun k => ?_) this
      rw [ratlinelaw10_few.l0, if_pos h1, if_pos (by omega), if_neg (by rw [rdAtL]; omega), w1 (by omega)]
      simp
    · refine Ev.step (fun k => ?_) (Ev.now _)
      rw [ratlinelaw10_few.l0, if_pos h1, if_pos (by omega), if_pos (by rw [rdAtL]; omega)]
      simp [hq]
theorem few (g : List (List Int)) : (Small g ∧ Ev (fun k => ratlinelaw10_few.f k g) true) ∨ Ev (fun k => ratlinelaw10_few.f k g) false := by
  by_cases h : g.length ≤ 40
  · have e := few_l0 g [] (by simpa using h)
    have e2 : Ev (fun k => ratlinelaw10_few.f k g) (decide (∀ l ∈ g, l.length ≤ 60)) := by
      refine Ev.congr (fun k => ?_) e
      simp only [ratlinelaw10_few.f]
      rw [if_neg (by omega)]
      rfl
    by_cases hs : ∀ l ∈ g, l.length ≤ 60
    · left; rw [decide_eq_true hs] at e2; exact ⟨⟨h, hs⟩, e2⟩
    · right; rw [decide_eq_false hs] at e2; exact e2
  · right
    refine Ev.congr (fun k => ?_) (Ev.now false)
    simp only [ratlinelaw10_few.f]
    rw [if_pos (by omega)]

theorem clean_l1 (n : Nat) (hn : n ≤ 40) (x0 x15 : List (List Int)) (x16 : Int) (h0 : x0.length = n) (dn : List (List Int)) (rest : List (List Int)) (hd : (dn.length + 1 + rest.length) = n) (r : List (List Int)) (x17 : Int) :
    ∀ (suf pre acc last : List Int), pre.length + suf.length ≤ 60 → acc.length ≤ pre.length → last.length = n →
      (∀ q : Int, 0 ≤ q → q < (n : Int) → (rd last q = ((dn.length + 1 : Nat) : Int) ↔ q ∈ acc)) → (∀ q : Int, 0 ≤ q → q < (n : Int) → rd last q ≤ ((dn.length + 1 : Nat) : Int)) →
      (∀ last' : List Int, last'.length = n → (∀ q : Int, 0 ≤ q → q < (n : Int) → rd last' q ≤ ((dn.length + 1 : Nat) : Int)) → Ev (fun k => graph_clean.l0 k x0 (dn ++ nrow n acc suf :: rest) last' x15 x16 (wrap64 (x17 + 1))) r) →
      Ev (fun k => graph_clean.l1 k x0 (dn ++ acc :: rest) last (dn.length : Int) x15 x16 x17 (pre ++ suf) ((pre ++ suf).length : Int) (pre.length : Int)) r
  | [], pre, acc, last, hl, ha, hll, hla, hlb, hk => by
    refine Ev.step (fun k => ?_) (hk last hll hlb)
    rw [graph_clean.l1, if_neg (by simp)]
    rfl
  | q :: suf, pre, acc, last, hl, ha, hll, hla, hlb, hk => by
    simp only [List.length_cons] at hl
    have h1 : ((pre.length : Nat) : Int) < ((pre ++ q :: suf).length : Int) := by simp; omega
    have ih := fun acc' last' => clean_l1 n hn x0 x15 x16 h0 dn rest hd r x17 suf (pre ++ [q]) acc' last' (by simp; omega)
    have skip : ¬ (0 ≤ q ∧ q < (n : Int) ∧ q ∉ acc) → Ev (fun k => graph_clean.l1 k x0 (dn ++ acc :: rest) last (dn.length : Int) x15 x16 x17 (pre ++ q :: suf) ((pre ++ q :: suf).length : Int) (wrap64 ((pre.length : Int) + 1))) r := by
      intro hno
      have hk' := hk
      simp only [nrow] at hk'
      simp only [if_neg hno] at hk'
      have := ih acc last (by simp; omega) hll hla hlb hk'
      rw [w1 (by omega)]
      simpa using this
    by_cases c1 : rd (pre ++ q :: suf) (pre.length : Int) ≥ 0
    · have c1' := c1
      rw [rdAt] at c1'
      by_cases c2 : rd (pre ++ q :: suf) (pre.length : Int) < (x0.length : Int)
      · have c2' := c2
        rw [rdAt] at c2'
        have cl : rd (pre ++ q :: suf) (pre.length : Int) < (last.length : Int) := by rw [rdAt]; omega
        by_cases c3 : rd last q = ((dn.length + 1 : Nat) : Int)
        · refine Ev.step (fun k => ?_) (skip ?_)
          · rw [graph_clean.l1, if_pos h1, if_pos (by omega), if_pos h1, if_pos c1, if_pos c2, if_pos c1, if_pos cl, if_pos (by rw [rdAt, c3, w1 (by omega)])]
          · have := (hla q c1' (by omega)).mp c3
            intro hh; exact hh.2.2 this
        · have hq : 0 ≤ q ∧ q < (n : Int) ∧ q ∉ acc := ⟨c1', by omega, fun hm => c3 ((hla q c1' (by omega)).mpr hm)⟩
          have hk' := hk
          simp only [nrow] at hk'
          simp only [if_pos hq] at hk'
          have hset : ∀ p : Int, 0 ≤ p → p < (n : Int) → rd (last.set q.toNat ((dn.length + 1 : Nat) : Int)) p = if p = q then ((dn.length + 1 : Nat) : Int) else rd last p := by
            intro p hp hpn
            simp only [rd, List.getD_eq_getElem?_getD, List.getElem?_set]
            by_cases hpq : p = q
            · subst hpq
              have : p.toNat < last.length := by omega
              simp [this]
            · have : ¬ q.toNat = p.toNat := by omega
              simp [hpq, this]
          have := ih (acc ++ [q]) (last.set q.toNat ((dn.length + 1 : Nat) : Int)) (by simp; omega) (by simpa using hll) (by
            intro p hp hpn
            rw [hset p hp hpn]
            by_cases hpq : p = q
            · simp [hpq]
            · simp only [hpq, if_false, List.mem_append, List.mem_singleton, or_false]
              exact hla p hp hpn) (by
            intro p hp hpn
            rw [hset p hp hpn]
            split
            · exact Int.le_refl _
            · exact hlb p hp hpn) hk'
          refine Ev.step (fun k => ?_) this
          rw [graph_clean.l1, if_pos h1, if_pos (by omega), if_pos h1, if_pos c1, if_pos c2, if_pos c1, if_pos cl, if_neg (by rw [rdAt, w1 (by omega)]; exact c3), if_pos (by omega), if_pos (by simp; omega), if_pos (by rw [rdAtL]; omega)]
          rw [rdAtL, rdAt, w1 (by omega), w1 (by omega)]
          simp
      · refine Ev.step (fun k => ?_) (skip ?_)
        · rw [graph_clean.l1, if_pos h1, if_pos (by omega), if_pos h1, if_pos c1, if_neg c2]
        · rw [rdAt] at c2
          omega
    · refine Ev.step (fun k => ?_) (skip ?_)
      · rw [graph_clean.l1, if_pos h1, if_pos (by omega), if_pos h1, if_neg c1]
      · rw [rdAt] at c1
        omega

theorem clean_l0 (g : List (List Int)) (hg : Small g) : ∀ (suf pre : List (List Int)) (last : List Int), g = pre ++ suf → last.length = g.length →
      (∀ q : Int, 0 ≤ q → q < (g.length : Int) → rd last q ≤ (pre.length : Int)) →
      Ev (fun k => graph_clean.l0 k g (pre.map (nrow g.length []) ++ List.replicate suf.length []) last g (g.length : Int) (pre.length : Int)) (norm g)
  | [], pre, last, he, hll, hlb => by
    refine Ev.step (fun k => ?_) (Ev.now _)
    simp only [List.append_nil] at he
    subst he
    rw [graph_clean.l0, if_neg (by omega)]
    simp [norm]
  | l :: suf, pre, last, he, hll, hlb => by
    have hlen : g.length = pre.length + 1 + suf.length := by rw [he]; simp; omega
    have hs := hg.1
    have hl : l.length ≤ 60 := hg.2 l (by rw [he]; simp)
    have key := clean_l1 g.length hg.1 g g (g.length : Int) rfl (pre.map (nrow g.length [])) (List.replicate suf.length []) (by simp; omega) (norm g) (pre.length : Int) l [] [] last (by simpa using hl) (by simp) hll
      (by
        intro q h0 h1
        have := hlb q h0 h1
        simp only [List.length_map, List.not_mem_nil, iff_false]
        omega)
      (by
        intro q h0 h1
        have := hlb q h0 h1
        simp only [List.length_map]
        omega)
      (by
        intro last' hl' hb'
        have := clean_l0 g hg suf (pre ++ [l]) last' (by rw [he]; simp) hl' (by
          intro q h0 h1
          have := hb' q h0 h1
          simpa using this)
        rw [w1 (by omega)]
        simpa using this)
    refine Ev.step (fun k => ?_) key
    have hx : ((pre.length : Nat) : Int) < (g.length : Int) := by omega
    rw [graph_clean.l0, if_pos hx, if_pos (by omega), if_pos hx]
    have hrow : rd_L1 g (pre.length : Int) = l := by rw [he, rdAtL]
    rw [hrow]
    simp [List.replicate_succ]
theorem clean (g : List (List Int)) (hg : Small g) : Ev (fun k => graph_clean.f k g) (norm g) := by
  have := clean_l0 g hg g [] (List.replicate g.length 0) rfl (by simp) (by
    intro q h0 h1
    simp [rd, List.getD_eq_getElem?_getD, List.getElem?_replicate]
    split <;> simp)
  refine Ev.congr (fun k => ?_) this
  have hs := hg.1
  simp only [graph_clean.f]
  rw [if_pos (by omega), if_pos (by omega), if_pos (by omega)]
  simp

theorem norm_l1 (n : Nat) (hn : n ≤ 40) (x0 : List (List Int)) (h0 : x0.length = n) (row : List Int) (dn : List (List Int)) (rest : List (List Int)) (hd : (dn.length + 1 + rest.length) = n) (hrow : rd_L1 x0 (dn.length : Int) = row) (hrl : row.length ≤ 60) (r : List (List Int)) :
    ∀ (suf pre acc : List Int), row = pre ++ suf → acc.length ≤ pre.length →
      (Ev (fun k => ratlineref10_Norm.l0 k x0 (dn ++ nrow n acc suf :: rest) (wrap64 ((dn.length : Int) + 1))) r) →
      Ev (fun k => ratlineref10_Norm.l1 k x0 (dn ++ acc :: rest) (dn.length : Int) (pre.length : Int)) r
  | [], pre, acc, he, ha, hk => by
    refine Ev.step (fun k => ?_) hk
    rw [ratlineref10_Norm.l1, if_pos (by omega), if_pos (by omega), if_neg (by rw [hrow, he]; simp)]
    rfl
  | q :: suf, pre, acc, he, ha, hk => by
    have hlen : row.length = pre.length + 1 + suf.length := by rw [he]; simp; omega
    have h1 : ((pre.length : Nat) : Int) < ((rd_L1 x0 (dn.length : Int)).length : Int) := by rw [hrow]; omega
    have hq : rd (rd_L1 x0 (dn.length : Int)) (pre.length : Int) = q := by rw [hrow, he, rdAt]
    have ih := fun acc' h => norm_l1 n hn x0 h0 row dn rest hd hrow hrl r suf (pre ++ [q]) acc' (by simp [he]) h
    have skip : ¬ (0 ≤ q ∧ q < (n : Int) ∧ q ∉ acc) → Ev (fun k => ratlineref10_Norm.l1 k x0 (dn ++ acc :: rest) (dn.length : Int) (wrap64 ((pre.length : Int) + 1))) r := by
      intro hno
      have hk' := hk
      simp only [nrow] at hk'
      simp only [if_neg hno] at hk'
      have := ih acc (by simp; omega) hk'
      rw [w1 (by omega)]
      simpa using this
    by_cases c1 : q < 0
    · refine Ev.step (fun k => ?_) (skip (by omega))
      rw [ratlineref10_Norm.l1, if_pos (by omega), if_pos (by omega), if_pos h1, if_pos (by omega), if_pos (by rw [hq]; exact c1)]
    · by_cases c2 : q ≥ (n : Int)
      · refine Ev.step (fun k => ?_) (skip (by omega))
        rw [ratlineref10_Norm.l1, if_pos (by omega), if_pos (by omega), if_pos h1, if_pos (by omega), if_neg (by rw [hq]; exact c1), if_pos (by rw [hq]; omega)]
      · have hh := PG.ratlineref10_has.mono
        have hhas := has acc q (by omega)
        by_cases c3 : q ∈ acc
        · rw [decide_eq_true c3] at hhas
          have := Ev.bind (f := fun k t => if t = true then (ratlineref10_Norm.l1 k x0 (dn ++ acc :: rest) (dn.length : Int) (wrap64 ((pre.length : Int) + 1))) else (if acc.length < 17592186044416 then (ratlineref10_Norm.l1 k x0 ((dn ++ acc :: rest).set ((dn.length : Int)).toNat (acc ++ [q])) (dn.length : Int) (wrap64 ((pre.length : Int) + 1))) else none)) hhas (by simpa using skip (fun h => h.2.2 c3))
          refine Ev.step (fun k => ?_) this
          rw [ratlineref10_Norm.l1, if_pos (by omega), if_pos (by omega), if_pos h1, if_pos (by omega), if_neg (by rw [hq]; exact c1), if_neg (by rw [hq]; omega), if_pos (by simp; omega), hq, rdAtL]
        · rw [decide_eq_false c3] at hhas
          have hyes : 0 ≤ q ∧ q < (n : Int) ∧ q ∉ acc := ⟨by omega, by omega, c3⟩
          have hk' := hk
          simp only [nrow] at hk'
          simp only [if_pos hyes] at hk'
          have go := ih (acc ++ [q]) (by simp; omega) hk'
          have := Ev.bind (f := fun k t => if t = true then (ratlineref10_Norm.l1 k x0 (dn ++ acc :: rest) (dn.length : Int) (wrap64 ((pre.length : Int) + 1))) else (if acc.length < 17592186044416 then (ratlineref10_Norm.l1 k x0 ((dn ++ acc :: rest).set ((dn.length : Int)).toNat (acc ++ [q])) (dn.length : Int) (wrap64 ((pre.length : Int) + 1))) else none)) hhas (by
            rw [w1 (by omega)]
            have ha2 : acc.length < 17592186044416 := by omega
            simpa [ha2] using go)
          refine Ev.step (fun k => ?_) this
          rw [ratlineref10_Norm.l1, if_pos (by omega), if_pos (by omega), if_pos h1, if_pos (by omega), if_neg (by rw [hq]; exact c1), if_neg (by rw [hq]; omega), if_pos (by simp; omega), hq, rdAtL]
theorem norm_l0 (g : List (List Int)) (hg : Small g) : ∀ (suf pre : List (List Int)), g = pre ++ suf →
      Ev (fun k => ratlineref10_Norm.l0 k g (pre.map (nrow g.length []) ++ List.replicate suf.length []) (pre.length : Int)) (norm g)
  | [], pre, he => by
    refine Ev.step (fun k => ?_) (Ev.now _)
    simp only [List.append_nil] at he
    subst he
    rw [ratlineref10_Norm.l0, if_neg (by omega)]
    simp [norm]
  | l :: suf, pre, he => by
    have hlen : g.length = pre.length + 1 + suf.length := by rw [he]; simp; omega
    have hs := hg.1
    have hl : l.length ≤ 60 := hg.2 l (by rw [he]; simp)
    have hrow : rd_L1 g (pre.length : Int) = l := by rw [he, rdAtL]
    have key := norm_l1 g.length hg.1 g rfl l (pre.map (nrow g.length [])) (List.replicate suf.length []) (by simp; omega) (by simpa using hrow) hl (norm g) l [] [] rfl (by simp)
      (by
        have := norm_l0 g hg suf (pre ++ [l]) (by rw [he]; simp)
        simp only [List.length_map]
        rw [w1 (by omega)]
        simpa using this)
    refine Ev.step (fun k => ?_) key
    have hx : ((pre.length : Nat) : Int) < (g.length : Int) := by omega
    rw [ratlineref10_Norm.l0, if_pos hx]
    simp [List.replicate_succ]
theorem refNorm (g : List (List Int)) (hg : Small g) : Ev (fun k => ratlineref10_Norm.f k g) (norm g) := by
  have := norm_l0 g hg g [] rfl
  refine Ev.congr (fun k => ?_) this
  have hs := hg.1
  simp only [ratlineref10_Norm.f]
  rw [if_pos (by omega), if_pos (by omega)]
  simp

/-- What a graph without strange points is. -/
structure Neat (g : List (List Int)) : Prop where
  few : g.length ≤ 40
  short : ∀ l ∈ g, l.length ≤ 60
  pts : ∀ l ∈ g, ∀ q ∈ l, 0 ≤ q ∧ q < (g.length : Int)
theorem norm_length (g : List (List Int)) : (norm g).length = g.length := by simp [norm]
theorem neat (g : List (List Int)) (hg : Small g) : Neat (norm g) := by
  refine ⟨by rw [norm_length]; exact hg.1, ?_, ?_⟩
  · intro l hl
    simp only [norm, List.mem_map] at hl
    obtain ⟨l', h', rfl⟩ := hl
    have := nrow_len g.length l' []
    have := hg.2 l' h'
    simp at *
    omega
  · intro l hl q hq
    rw [norm_length]
    simp only [norm, List.mem_map] at hl
    obtain ⟨l', h', rfl⟩ := hl
    exact nrow_in g.length l' [] (by simp) q hq

/-- One point's list gone through: what is new is marked and put behind. -/
def scan (b : Int) : List Bool → List Int → List Int → List Bool × List Int
  | s, t, [] => (s, t)
  | s, t, q :: l => if rdOf false s q = true ∨ q = b then scan b s t l else scan b (s.set q.toNat true) (t ++ [q]) l
/-- The rounds of a search, last in first out. -/
inductive Run (g : List (List Int)) (b : Int) : List Bool → List Int → List Bool → Prop
  | done (s : List Bool) : Run g b s [] s
  | next {s s' r : List Bool} {t t' : List Int} {p : Int} (h0 : 0 ≤ p) (h1 : p < (g.length : Int)) (hs : scan b s t (rd_L1 g p) = (s', t')) (h : Run g b s' t' r) : Run g b s (t ++ [p]) r
def unseen (s : List Bool) : Nat := s.count false
theorem set_unseen {s : List Bool} {q : Nat} (h : q < s.length) (hq : s.getD q false = false) : unseen (s.set q true) + 1 = unseen s := by
  have hx : s[q] = false := by
    rw [List.getD_eq_getElem?_getD, List.getElem?_eq_getElem h] at hq
    simpa using hq
  have hm : 0 < s.count false := List.count_pos_iff.mpr (hx ▸ List.getElem_mem h)
  unfold unseen
  rw [List.count_set h]
  simp [hx]
  omega
theorem scan_len (b : Int) : ∀ (l : List Int) (s : List Bool) (t : List Int), (scan b s t l).1.length = s.length
  | [], s, t => rfl
  | q :: l, s, t => by
    simp only [scan]
    split
    · exact scan_len b l s t
    · rw [scan_len b l]; simp
theorem scan_size (b : Int) : ∀ (l : List Int) (s : List Bool) (t : List Int), (∀ q ∈ l, 0 ≤ q ∧ q < (s.length : Int)) → (scan b s t l).2.length + unseen (scan b s t l).1 = t.length + unseen s
  | [], s, t, h => rfl
  | q :: l, s, t, h => by
    simp only [scan]
    split
    · exact scan_size b l s t (fun x hx => h x (by simp [hx]))
    · rename_i hq
      have hh := h q (by simp)
      rw [scan_size b l _ _ (fun x hx => by simpa using h x (by simp [hx]))]
      have : unseen (s.set q.toNat true) + 1 = unseen s := set_unseen (by omega) (by
        have : ¬ rdOf false s q = true := fun e => hq (.inl e)
        simpa [rdOf] using this)
      simp; omega
theorem scan_le (b : Int) : ∀ (l : List Int) (s : List Bool) (t : List Int), (∀ q ∈ l, 0 ≤ q ∧ q < (s.length : Int)) → unseen (scan b s t l).1 ≤ unseen s
  | [], s, t, h => Nat.le_refl _
  | q :: l, s, t, h => by
    simp only [scan]
    split
    · exact scan_le b l s t (fun x hx => h x (by simp [hx]))
    · rename_i hq
      have hh := h q (by simp)
      have := scan_le b l (s.set q.toNat true) (t ++ [q]) (fun x hx => by simpa using h x (by simp [hx]))
      have : unseen (s.set q.toNat true) + 1 = unseen s := set_unseen (by omega) (by
        have : ¬ rdOf false s q = true := fun e => hq (.inl e)
        simpa [rdOf] using this)
      omega
theorem scan_pts (b : Int) (n : Int) : ∀ (l : List Int) (s : List Bool) (t : List Int), (∀ q ∈ l, 0 ≤ q ∧ q < n) → (∀ q ∈ t, 0 ≤ q ∧ q < n) → ∀ q ∈ (scan b s t l).2, 0 ≤ q ∧ q < n
  | [], s, t, h, ht => ht
  | q :: l, s, t, h, ht => by
    simp only [scan]
    split
    · exact scan_pts b n l s t (fun x hx => h x (by simp [hx])) ht
    · refine scan_pts b n l _ _ (fun x hx => h x (by simp [hx])) ?_
      intro x hx
      rcases List.mem_append.mp hx with hx | hx
      · exact ht x hx
      · simp at hx; subst hx; exact h x (by simp)
theorem row_pts {g : List (List Int)} (hg : Neat g) (p : Int) : ∀ q ∈ rd_L1 g p, 0 ≤ q ∧ q < (g.length : Int) := by
  intro q hq
  unfold rd_L1 at hq
  rw [List.getD_eq_getElem?_getD] at hq
  cases hx : g[p.toNat]? with
  | none => rw [hx] at hq; simp at hq
  | some l => rw [hx] at hq; exact hg.pts l (List.mem_of_getElem? hx) q hq
theorem row_short {g : List (List Int)} (hg : Neat g) (p : Int) : (rd_L1 g p).length ≤ 60 := by
  unfold rd_L1
  rw [List.getD_eq_getElem?_getD]
  cases hx : g[p.toNat]? with
  | none => simp
  | some l => exact hg.short l (List.mem_of_getElem? hx)
theorem run_is {g : List (List Int)} (hg : Neat g) (b : Int) : ∀ (m : Nat) (s : List Bool) (t : List Int), s.length = g.length → (∀ q ∈ t, 0 ≤ q ∧ q < (g.length : Int)) → t.length + 2 * unseen s ≤ m → ∃ r, Run g b s t r
  | 0, s, t, hs, ht, hm => by
    have : t = [] := List.eq_nil_of_length_eq_zero (by omega)
    subst this
    exact ⟨s, .done s⟩
  | m + 1, s, t, hs, ht, hm => by
    rcases List.eq_nil_or_concat t with h | ⟨t0, p, h⟩
    · subst h; exact ⟨s, .done s⟩
    · rw [List.concat_eq_append] at h
      subst h
      obtain ⟨p0, p1⟩ := ht p (by simp)
      have rp := row_pts hg p
      have rp' : ∀ q ∈ rd_L1 g p, 0 ≤ q ∧ q < (s.length : Int) := by rw [hs]; exact rp
      have hsz := scan_size b (rd_L1 g p) s t0 rp'
      have hle := scan_le b (rd_L1 g p) s t0 rp'
      have hpt := scan_pts b (g.length : Int) (rd_L1 g p) s t0 rp (fun q hq => ht q (by simp [hq]))
      have hl := scan_len b (rd_L1 g p) s t0
      simp at hm
      obtain ⟨r, hr⟩ := run_is hg b m (scan b s t0 (rd_L1 g p)).1 (scan b s t0 (rd_L1 g p)).2 (by omega) hpt (by omega)
      exact ⟨r, .next p0 p1 rfl hr⟩
theorem run_len {g : List (List Int)} {b : Int} {s r : List Bool} {t : List Int} (h : Run g b s t r) : r.length = s.length := by
  induction h with
  | done s => rfl
  | next h0 h1 hs h ih =>
    rw [ih]
    have := congrArg Prod.fst hs
    simp only at this
    rw [← this, scan_len]

theorem wl {n : Nat} (h : n < 100000000000000) : wrap64 (((n + 1 : Nat) : Int) - 1) = (n : Int) := by
  unfold wrap64
  omega
theorem reach_l1 {g : List (List Int)} (hg : Neat g) (b : Int) (r : List Bool) : ∀ (suf pre : List Int) (s : List Bool) (t : List Int), pre.length + suf.length ≤ 60 → s.length = g.length → (∀ q ∈ suf, 0 ≤ q ∧ q < (g.length : Int)) → t.length + suf.length ≤ 100000 →
    Ev (fun k => graph_reach.l0 k g b (scan b s t suf).1 (scan b s t suf).2) r → Ev (fun k => graph_reach.l1 k g b s t (pre ++ suf) ((pre ++ suf).length : Int) (pre.length : Int)) r
  | [], pre, s, t, hl, hs, hq, ht, hk => by
    refine Ev.step (fun k => ?_) hk
    rw [graph_reach.l1, if_neg (by simp)]
    rfl
  | q :: suf, pre, s, t, hl, hs, hq, ht, hk => by
    simp only [List.length_cons] at hl ht
    have h1 : ((pre.length : Nat) : Int) < ((pre ++ q :: suf).length : Int) := by simp; omega
    obtain ⟨q0, q1⟩ := hq q (by simp)
    have ih := fun s' t' => reach_l1 hg b r suf (pre ++ [q]) s' t' (by simp; omega)
    simp only [scan] at hk
    by_cases c1 : rdOf false s q = true
    · rw [if_pos (.inl c1)] at hk
      refine Ev.step (fun k => ?_) (ih s t hs (fun x hx => hq x (by simp [hx])) (by omega) hk)
      rw [graph_reach.l1, if_pos h1, if_pos (by omega), if_pos h1, if_pos (by rw [rdAt]; exact q0), if_pos (by rw [rdAt]; omega), if_pos (by rw [rdAt]; exact c1), w1 (by omega)]
      simp
    · by_cases c2 : q = b
      · rw [if_pos (.inr c2)] at hk
        refine Ev.step (fun k => ?_) (ih s t hs (fun x hx => hq x (by simp [hx])) (by omega) hk)
        rw [graph_reach.l1, if_pos h1, if_pos (by omega), if_pos h1, if_pos (by rw [rdAt]; exact q0), if_pos (by rw [rdAt]; omega), if_neg (by rw [rdAt]; exact c1), if_pos (by rw [rdAt]; exact c2), w1 (by omega)]
        simp
      · rw [if_neg (by rintro (h | h); exact c1 h; exact c2 h)] at hk
        refine Ev.step (fun k => ?_) (ih (s.set q.toNat true) (t ++ [q]) (by simpa using hs) (fun x hx => hq x (by simp [hx])) (by simp; omega) hk)
        rw [graph_reach.l1, if_pos h1, if_pos (by omega), if_pos h1, if_pos (by rw [rdAt]; exact q0), if_pos (by rw [rdAt]; omega), if_neg (by rw [rdAt]; exact c1), if_neg (by rw [rdAt]; exact c2), if_pos (by omega), w1 (by omega), rdAt]
        simp
theorem reach_run {g : List (List Int)} (hg : Neat g) (b : Int) {s r : List Bool} {t : List Int} (h : Run g b s t r) : s.length = g.length → t.length + unseen s ≤ 1000 → Ev (fun k => graph_reach.l0 k g b s t) r := by
  induction h with
  | done s =>
    intro hs ht
    refine Ev.step (fun k => ?_) (Ev.now _)
    rw [graph_reach.l0, if_neg (by simp)]
  | @next s s' r t t' p h0 h1 hs h ih =>
    intro hl ht
    have rp := row_pts hg p
    have rs := row_short hg p
    have e1 := congrArg Prod.fst hs
    have e2 := congrArg Prod.snd hs
    simp only at e1 e2
    have hsz := scan_size b (rd_L1 g p) s t (by rw [hl]; exact rp)
    have hlen := scan_len b (rd_L1 g p) s t
    rw [e1, e2] at hsz
    rw [e1] at hlen
    simp at ht
    have ih' := ih (by omega) (by omega)
    have key := reach_l1 hg b r (rd_L1 g p) [] s t (by simpa using rs) hl rp (by omega) (by rw [hs]; exact ih')
    have hx : wrap64 (((t ++ [p]).length : Int) - 1) = (t.length : Int) := by
      rw [show (t ++ [p]).length = t.length + 1 by simp]
      exact wl (by omega)
    have hp : rd (t ++ [p]) (t.length : Int) = p := rdAt t p []
    refine Ev.step (fun k => ?_) key
    rw [graph_reach.l0, if_pos (by simp), hx, if_pos (by omega), if_pos (by simp; omega), if_pos (by simp; omega), hp, if_pos h0, if_pos h1]
    simp
theorem from_l1 {g : List (List Int)} (hg : Neat g) (b : Int) (p : Int) (p0 : 0 ≤ p) (p1 : p < (g.length : Int)) (r : List Bool) : ∀ (suf pre : List Int) (s : List Bool) (t : List Int), rd_L1 g p = pre ++ suf → s.length = g.length → t.length + suf.length ≤ 100000 →
    Ev (fun k => ratlineref10_from.l0 k g b (scan b s t suf).1 (scan b s t suf).2) r → Ev (fun k => ratlineref10_from.l1 k g b s t p (pre.length : Int)) r
  | [], pre, s, t, he, hs, ht, hk => by
    refine Ev.step (fun k => ?_) hk
    rw [ratlineref10_from.l1, if_pos p0, if_pos p1, if_neg (by rw [he]; simp)]
    rfl
  | q :: suf, pre, s, t, he, hs, ht, hk => by
    simp only [List.length_cons] at ht
    have hshort := row_short hg p
    have hlen : (rd_L1 g p).length = pre.length + 1 + suf.length := by rw [he]; simp; omega
    have h1 : ((pre.length : Nat) : Int) < ((rd_L1 g p).length : Int) := by omega
    have hq : rd (rd_L1 g p) (pre.length : Int) = q := by rw [he, rdAt]
    obtain ⟨q0, q1⟩ := row_pts hg p q (by rw [he]; simp)
    have ih := fun s' t' => from_l1 hg b p p0 p1 r suf (pre ++ [q]) s' t' (by simp [he])
    simp only [scan] at hk
    by_cases c2 : q = b
    · rw [if_pos (.inr c2)] at hk
      refine Ev.step (fun k => ?_) (ih s t hs (by omega) hk)
      rw [ratlineref10_from.l1, if_pos p0, if_pos p1, if_pos h1, if_pos (by omega), if_pos (by rw [hq]; exact c2), w1 (by omega)]
      simp
    · by_cases c1 : rdOf false s q = true
      · rw [if_pos (.inl c1)] at hk
        refine Ev.step (fun k => ?_) (ih s t hs (by omega) hk)
        rw [ratlineref10_from.l1, if_pos p0, if_pos p1, if_pos h1, if_pos (by omega), if_neg (by rw [hq]; exact c2), if_pos (by rw [hq]; exact q0), if_pos (by rw [hq]; omega), if_pos (by rw [hq]; exact c1), w1 (by omega)]
        simp
      · rw [if_neg (by rintro (h | h); exact c1 h; exact c2 h)] at hk
        refine Ev.step (fun k => ?_) (ih (s.set q.toNat true) (t ++ [q]) (by simpa using hs) (by simp; omega) hk)
        rw [ratlineref10_from.l1, if_pos p0, if_pos p1, if_pos h1, if_pos (by omega), if_neg (by rw [hq]; exact c2), if_pos (by rw [hq]; exact q0), if_pos (by rw [hq]; omega), if_neg (by rw [hq]; exact c1), if_pos (by omega), w1 (by omega), hq]
        simp
theorem from_run {g : List (List Int)} (hg : Neat g) (b : Int) {s r : List Bool} {t : List Int} (h : Run g b s t r) : s.length = g.length → t.length + unseen s ≤ 1000 → Ev (fun k => ratlineref10_from.l0 k g b s t) r := by
  induction h with
  | done s =>
    intro hs ht
    refine Ev.step (fun k => ?_) (Ev.now _)
    rw [ratlineref10_from.l0, if_neg (by simp)]
  | @next s s' r t t' p h0 h1 hs h ih =>
    intro hl ht
    have rp := row_pts hg p
    have rs := row_short hg p
    have e1 := congrArg Prod.fst hs
    have e2 := congrArg Prod.snd hs
    simp only at e1 e2
    have hsz := scan_size b (rd_L1 g p) s t (by rw [hl]; exact rp)
    have hlen := scan_len b (rd_L1 g p) s t
    rw [e1, e2] at hsz
    rw [e1] at hlen
    simp at ht
    have ih' := ih (by omega) (by omega)
    have key := from_l1 hg b p h0 h1 r (rd_L1 g p) [] s t rfl hl (by omega) (by rw [hs]; exact ih')
    have hx : wrap64 (((t ++ [p]).length : Int) - 1) = (t.length : Int) := by
      rw [show (t ++ [p]).length = t.length + 1 by simp]
      exact wl (by omega)
    have hp : rd (t ++ [p]) (t.length : Int) = p := rdAt t p []
    refine Ev.step (fun k => ?_) key
    rw [ratlineref10_from.l0, if_pos (by simp), hx, if_pos (by omega), if_pos (by simp; omega), if_pos (by simp; omega), hp]
    simp
theorem unseen_le (s : List Bool) : unseen s ≤ s.length := List.count_le_length
/-- What is come to from a point without another one: both tell it, and it is what the search's rounds leave. -/
def Come (g : List (List Int)) (a b : Int) (r : List Bool) : Prop :=
  r.length = g.length ∧ ((((g.length : Int) ≤ a ∨ a = b) ∧ r = List.replicate g.length false) ∨ (¬ ((g.length : Int) ≤ a ∨ a = b) ∧ Run g b ((List.replicate g.length false).set a.toNat true) [a] r))
theorem come_is {g : List (List Int)} (hg : Neat g) (a b : Int) (ha : 0 ≤ a) : ∃ r, Come g a b r ∧ Ev (fun k => graph_reach.f k g a b) r ∧ Ev (fun k => ratlineref10_from.f k g a b) r := by
  have hs := hg.few
  have start1 : ∀ r x, Ev (fun k => graph_reach.j0 k g a b (List.replicate g.length false) x) r → (x = true ↔ ((g.length : Int) ≤ a ∨ a = b)) → Ev (fun k => graph_reach.f k g a b) r := by
    intro r x hx hiff
    refine Ev.congr (fun k => ?_) hx
    simp only [graph_reach.f]
    rw [if_pos (by omega), if_pos (by omega)]
    simp only [Option.bind_some, Int.toNat_natCast]
    by_cases c : a ≥ (g.length : Int)
    · rw [if_pos c, hiff.mpr (.inl c)]
    · rw [if_neg c]
      congr 1
      by_cases e : a = b
      · rw [hiff.mpr (.inr e)]; simpa using e
      · have : x = false := by
          cases x with
          | false => rfl
          | true => rcases hiff.mp rfl with h | h; exact absurd h c; exact absurd h e
        rw [this]; simpa using e
  have start2 : ∀ r x, Ev (fun k => ratlineref10_from.j0 k g a b (List.replicate g.length false) x) r → (x = true ↔ ((g.length : Int) ≤ a ∨ a = b)) → Ev (fun k => ratlineref10_from.f k g a b) r := by
    intro r x hx hiff
    refine Ev.congr (fun k => ?_) hx
    simp only [ratlineref10_from.f]
    rw [if_pos (by omega), if_pos (by omega)]
    simp only [Option.bind_some, Int.toNat_natCast]
    rw [if_neg (by omega)]
    by_cases c : a ≥ (g.length : Int)
    · rw [if_pos c, hiff.mpr (.inl c)]
    · rw [if_neg c]
      congr 1
      by_cases e : a = b
      · rw [hiff.mpr (.inr e)]; simpa using e
      · have : x = false := by
          cases x with
          | false => rfl
          | true => rcases hiff.mp rfl with h | h; exact absurd h c; exact absurd h e
        rw [this]; simpa using e
  by_cases c : (g.length : Int) ≤ a ∨ a = b
  · refine ⟨List.replicate g.length false, ⟨by simp, .inl ⟨c, rfl⟩⟩, start1 _ true ?_ (by simpa using c), start2 _ true ?_ (by simpa using c)⟩
    · refine Ev.step (fun k => ?_) (Ev.now _)
      rw [graph_reach.j0, if_pos rfl]
    · refine Ev.step (fun k => ?_) (Ev.now _)
      rw [ratlineref10_from.j0, if_pos rfl]
  · have c' := c
    rw [not_or] at c'
    have hl : ((List.replicate g.length false).set a.toNat true).length = g.length := by simp
    have hu := unseen_le ((List.replicate g.length false).set a.toNat true)
    obtain ⟨r, hr⟩ := run_is hg b _ ((List.replicate g.length false).set a.toNat true) [a] hl (by intro q hq; simp at hq; subst hq; omega) (Nat.le_refl _)
    refine ⟨r, ⟨by rw [run_len hr, hl], .inr ⟨c, hr⟩⟩, start1 _ false ?_ (by simpa using c), start2 _ false ?_ (by simpa using c)⟩
    · refine Ev.step (fun k => ?_) (reach_run hg b hr hl (by simp; omega))
      rw [graph_reach.j0, if_neg (by simp), if_pos ha, if_pos (by simp; omega)]
    · refine Ev.step (fun k => ?_) (from_run hg b hr hl (by simp; omega))
      rw [ratlineref10_from.j0, if_neg (by simp), if_pos ha, if_pos (by simp; omega)]
theorem scan_marks {b : Int} {n : Nat} : ∀ (l : List Int) (s : List Bool) (t : List Int), s.length = n → (∀ q ∈ l, 0 ≤ q ∧ q < (n : Int)) →
    (∀ q : Int, 0 ≤ q → q < (n : Int) → (rdOf false (scan b s t l).1 q = true ↔ rdOf false s q = true ∨ (q ∈ l ∧ q ≠ b))) ∧
    (∀ q : Int, q ∈ t → q ∈ (scan b s t l).2) ∧ (∀ q : Int, q ∈ (scan b s t l).2 → q ∈ t ∨ (q ∈ l ∧ q ≠ b)) ∧ (∀ q : Int, q ∈ l → q ≠ b → rdOf false s q = true ∨ q ∈ (scan b s t l).2)
  | [], s, t, hs, h => by simp [scan]
  | x :: l, s, t, hs, h => by
    obtain ⟨x0, x1⟩ := h x (by simp)
    simp only [scan]
    have hr : ∀ q ∈ l, 0 ≤ q ∧ q < (n : Int) := fun q hq => h q (by simp [hq])
    by_cases c : rdOf false s x = true ∨ x = b
    · rw [if_pos c]
      obtain ⟨a1, a2, a3, a4⟩ := scan_marks (b := b) l s t hs hr
      refine ⟨fun q h0 h1 => ?_, a2, fun q hq => ?_, fun q hq hb => ?_⟩
      · rw [a1 q h0 h1]
        constructor
        · rintro (h | ⟨h, h'⟩)
          · exact .inl h
          · exact .inr ⟨by simp [h], h'⟩
        · rintro (h | ⟨h, h'⟩)
          · exact .inl h
          · rcases List.mem_cons.mp h with h | h
            · subst h
              rcases c with c | c
              · exact .inl c
              · exact absurd c h'
            · exact .inr ⟨h, h'⟩
      · rcases a3 q hq with h | ⟨h, h'⟩
        · exact .inl h
        · exact .inr ⟨by simp [h], h'⟩
      · rcases List.mem_cons.mp hq with h | h
        · subst h
          rcases c with c | c
          · exact .inl c
          · exact absurd c hb
        · exact a4 q h hb
    · rw [if_neg c]
      obtain ⟨a1, a2, a3, a4⟩ := scan_marks (b := b) l (s.set x.toNat true) (t ++ [x]) (by simpa using hs) hr
      have hset : ∀ q : Int, 0 ≤ q → q < (n : Int) → (rdOf false (s.set x.toNat true) q = true ↔ rdOf false s q = true ∨ q = x) := by
        intro q h0 h1
        simp only [rdOf, List.getD_eq_getElem?_getD, List.getElem?_set]
        by_cases e : q = x
        · subst e
          have : q.toNat < s.length := by omega
          simp [this]
        · have : ¬ x.toNat = q.toNat := by omega
          simp [e, this]
      have hxb : x ≠ b := fun e => c (.inr e)
      refine ⟨fun q h0 h1 => ?_, fun q hq => a2 q (by simp [hq]), fun q hq => ?_, fun q hq hb => ?_⟩
      · rw [a1 q h0 h1, hset q h0 h1]
        constructor
        · rintro ((h | h) | ⟨h, h'⟩)
          · exact .inl h
          · subst h; exact .inr ⟨by simp, hxb⟩
          · exact .inr ⟨by simp [h], h'⟩
        · rintro (h | ⟨h, h'⟩)
          · exact .inl (.inl h)
          · rcases List.mem_cons.mp h with h | h
            · exact .inl (.inr h)
            · exact .inr ⟨h, h'⟩
      · rcases a3 q hq with h | ⟨h, h'⟩
        · rcases List.mem_append.mp h with h | h
          · exact .inl h
          · simp at h; subst h; exact .inr ⟨by simp, hxb⟩
        · exact .inr ⟨by simp [h], h'⟩
      · rcases List.mem_cons.mp hq with h | h
        · subst h; exact .inr (a2 q (by simp))
        · rcases a4 q h hb with h2 | h2
          · obtain ⟨q0, q1⟩ := hr q h
            rcases (hset q q0 q1).mp h2 with h3 | h3
            · exact .inl h3
            · subst h3; exact .inr (a2 q (by simp))
          · exact .inr h2
theorem run_marks {g : List (List Int)} (hg : Neat g) {b : Int} (P : Int → Prop) (hP : ∀ u, P u → ∀ q ∈ rd_L1 g u, q ≠ b → P q) {s r : List Bool} {t : List Int} (h : Run g b s t r) : s.length = g.length →
    (∀ q : Int, 0 ≤ q → q < (g.length : Int) → rdOf false s q = true → P q) → (∀ q ∈ t, rdOf false s q = true ∧ 0 ≤ q ∧ q < (g.length : Int)) → (∀ u : Int, 0 ≤ u → u < (g.length : Int) → rdOf false s u = true → u ∈ t ∨ ∀ q ∈ rd_L1 g u, q ≠ b → rdOf false s q = true) →
    (∀ q : Int, 0 ≤ q → q < (g.length : Int) → rdOf false s q = true → rdOf false r q = true) ∧ (∀ q : Int, 0 ≤ q → q < (g.length : Int) → rdOf false r q = true → P q) ∧ (∀ u : Int, 0 ≤ u → u < (g.length : Int) → rdOf false r u = true → ∀ q ∈ rd_L1 g u, q ≠ b → rdOf false r q = true) := by
  induction h with
  | done s =>
    intro hl hp ht hc
    refine ⟨fun q _ _ h => h, hp, fun u u0 u1 hu q hq hb => ?_⟩
    rcases hc u u0 u1 hu with h | h
    · cases h
    · exact h q hq hb
  | @next s s' r t t' p h0 h1 hs h ih =>
    intro hl hp ht hc
    obtain ⟨a1, a2, a3, a4⟩ := scan_marks (b := b) (n := g.length) (rd_L1 g p) s t hl (row_pts hg p)
    have e1 := congrArg Prod.fst hs
    have e2 := congrArg Prod.snd hs
    simp only at e1 e2
    rw [e1] at a1
    rw [e2] at a2 a3 a4
    have hl' : s'.length = g.length := by rw [← e1, scan_len]; exact hl
    have hpp : P p := hp p h0 h1 (ht p (by simp)).1
    obtain ⟨b1, b2, b3⟩ := ih hl' (by
      intro q q0 q1 hq
      rcases (a1 q q0 q1).mp hq with h2 | ⟨h2, h3⟩
      · exact hp q q0 q1 h2
      · exact hP p hpp q h2 h3) (by
      intro q hq
      rcases a3 q hq with h2 | ⟨h2, h3⟩
      · obtain ⟨c1, c2, c3⟩ := ht q (by simp [h2])
        exact ⟨(a1 q c2 c3).mpr (.inl c1), c2, c3⟩
      · obtain ⟨c2, c3⟩ := row_pts hg p q h2
        exact ⟨(a1 q c2 c3).mpr (.inr ⟨h2, h3⟩), c2, c3⟩) (by
      intro u u0 u1 hu
      by_cases hup : u = p
      · subst hup
        right
        intro q hq hb
        obtain ⟨c2, c3⟩ := row_pts hg u q hq
        exact (a1 q c2 c3).mpr (.inr ⟨hq, hb⟩)
      · rcases (a1 u u0 u1).mp hu with h2 | ⟨h2, h3⟩
        · rcases hc u u0 u1 h2 with h4 | h4
          · rcases List.mem_append.mp h4 with h4 | h4
            · exact .inl (a2 u h4)
            · simp at h4; exact absurd h4 hup
          · right
            intro q hq hb
            obtain ⟨c2, c3⟩ := row_pts hg u q hq
            exact (a1 q c2 c3).mpr (.inl (h4 q hq hb))
        · by_cases hus : rdOf false s u = true
          · rcases hc u u0 u1 hus with h4 | h4
            · rcases List.mem_append.mp h4 with h4 | h4
              · exact .inl (a2 u h4)
              · simp at h4; exact absurd h4 hup
            · right
              intro q hq hb
              obtain ⟨c2, c3⟩ := row_pts hg u q hq
              exact (a1 q c2 c3).mpr (.inl (h4 q hq hb))
          · rcases a4 u h2 h3 with h4 | h4
            · exact absurd h4 hus
            · exact .inl h4)
    exact ⟨fun q q0 q1 hq => b1 q q0 q1 ((a1 q q0 q1).mpr (.inl hq)), b2, b3⟩
/-- Come to by steps. -/
inductive Rt (g : List (List Int)) (a : Int) : Int → Prop
  | refl : Rt g a a
  | step {b c : Int} (h : Rt g a b) (e : c ∈ rd_L1 g b) : Rt g a c
theorem rdSetB (s : List Bool) (i q : Int) (b : Bool) (hi : 0 ≤ i) (h0 : 0 ≤ q) (h1 : q < (s.length : Int)) : rdOf false (s.set i.toNat b) q = if q = i then b else rdOf false s q := by
  simp only [rdOf, List.getD_eq_getElem?_getD, List.getElem?_set]
  by_cases e : q = i
  · subst e
    have : q.toNat < s.length := by omega
    simp [this]
  · have : ¬ i.toNat = q.toNat := by omega
    simp [e, this]
theorem rdSetI (s : List Int) (i q : Int) (b : Int) (hi : 0 ≤ i) (h0 : 0 ≤ q) (h1 : q < (s.length : Int)) : rd (s.set i.toNat b) q = if q = i then b else rd s q := by
  simp only [rd, List.getD_eq_getElem?_getD, List.getElem?_set]
  by_cases e : q = i
  · subst e
    have : q.toNat < s.length := by omega
    simp [this]
  · have : ¬ i.toNat = q.toNat := by omega
    simp [e, this]
theorem come_rt {g : List (List Int)} (hg : Neat g) {a : Int} {r : List Bool} (a0 : 0 ≤ a) (a1 : a < (g.length : Int)) (h : Come g a (-1) r) (v : Int) (v0 : 0 ≤ v) (v1 : v < (g.length : Int)) : rdOf false r v = true ↔ Rt g a v := by
  obtain ⟨hl, h | h⟩ := h
  · obtain ⟨h1, _⟩ := h
    omega
  · obtain ⟨h1, hr⟩ := h
    have hset : ∀ q : Int, 0 ≤ q → q < (g.length : Int) → (rdOf false ((List.replicate g.length false).set a.toNat true) q = true ↔ q = a) := by
      intro q q0 q1
      rw [rdSetB _ _ _ _ a0 q0 (by simpa using q1)]
      by_cases e : q = a
      · simp [e]
      · have e2 : q.toNat < g.length := by omega
        simp [e, rdOf, List.getElem?_replicate, e2]
    obtain ⟨c1, c2, c3⟩ := run_marks hg (fun q => Rt g a q) (fun u hu q hq _ => .step hu hq) hr (by simp) (by
      intro q q0 q1 hq
      have := (hset q q0 q1).mp hq
      subst this
      exact .refl) (by
      intro q hq
      simp at hq
      subst hq
      exact ⟨(hset q a0 a1).mpr rfl, a0, a1⟩) (by
      intro u u0 u1 hu
      have := (hset u u0 u1).mp hu
      subst this
      left
      simp)
    constructor
    · exact c2 v v0 v1
    · intro hv
      induction hv with
      | refl => exact c1 _ a0 a1 ((hset _ a0 a1).mpr rfl)
      | @step b c h e ih =>
        have hb : 0 ≤ b ∧ b < (g.length : Int) := by
          cases h with
          | refl => exact ⟨a0, a1⟩
          | step h' e' => exact row_pts hg _ _ e'
        obtain ⟨q0, q1⟩ := row_pts hg _ _ e
        exact c3 b hb.1 hb.2 (ih hb.1 hb.2) c e (by omega)

def okb (P : List Bool) (q : Int) : Bool := !(decide (q < (P.length : Int)) && rdOf false P q)
def onb (R P : List Bool) (q : Int) : Bool := rdOf false R q && okb P q
theorem on_is (R P : List Bool) (q : Int) (h0 : 0 ≤ q) (h1 : q < (R.length : Int)) : graph_Cyclic_1.f R P q = some (onb R P q) := by
  unfold graph_Cyclic_1.f onb okb
  rw [if_pos h0, if_pos h1]
  by_cases c1 : rdOf false R q = true
  · rw [if_pos c1, c1]
    by_cases c2 : q < (P.length : Int)
    · simp [c2]
    · simp [c2]
  · simp [c1]

def sm : List Bool → List (List Int) → Int → Nat
  | true :: rem, row :: g, q => row.count q + sm rem g q
  | false :: rem, _ :: g, q => sm rem g q
  | [], _, _ => 0
  | _ :: _, [], _ => 0
theorem sm_set : ∀ (rem : List Bool) (g : List (List Int)) (q : Int) (i : Nat), rem.length = g.length → rem.getD i false = true → sm (rem.set i false) g q + (g.getD i []).count q = sm rem g q
  | [], _, _, _, _, h => by simp at h
  | b :: rem, [], _, _, h, _ => by simp at h
  | b :: rem, row :: g, q, 0, h, hb => by
    simp at hb
    subst hb
    simp [sm]
    omega
  | true :: rem, row :: g, q, i + 1, h, hb => by
    have := sm_set rem g q i (by simpa using h) (by simpa using hb)
    simp [sm] at this ⊢
    omega
  | false :: rem, row :: g, q, i + 1, h, hb => by
    have := sm_set rem g q i (by simpa using h) (by simpa using hb)
    simp [sm] at this ⊢
    omega
theorem sm_pos : ∀ (rem : List Bool) (g : List (List Int)) (q : Int), rem.length = g.length → (0 < sm rem g q ↔ ∃ i, rem.getD i false = true ∧ q ∈ g.getD i [])
  | [], [], _, _ => by simp [sm]
  | [], _ :: _, _, h => by simp at h
  | _ :: _, [], _, h => by simp at h
  | b :: rem, row :: g, q, h => by
    have ih := sm_pos rem g q (by simpa using h)
    constructor
    · intro hp
      cases b with
      | true =>
        simp only [sm] at hp
        by_cases c : q ∈ row
        · exact ⟨0, by simp, by simpa using c⟩
        · have : row.count q = 0 := List.count_eq_zero.mpr c
          obtain ⟨i, h1, h2⟩ := ih.mp (by omega)
          exact ⟨i + 1, by simpa using h1, by simpa using h2⟩
      | false =>
        simp only [sm] at hp
        obtain ⟨i, h1, h2⟩ := ih.mp hp
        exact ⟨i + 1, by simpa using h1, by simpa using h2⟩
    · rintro ⟨i, h1, h2⟩
      cases i with
      | zero =>
        simp at h1 h2
        subst h1
        simp only [sm]
        have := List.count_pos_iff.mpr h2
        omega
      | succ i =>
        have := ih.mpr ⟨i, by simpa using h1, by simpa using h2⟩
        cases b <;> simp only [sm] <;> omega
theorem sm_le : ∀ (rem : List Bool) (g : List (List Int)) (q : Int), (∀ l ∈ g, l.length ≤ 60) → sm rem g q ≤ g.length * 60
  | [], _, _, _ => by simp [sm]
  | b :: rem, [], _, _ => by cases b <;> simp [sm]
  | b :: rem, row :: g, q, h => by
    have ih := sm_le rem g q (fun l hl => h l (by simp [hl]))
    have h1 := h row (by simp)
    have h2 : row.count q ≤ row.length := List.count_le_length
    cases b <;> simp only [sm, List.length_cons] <;> omega
theorem sm_snoc : ∀ (rem : List Bool) (g : List (List Int)) (q : Int) (b : Bool) (row : List Int), rem.length = g.length → sm (rem ++ [b]) (g ++ [row]) q = sm rem g q + if b = true then row.count q else 0
  | [], [], q, b, row, _ => by cases b <;> simp [sm]
  | [], _ :: _, _, _, _, h => by simp at h
  | _ :: _, [], _, _, _, h => by simp at h
  | c :: rem, r :: g, q, b, row, h => by
    have ih := sm_snoc rem g q b row (by simpa using h)
    cases c <;> simp only [sm, List.cons_append, ih] <;> omega

def Ins (n : Nat) (on : Int → Bool) (f : Int → Nat) (X : List Int) : Prop := X.length = n ∧ ∀ q : Int, 0 ≤ q → q < (n : Int) → rd X q = if on q = true then (f q : Int) else 0
def onl (R P : List Bool) (j : Nat) : List Bool := (List.range j).map fun i : Nat => onb R P (i : Int)
theorem onl_len (R P : List Bool) (j : Nat) : (onl R P j).length = j := by simp [onl]
theorem onl_succ (R P : List Bool) (j : Nat) : onl R P (j + 1) = onl R P j ++ [onb R P (j : Int)] := by simp [onl, List.range_succ]
theorem onl_at (R P : List Bool) (n : Nat) (q : Int) (h0 : 0 ≤ q) (h1 : q < (n : Int)) : rdOf false (onl R P n) q = onb R P q := by
  have h2 : q.toNat < n := by omega
  simp [rdOf, onl, List.getD_eq_getElem?_getD, List.getElem?_map, List.getElem?_range, h2, h0]
  rw [show max q 0 = q by omega]
theorem cyc_l1 {n : Nat} (R P : List Bool) (hR : R.length = n) (g : List (List Int)) (x8 : Int) (x26 : List (List Int)) (x27 x28 : Int) (r : Bool) : ∀ (suf pre : List Int) (f : Int → Nat) (c : Nat) (X : List Int), pre.length + suf.length ≤ 60 → (∀ q ∈ suf, 0 ≤ q ∧ q < (n : Int)) → c + suf.length ≤ 100000 → (∀ q, f q ≤ c) → Ins n (onb R P) f X →
    (∀ X', Ins n (onb R P) (fun q => f q + suf.count q) X' → Ev (fun k => graph_Cyclic.l0 k g P R X' x8 x26 x27 (wrap64 (x28 + 1))) r) → Ev (fun k => graph_Cyclic.l1 k g P R X x8 x26 x27 x28 (pre ++ suf) ((pre ++ suf).length : Int) (pre.length : Int)) r
  | [], pre, f, c, X, hl, hq, hc, hf, hX, hk => by
    refine Ev.step (fun k => ?_) (hk X (by simpa using hX))
    rw [graph_Cyclic.l1, if_neg (by simp)]
  | q :: suf, pre, f, c, X, hl, hq, hc, hf, hX, hk => by
    simp only [List.length_cons] at hl hc
    have h1 : ((pre.length : Nat) : Int) < ((pre ++ q :: suf).length : Int) := by simp; omega
    obtain ⟨q0, q1⟩ := hq q (by simp)
    have ih := fun f' c' X' => cyc_l1 R P hR g x8 x26 x27 x28 r suf (pre ++ [q]) f' c' X' (by simp; omega) (fun x hx => hq x (by simp [hx]))
    have hon := on_is R P q q0 (by omega)
    by_cases c1 : onb R P q = true
    · have hx := hX.2 q q0 q1
      rw [if_pos c1] at hx
      have hb := hf q
      have hw : wrap64 (rd X q + 1) = ((f q + 1 : Nat) : Int) := by rw [hx]; exact w1 (by omega)
      have hX' : Ins n (onb R P) (fun x => f x + [q].count x) (X.set q.toNat (wrap64 (rd X q + 1))) := by
        refine ⟨by simpa using hX.1, fun x x0 x1 => ?_⟩
        rw [rdSetI X q x _ q0 x0 (by rw [hX.1]; exact x1), hw]
        by_cases e : x = q
        · subst e; simp [c1]
        · have e' : ¬ q = x := fun h => e h.symm
          rw [if_neg e, hX.2 x x0 x1]
          simp [List.count_cons, e']
      have key := ih _ (c + 1) _ (by omega) (by
        intro x
        have := hf x
        by_cases e : q = x
        · simp [List.count_cons, e]; omega
        · simp [List.count_cons, e]; omega) hX' (by
        intro X2 h2
        refine hk X2 ⟨h2.1, fun x x0 x1 => ?_⟩
        rw [h2.2 x x0 x1]
        simp only [List.count_cons, List.count_nil]
        by_cases e : onb R P x = true
        · rw [if_pos e, if_pos e]; congr 1; omega
        · rw [if_neg e, if_neg e])
      refine Ev.step (fun k => ?_) key
      rw [graph_Cyclic.l1, if_pos h1, if_pos (by omega), if_pos h1, rdAt, hon, Option.bind_some, if_pos c1, if_pos q0, if_pos (by rw [hX.1]; exact q1), w1 (by omega)]
      simp
    · have key := ih f c X (by omega) hf hX (by
        intro X2 h2
        refine hk X2 ⟨h2.1, fun x x0 x1 => ?_⟩
        rw [h2.2 x x0 x1]
        by_cases e : onb R P x = true
        · have e' : ¬ q = x := by rintro rfl; exact c1 e
          rw [if_pos e, if_pos e]; simp [List.count_cons, e']
        · rw [if_neg e, if_neg e])
      refine Ev.step (fun k => ?_) key
      rw [graph_Cyclic.l1, if_pos h1, if_pos (by omega), if_pos h1, rdAt, hon, Option.bind_some, if_neg c1, w1 (by omega)]
      simp
theorem cyc_l0 {g : List (List Int)} (hg : Neat g) (R P : List Bool) (hR : R.length = g.length) (r : Bool) (hk : ∀ X, Ins g.length (onb R P) (fun q => sm (onl R P g.length) g q) X → Ev (fun k => graph_Cyclic.l2 k g P R X (((onl R P g.length).count true : Nat) : Int) [] (g.length : Int) 0) r) : ∀ (suf pre : List (List Int)) (X : List Int), g = pre ++ suf → Ins g.length (onb R P) (fun q => sm (onl R P pre.length) pre q) X →
    Ev (fun k => graph_Cyclic.l0 k g P R X (((onl R P pre.length).count true : Nat) : Int) g (g.length : Int) (pre.length : Int)) r
  | [], pre, X, he, hX => by
    have e : pre = g := by rw [he]; simp
    subst e
    refine Ev.step (fun k => ?_) (hk X hX)
    rw [graph_Cyclic.l0, if_neg (by simp)]
  | row :: suf, pre, X, he, hX => by
    have hf := hg.few
    have hlen : g.length = pre.length + 1 + suf.length := by rw [he]; simp; omega
    have h1 : ((pre.length : Nat) : Int) < (g.length : Int) := by omega
    have hrow : rd_L1 g (pre.length : Int) = row := by rw [he]; exact rdAtL pre row suf
    have hrl : row.length ≤ 60 := hg.short row (by rw [he]; simp)
    have hrp : ∀ q ∈ row, 0 ≤ q ∧ q < (g.length : Int) := hg.pts row (by rw [he]; simp)
    have ih := fun X' => cyc_l0 hg R P hR r hk suf (pre ++ [row]) X' (by simp [he])
    have hon := on_is R P (pre.length : Int) (by omega) (by omega)
    have hcl : (onl R P pre.length).count true ≤ pre.length := by have := @List.count_le_length _ _ true (onl R P pre.length); rw [onl_len] at this; exact this
    simp only [List.length_append, List.length_cons, List.length_nil, Nat.zero_add] at ih
    by_cases c1 : onb R P (pre.length : Int) = true
    · have ec : (onl R P (pre.length + 1)).count true = (onl R P pre.length).count true + 1 := by rw [onl_succ, List.count_append, c1]; simp
      rw [ec] at ih
      have key := cyc_l1 (n := g.length) R P hR g (((onl R P pre.length).count true + 1 : Nat) : Int) g (g.length : Int) (pre.length : Int) r row [] (fun q => sm (onl R P pre.length) pre q) (pre.length * 60) X (by simpa using hrl) hrp (by omega) (fun q => sm_le _ _ q (fun l hl => hg.short l (by rw [he]; simp [hl]))) hX (by
        intro X' h'
        rw [w1 (by omega)]
        refine ih X' ⟨h'.1, fun q q0 q1 => ?_⟩
        rw [h'.2 q q0 q1]
        simp only [onl_succ]
        rw [sm_snoc _ _ _ _ _ (by rw [onl_len]), if_pos c1])
      refine Ev.step (fun k => ?_) key
      rw [graph_Cyclic.l0, if_pos h1, if_pos (by omega), if_pos h1, hon, Option.bind_some, if_pos c1, hrow, w1 (by omega)]
      rfl
    · have c2 : onb R P (pre.length : Int) = false := by simpa using c1
      have ec : (onl R P (pre.length + 1)).count true = (onl R P pre.length).count true := by rw [onl_succ, List.count_append, c2]; simp
      rw [ec] at ih
      have key := ih X ⟨hX.1, fun q q0 q1 => by
        rw [hX.2 q q0 q1]
        simp only [onl_succ]
        rw [sm_snoc _ _ _ _ _ (by rw [onl_len]), if_neg c1, Nat.add_zero]⟩
      refine Ev.step (fun k => ?_) key
      rw [graph_Cyclic.l0, if_pos h1, if_pos (by omega), if_pos h1, hon, Option.bind_some, if_neg c1, w1 (by omega)]
def tl (R P : List Bool) (X : List Int) (j : Nat) : List Int := ((List.range j).filter fun i : Nat => onb R P (i : Int) && decide (rd X (i : Int) = 0)).map fun i : Nat => (i : Int)
theorem cyc_l2 {g : List (List Int)} (hg : Neat g) (R P : List Bool) (hR : R.length = g.length) (X : List Int) (hX : X.length = g.length) (x8 : Int) (r : Bool) (hk : Ev (fun k => graph_Cyclic.l3 k g P R X x8 (tl R P X g.length)) r) : ∀ (m j : Nat), j + m = g.length → Ev (fun k => graph_Cyclic.l2 k g P R X x8 (tl R P X j) (g.length : Int) (j : Int)) r
  | 0, j, h => by
    have : j = g.length := by omega
    subst this
    refine Ev.step (fun k => ?_) hk
    rw [graph_Cyclic.l2, if_neg (by omega)]
  | m + 1, j, h => by
    have hf := hg.few
    have h1 : ((j : Nat) : Int) < (g.length : Int) := by omega
    have ih := cyc_l2 hg R P hR X hX x8 r hk m (j + 1) (by omega)
    have hon := on_is R P (j : Int) (by omega) (by omega)
    have hlt : (tl R P X j).length ≤ j := by
      unfold tl
      rw [List.length_map]
      exact Nat.le_trans (List.length_filter_le _ _) (by simp)
    refine Ev.step (fun k => ?_) ih
    rw [graph_Cyclic.l2, if_pos h1, hon, Option.bind_some]
    by_cases c1 : onb R P (j : Int) = true
    · rw [if_pos c1, if_pos (by omega), if_pos (by omega)]
      by_cases c2 : rd X (j : Int) = 0
      · rw [if_pos c2, if_pos (by omega), w1 (by omega)]
        have : tl R P X (j + 1) = tl R P X j ++ [(j : Int)] := by simp [tl, List.range_succ, List.filter_append, c1, c2]
        rw [this]
      · rw [if_neg c2, w1 (by omega)]
        have : tl R P X (j + 1) = tl R P X j := by simp [tl, List.range_succ, List.filter_append, c1, c2]
        rw [this]
    · rw [if_neg c1, w1 (by omega)]
      have : tl R P X (j + 1) = tl R P X j := by simp [tl, List.range_succ, List.filter_append, c1]
      rw [this]
/-- A set of points that count, each led to from one of the set. -/
def Core (g : List (List Int)) (on : Int → Bool) (C : Int → Prop) : Prop := ∀ c, C c → 0 ≤ c ∧ c < (g.length : Int) ∧ on c = true ∧ ∃ c', C c' ∧ c ∈ rd_L1 g c'
def Circ (g : List (List Int)) (on : Int → Bool) : Prop := ∃ C : Int → Prop, (∃ c, C c) ∧ Core g on C
structure Kinv (g : List (List Int)) (on : Int → Bool) (rem : List Bool) (X T suf : List Int) : Prop where
  lr : rem.length = g.length
  ins : Ins g.length on (fun q => sm rem g q + suf.count q) X
  nd : T.Nodup
  tin : ∀ q, q ∈ T → 0 ≤ q ∧ q < (g.length : Int) ∧ rdOf false rem q = true ∧ rd X q = 0
  tall : ∀ q : Int, 0 ≤ q → q < (g.length : Int) → rdOf false rem q = true → rd X q = 0 → q ∈ T
  off : ∀ q : Int, 0 ≤ q → q < (g.length : Int) → on q = true → rdOf false rem q = false → rd X q = 0
  ron : ∀ q : Int, 0 ≤ q → q < (g.length : Int) → rdOf false rem q = true → on q = true
  core : ∀ C : Int → Prop, Core g on C → ∀ c, C c → rdOf false rem c = true
theorem cyc_l4 {g : List (List Int)} (hg : Neat g) (R P : List Bool) (hR : R.length = g.length) (rem : List Bool) (x8 : Int) (r : Bool)
    (hk : ∀ X T, Kinv g (onb R P) rem X T [] → Ev (fun k => graph_Cyclic.l3 k g P R X x8 T) r) : ∀ (suf pre : List Int) (X T : List Int), pre.length + suf.length ≤ 60 → (∀ q ∈ suf, 0 ≤ q ∧ q < (g.length : Int)) → T.length + suf.length ≤ 100000 → Kinv g (onb R P) rem X T suf →
    Ev (fun k => graph_Cyclic.l4 k g P R X x8 T (pre ++ suf) ((pre ++ suf).length : Int) (pre.length : Int)) r
  | [], pre, X, T, hl, hq, hT, K => by
    refine Ev.step (fun k => ?_) (hk X T K)
    rw [graph_Cyclic.l4, if_neg (by simp)]
  | q :: suf, pre, X, T, hl, hq, hT, K => by
    simp only [List.length_cons] at hl hT
    have h1 : ((pre.length : Nat) : Int) < ((pre ++ q :: suf).length : Int) := by simp; omega
    obtain ⟨q0, q1⟩ := hq q (by simp)
    have hf := hg.few
    have ih := fun X' T' => cyc_l4 hg R P hR rem x8 r hk suf (pre ++ [q]) X' T' (by simp; omega) (fun x hx => hq x (by simp [hx]))
    have hon := on_is R P q q0 (by omega)
    by_cases c1 : onb R P q = true
    · have hx := K.ins.2 q q0 q1
      rw [if_pos c1] at hx
      have hb := sm_le rem g q hg.short
      have hcs : suf.count q ≤ suf.length := List.count_le_length
      simp only [List.count_cons_self] at hx
      have hw : wrap64 (rd X q - 1) = ((sm rem g q + suf.count q : Nat) : Int) := by
        rw [hx]; exact wl (n := sm rem g q + suf.count q) (by omega)
      have hrem : rdOf false rem q = true := by
        cases e : rdOf false rem q with
        | true => rfl
        | false => have := K.off q q0 q1 c1 e; omega
      have hqT : q ∉ T := fun h => by have := (K.tin q h).2.2.2; omega
      have hset : ∀ x : Int, 0 ≤ x → x < (g.length : Int) → rd (X.set q.toNat (wrap64 (rd X q - 1))) x = if x = q then ((sm rem g q + suf.count q : Nat) : Int) else rd X x := by
        intro x x0 x1
        rw [rdSetI X q x _ q0 x0 (by rw [K.ins.1]; exact x1), hw]
      have hins : Ins g.length (onb R P) (fun q => sm rem g q + suf.count q) (X.set q.toNat (wrap64 (rd X q - 1))) := by
        refine ⟨by simpa using K.ins.1, fun x x0 x1 => ?_⟩
        rw [hset x x0 x1]
        by_cases e : x = q
        · subst e; rw [if_pos rfl, if_pos c1]
        · have e' : ¬ q = x := fun h => e h.symm
          rw [if_neg e, K.ins.2 x x0 x1]
          simp [List.count_cons, e']
      have hoff : ∀ x : Int, 0 ≤ x → x < (g.length : Int) → onb R P x = true → rdOf false rem x = false → rd (X.set q.toNat (wrap64 (rd X q - 1))) x = 0 := by
        intro x x0 x1 hox hrx
        rw [hset x x0 x1]
        by_cases e : x = q
        · subst e; rw [hrem] at hrx; cases hrx
        · rw [if_neg e]; exact K.off x x0 x1 hox hrx
      have hy : rd (X.set q.toNat (wrap64 (rd X q - 1))) q = ((sm rem g q + suf.count q : Nat) : Int) := by rw [hset q q0 q1, if_pos rfl]
      by_cases c2 : rd (X.set q.toNat (wrap64 (rd X q - 1))) q = 0
      · have key := ih (X.set q.toNat (wrap64 (rd X q - 1))) (T ++ [q]) (by simp; omega) ⟨K.lr, hins, by
          rw [List.nodup_append]
          refine ⟨K.nd, by simp, ?_⟩
          intro a ha b hb
          simp at hb
          subst hb
          rintro rfl
          exact hqT ha, by
          intro x hx'
          rcases List.mem_append.mp hx' with h | h
          · obtain ⟨b0, b1, b2, b3⟩ := K.tin x h
            have e : x ≠ q := by rintro rfl; exact hqT h
            exact ⟨b0, b1, b2, by rw [hset x b0 b1, if_neg e]; exact b3⟩
          · simp at h
            subst h
            exact ⟨q0, q1, hrem, c2⟩, by
          intro x x0 x1 hrx hzx
          by_cases e : x = q
          · simp [e]
          · rw [hset x x0 x1, if_neg e] at hzx
            exact List.mem_append.mpr (.inl (K.tall x x0 x1 hrx hzx)), hoff, K.ron, K.core⟩
        refine Ev.step (fun k => ?_) key
        rw [graph_Cyclic.l4, if_pos h1, if_pos (by omega), if_pos h1, rdAt, hon, Option.bind_some, if_pos c1, if_pos q0, if_pos (by rw [K.ins.1]; exact q1), Option.bind_some, if_pos c2, if_pos (by omega), w1 (by omega)]
        simp
      · have key := ih (X.set q.toNat (wrap64 (rd X q - 1))) T (by omega) ⟨K.lr, hins, K.nd, by
          intro x h
          obtain ⟨b0, b1, b2, b3⟩ := K.tin x h
          have e : x ≠ q := by rintro rfl; exact hqT h
          exact ⟨b0, b1, b2, by rw [hset x b0 b1, if_neg e]; exact b3⟩, by
          intro x x0 x1 hrx hzx
          by_cases e : x = q
          · subst e; exact absurd hzx c2
          · rw [hset x x0 x1, if_neg e] at hzx
            exact K.tall x x0 x1 hrx hzx, hoff, K.ron, K.core⟩
        refine Ev.step (fun k => ?_) key
        rw [graph_Cyclic.l4, if_pos h1, if_pos (by omega), if_pos h1, rdAt, hon, Option.bind_some, if_pos c1, if_pos q0, if_pos (by rw [K.ins.1]; exact q1), Option.bind_some, if_neg c2, w1 (by omega)]
        simp
    · have key := ih X T (by omega) ⟨K.lr, ⟨K.ins.1, fun x x0 x1 => by
        rw [K.ins.2 x x0 x1]
        by_cases e : onb R P x = true
        · have e' : ¬ q = x := by rintro rfl; exact c1 e
          rw [if_pos e, if_pos e]; simp [List.count_cons, e']
        · rw [if_neg e, if_neg e]⟩, K.nd, K.tin, K.tall, K.off, K.ron, K.core⟩
      refine Ev.step (fun k => ?_) key
      rw [graph_Cyclic.l4, if_pos h1, if_pos (by omega), if_pos h1, rdAt, hon, Option.bind_some, if_neg c1, w1 (by omega)]
      simp
theorem rdB_get (s : List Bool) (q : Int) (h : rdOf false s q = true) : s.getD q.toNat false = true := by simpa [rdOf] using h
theorem set_false_count (s : List Bool) (i : Nat) (h : s.getD i false = true) : (s.set i false).count true + 1 = s.count true := by
  have hi : i < s.length := by
    rw [List.getD_eq_getElem?_getD] at h
    cases e : s[i]? with
    | none => simp [e] at h
    | some b => exact (List.getElem?_eq_some_iff.mp e).1
  have hx : s[i] = true := by
    rw [List.getD_eq_getElem?_getD, List.getElem?_eq_getElem hi] at h
    simpa using h
  have hm : 0 < s.count true := List.count_pos_iff.mpr (hx ▸ List.getElem_mem hi)
  rw [List.count_set hi]
  simp [hx]
  omega
theorem nd_nat : ∀ (n : Nat) (l : List Nat), l.Nodup → (∀ x ∈ l, x < n) → l.length ≤ n
  | 0, l, _, h => by
    cases l with
    | nil => simp
    | cons a l => have := h a (by simp); omega
  | n + 1, l, hn, h => by
    have h1 := nd_nat n (l.erase n) (hn.erase n) (by
      intro x hx
      have h2 := (hn.mem_erase_iff).mp hx
      have := h x h2.2
      have := h2.1
      omega)
    by_cases c : n ∈ l
    · rw [List.length_erase_of_mem c] at h1; omega
    · rw [List.erase_of_not_mem c] at h1; omega
theorem nd_len (T : List Int) (n : Nat) (hn : T.Nodup) (h : ∀ q ∈ T, 0 ≤ q ∧ q < (n : Int)) : T.length ≤ n := by
  have h1 : (T.map Int.toNat).Nodup := by
    rw [List.nodup_iff_pairwise_ne, List.pairwise_map]
    refine List.Pairwise.imp_of_mem ?_ (List.nodup_iff_pairwise_ne.mp hn)
    intro a b ha hb hab e
    have := h a ha
    have := h b hb
    omega
  have h2 := nd_nat n _ h1 (by
    intro x hx
    obtain ⟨y, hy, rfl⟩ := List.mem_map.mp hx
    have := h y hy
    omega)
  simpa using h2
theorem pos_true (s : List Bool) (h : 0 < s.count true) : ∃ q : Int, 0 ≤ q ∧ q < (s.length : Int) ∧ rdOf false s q = true := by
  obtain ⟨i, hi, e⟩ := List.mem_iff_getElem.mp (List.count_pos_iff.mp h)
  exact ⟨(i : Int), by omega, by omega, by simp [rdOf, hi, e]⟩
theorem cyc_l3 {g : List (List Int)} (hg : Neat g) (R P : List Bool) (hR : R.length = g.length) (r : Bool) (hr : r = true ↔ Circ g (onb R P)) : ∀ (m : Nat) (rem : List Bool) (X T : List Int), rem.count true < m → Kinv g (onb R P) rem X T [] → Ev (fun k => graph_Cyclic.l3 k g P R X ((rem.count true : Nat) : Int) T) r := by
  have hf := hg.few
  intro m
  induction m with
  | zero =>
    intro rem X T hm K
    omega
  | succ m ih =>
    intro rem X T hm K
    rcases List.eq_nil_or_concat T with e | ⟨T', i, e⟩
    · subst e
      refine Ev.step (fun k => ?_) (Ev.now r)
      rw [graph_Cyclic.l3, if_neg (by simp)]
      congr 1
      rw [Bool.eq_iff_iff, hr, decide_eq_true_iff]
      constructor
      · intro hp
        refine ⟨fun c => 0 ≤ c ∧ c < (g.length : Int) ∧ rdOf false rem c = true, ?_, ?_⟩
        · obtain ⟨q, h0, h1, h2⟩ := pos_true rem (by omega)
          exact ⟨q, h0, by rw [← K.lr]; exact h1, h2⟩
        · rintro c ⟨c0, c1, c2⟩
          have hon := K.ron c c0 c1 c2
          have hi := K.ins.2 c c0 c1
          rw [if_pos hon] at hi
          have hz : rd X c ≠ 0 := fun h => by have := K.tall c c0 c1 c2 h; simp at this
          have hpos : 0 < sm rem g c := by
            simp at hi
            omega
          obtain ⟨j, h1, h2⟩ := (sm_pos rem g c K.lr).mp hpos
          have hj : j < g.length := by
            rw [List.getD_eq_getElem?_getD] at h2
            cases e : g[j]? with
            | none => simp [e] at h2
            | some b => exact (List.getElem?_eq_some_iff.mp e).1
          exact ⟨c0, c1, hon, (j : Int), ⟨by omega, by omega, by simpa [rdOf] using h1⟩, by rw [rdLNat]; exact h2⟩
      · rintro ⟨C, ⟨c, hc⟩, hC⟩
        have h1 := K.core C hC c hc
        have h2 := set_false_count rem c.toNat (rdB_get _ _ h1)
        omega
    · rw [List.concat_eq_append] at e
      subst e
      obtain ⟨i0, i1, i2, i3⟩ := K.tin i (by simp)
      have hion := K.ron i i0 i1 i2
      have hcnt := set_false_count rem i.toNat (rdB_get _ _ i2)
      have hTl := nd_len _ g.length K.nd (fun q hq => ⟨(K.tin q hq).1, (K.tin q hq).2.1⟩)
      simp only [List.length_append, List.length_cons, List.length_nil] at hTl
      have hset : ∀ q : Int, 0 ≤ q → q < (g.length : Int) → rdOf false (rem.set i.toNat false) q = if q = i then false else rdOf false rem q := fun q q0 q1 => rdSetB rem i q false i0 q0 (by rw [K.lr]; exact q1)
      have hnd := List.nodup_append.mp K.nd
      have hsm : ∀ q, sm (rem.set i.toNat false) g q + (rd_L1 g i).count q = sm rem g q := fun q => by
        have := sm_set rem g q i.toNat K.lr (rdB_get _ _ i2)
        simpa [rd_L1] using this
      have hKX : Kinv g (onb R P) (rem.set i.toNat false) X T' (rd_L1 g i) := ⟨by simpa using K.lr, ⟨K.ins.1, fun q q0 q1 => by
          have := K.ins.2 q q0 q1
          simp only [List.count_nil, Nat.add_zero] at this
          show rd X q = if onb R P q = true then ((sm (rem.set i.toNat false) g q + List.count q (rd_L1 g i) : Nat) : Int) else 0
          rw [hsm]; exact this⟩, hnd.1, by
        intro q hq
        obtain ⟨b0, b1, b2, b3⟩ := K.tin q (by simp [hq])
        have e : q ≠ i := hnd.2.2 q hq i (by simp)
        exact ⟨b0, b1, by rw [hset q b0 b1, if_neg e]; exact b2, b3⟩, by
        intro q q0 q1 h1 h2
        rw [hset q q0 q1] at h1
        by_cases e : q = i
        · rw [if_pos e] at h1; cases h1
        · rw [if_neg e] at h1
          have := K.tall q q0 q1 h1 h2
          simpa [e] using this, by
        intro q q0 q1 h1 h2
        rw [hset q q0 q1] at h2
        by_cases e : q = i
        · subst e; exact i3
        · rw [if_neg e] at h2
          exact K.off q q0 q1 h1 h2, by
        intro q q0 q1 h1
        rw [hset q q0 q1] at h1
        by_cases e : q = i
        · subst e; exact hion
        · rw [if_neg e] at h1
          exact K.ron q q0 q1 h1, by
        intro C hC c hc
        obtain ⟨c0, c1, c2, c', hc', hcc⟩ := hC c hc
        rw [hset c c0 c1]
        by_cases e : c = i
        · exfalso
          subst e
          have h5 := K.core C hC c' hc'
          have h6 := (sm_pos rem g c K.lr).mpr ⟨c'.toNat, rdB_get _ _ h5, by simpa [rd_L1] using hcc⟩
          have h7 := K.ins.2 c c0 c1
          rw [if_pos hion, i3] at h7
          simp at h7
          omega
        · rw [if_neg e]; exact K.core C hC c hc⟩
      have hrs := row_short hg i
      have key := cyc_l4 hg R P hR (rem.set i.toNat false) (((rem.set i.toNat false).count true : Nat) : Int) r (fun X2 T2 K2 => ih _ X2 T2 (by omega) K2) (rd_L1 g i) [] X T' (by simpa using hrs) (row_pts hg i) (by omega) hKX
      have hx : wrap64 (((T' ++ [i]).length : Int) - 1) = (T'.length : Int) := by
        rw [show (T' ++ [i]).length = T'.length + 1 by simp]
        exact wl (by omega)
      have hp : rd (T' ++ [i]) (T'.length : Int) = i := rdAt T' i []
      have hcl : rem.count true ≤ g.length := by rw [← K.lr]; exact List.count_le_length
      have hxl : wrap64 (((rem.count true : Nat) : Int) - 1) = (((rem.set i.toNat false).count true : Nat) : Int) := by
        rw [← hcnt]
        exact wl (by omega)
      refine Ev.step (fun k => ?_) key
      rw [graph_Cyclic.l3, if_pos (by simp), hx, if_pos (by omega), if_pos (by simp; omega), if_pos (by simp; omega), hp, if_pos i0, if_pos i1, hxl]
      simp
theorem cyc_is {g : List (List Int)} (hg : Neat g) (R P : List Bool) (hR : R.length = g.length) (r : Bool) (hr : r = true ↔ Circ g (onb R P)) : Ev (fun k => graph_Cyclic.g k g P R) r := by
  have hf := hg.few
  have key := cyc_l0 hg R P hR r (by
    intro X hX
    have k3 := cyc_l3 hg R P hR r hr (g.length + 1) (onl R P g.length) X (tl R P X g.length) (by
      have := @List.count_le_length _ _ true (onl R P g.length)
      rw [onl_len] at this
      omega) ⟨onl_len _ _ _, ⟨hX.1, fun q q0 q1 => by simpa using hX.2 q q0 q1⟩, by
        unfold tl
        rw [List.nodup_iff_pairwise_ne, List.pairwise_map]
        refine List.Pairwise.imp ?_ ((List.nodup_iff_pairwise_ne.mp (List.nodup_range (n := g.length))).filter _)
        intro a b hab e
        omega, by
        intro q hq
        unfold tl at hq
        obtain ⟨j, hj, rfl⟩ := List.mem_map.mp hq
        obtain ⟨h1, h2⟩ := List.mem_filter.mp hj
        simp at h1 h2
        exact ⟨by omega, by omega, by rw [onl_at R P _ _ (by omega) (by omega)]; exact h2.1, h2.2⟩, by
        intro q q0 q1 h1 h2
        rw [onl_at R P _ _ q0 q1] at h1
        unfold tl
        refine List.mem_map.mpr ⟨q.toNat, List.mem_filter.mpr ⟨by simp; omega, ?_⟩, by omega⟩
        rw [Int.toNat_of_nonneg q0]
        simp [h1, h2], by
        intro q q0 q1 h1 h2
        rw [onl_at R P _ _ q0 q1] at h2
        rw [h1] at h2
        exact Bool.noConfusion h2, by
        intro q q0 q1 h1
        rw [onl_at R P _ _ q0 q1] at h1
        exact h1, by
        intro C hC c hc
        obtain ⟨c0, c1, c2, _⟩ := hC c hc
        rw [onl_at R P _ _ c0 c1]
        exact c2⟩
    exact cyc_l2 hg R P hR X hX.1 _ r k3 g.length 0 (by omega)) g [] (List.replicate g.length 0) rfl ⟨by simp, by
      intro q q0 q1
      have : q.toNat < g.length := by omega
      simp [rd, sm, onl, List.getElem?_replicate, this]⟩
  refine Ev.congr (fun k => ?_) key
  simp only [graph_Cyclic.g]
  rw [if_pos (by omega), if_pos (by omega)]
  simp [onl]
theorem Cyclic (g : List (List Int)) (hg : Small g) (P R : List Bool) (hR : R.length = (norm g).length) (h2 : Ev (fun k => graph_reach.f k (norm g) 0 (-1)) R) (r : Bool) (hr : r = true ↔ Circ (norm g) (onb R P)) : Ev (fun k => graph_Cyclic.f k g P) r :=
  Ev.bind (f := fun k t1 => (graph_reach.f k t1 0 (-1)).bind fun t2 => graph_Cyclic.g k t1 P t2) (clean g hg) (Ev.bind (f := fun k t2 => graph_Cyclic.g k (norm g) P t2) h2 (cyc_is (neat g hg) R P hR r hr))

def bareRow (N : List (List Int)) (R P : List Bool) (p : Nat) : List Int := if onb R P (p : Int) = true then (rd_L1 N (p : Int)).filter (okb P) else []
def bare (N : List (List Int)) (R P : List Bool) : List (List Int) := (List.range N.length).map (bareRow N R P)
theorem bare_neat {N : List (List Int)} (hN : Neat N) (R P : List Bool) : Neat (bare N R P) := by
  refine ⟨by simp [bare]; exact hN.few, ?_, ?_⟩
  · intro l hl
    obtain ⟨p, hp, rfl⟩ := List.mem_map.mp hl
    unfold bareRow
    split
    · exact Nat.le_trans (List.length_filter_le _ _) (row_short hN _)
    · simp
  · intro l hl q hq
    obtain ⟨p, hp, rfl⟩ := List.mem_map.mp hl
    unfold bareRow at hq
    have hb : (bare N R P).length = N.length := by simp [bare]
    rw [hb]
    split at hq
    · exact row_pts hN _ q (List.mem_filter.mp hq).1
    · cases hq
theorem bare_row (N : List (List Int)) (R P : List Bool) (p : Nat) (hp : p < N.length) : rd_L1 (bare N R P) (p : Int) = bareRow N R P p := by
  simp [rd_L1, bare, hp]
theorem bare_edge {N : List (List Int)} (R P : List Bool) (p q : Int) (p0 : 0 ≤ p) (p1 : p < (N.length : Int)) : q ∈ rd_L1 (bare N R P) p ↔ onb R P p = true ∧ q ∈ rd_L1 N p ∧ okb P q = true := by
  obtain ⟨n, rfl⟩ := Int.eq_ofNat_of_zero_le p0
  rw [bare_row N R P _ (by omega)]
  unfold bareRow
  split
  · rename_i h
    simp [List.mem_filter, h]
  · rename_i h
    simp [h]
theorem ref_l1 {N : List (List Int)} (hN : Neat N) (R P : List Bool) (hR : R.length = N.length) (p : Nat) (hp : p < N.length) (B : List (List Int)) (hB : B.length ≤ 100) (r : Bool) (hk : Ev (fun k => ratlineref10_Cyclic.l0 k P N R (B ++ [bareRow N R P p]) ((p + 1 : Nat) : Int)) r) : ∀ (suf pre : List Int), rd_L1 N (p : Int) = pre ++ suf →
    Ev (fun k => ratlineref10_Cyclic.l1 k P N R B (p : Int) (pre.filter (okb P)) (pre.length : Int)) r
  | [], pre, he => by
    have hf := hN.few
    have e : pre = rd_L1 N (p : Int) := by rw [he]; simp
    subst e
    refine Ev.step (fun k => ?_) hk
    rw [ratlineref10_Cyclic.l1, if_pos (by omega), if_pos (by omega), if_neg (by omega), w1 (by omega)]
    unfold bareRow onb okb
    by_cases c1 : (p : Int) < (P.length : Int)
    · rw [if_pos c1]
      by_cases c2 : rdOf false P (p : Int) = true
      · rw [if_pos c2, if_pos (by omega)]
        simp [c1, c2]
      · rw [if_neg c2, if_pos (by omega)]
        by_cases c3 : rdOf false R (p : Int) = true
        · rw [if_pos c3, if_pos (by omega)]
          simp [c1, c2, c3]
        · rw [if_neg c3, if_pos (by omega)]
          simp [c1, c2, c3]
    · rw [if_neg c1, if_pos (by omega)]
      by_cases c3 : rdOf false R (p : Int) = true
      · rw [if_pos c3, if_pos (by omega)]
        simp [c1, c3]
      · rw [if_neg c3, if_pos (by omega)]
        simp [c1, c3]
  | q :: suf, pre, he => by
    have hshort := row_short hN (p : Int)
    have hlen : (rd_L1 N (p : Int)).length = pre.length + 1 + suf.length := by rw [he]; simp; omega
    have h1 : ((pre.length : Nat) : Int) < ((rd_L1 N (p : Int)).length : Int) := by omega
    have hq : rd (rd_L1 N (p : Int)) (pre.length : Int) = q := by rw [he, rdAt]
    obtain ⟨q0, q1⟩ := row_pts hN (p : Int) q (by rw [he]; simp)
    have ih := ref_l1 hN R P hR p hp B hB r hk suf (pre ++ [q]) (by simp [he])
    have hfl : (pre.filter (okb P)).length ≤ pre.length := List.length_filter_le _ _
    refine Ev.step (fun k => ?_) ih
    rw [ratlineref10_Cyclic.l1, if_pos (by omega), if_pos (by omega), if_pos h1, if_pos (by omega), hq, w1 (by omega)]
    by_cases c1 : q ≥ (P.length : Int)
    · have e : okb P q = true := by unfold okb; simp; exact .inl c1
      rw [if_pos c1, if_pos (by omega)]
      simp [List.filter_append, e]
    · rw [if_neg c1, if_pos q0, if_pos (by omega)]
      by_cases c2 : rdOf false P q = true
      · have e : okb P q = false := by unfold okb; simp [c2]; omega
        rw [if_pos c2]
        simp [List.filter_append, e]
      · have e : okb P q = true := by unfold okb; simp [c2]
        rw [if_neg c2, if_pos (by omega)]
        simp [List.filter_append, e]
theorem ref_l0 {N : List (List Int)} (hN : Neat N) (R P : List Bool) (hR : R.length = N.length) (r : Bool) (hk : Ev (fun k => ratlineref10_Cyclic.l2 k (bare N R P) 0) r) : ∀ (m p : Nat), p + m = N.length → Ev (fun k => ratlineref10_Cyclic.l0 k P N R ((List.range p).map (bareRow N R P)) (p : Int)) r
  | 0, p, h => by
    have : p = N.length := by omega
    subst this
    refine Ev.step (fun k => ?_) hk
    rw [ratlineref10_Cyclic.l0, if_neg (by omega)]
    rfl
  | m + 1, p, h => by
    have hf := hN.few
    have ih := ref_l0 hN R P hR r hk m (p + 1) (by omega)
    rw [List.range_succ, List.map_append] at ih
    have key := ref_l1 hN R P hR p (by omega) ((List.range p).map (bareRow N R P)) (by simp; omega) r ih (rd_L1 N (p : Int)) [] rfl
    refine Ev.step (fun k => ?_) key
    rw [ratlineref10_Cyclic.l0, if_pos (by omega)]
    rfl
theorem ref_l3 {B : List (List Int)} (hB : Neat B) (p : Nat) (hp : p < B.length) (r : Bool) (hr : (∃ q, q ∈ rd_L1 B (p : Int) ∧ Rt B q (p : Int)) → r = true)
    (hk : (∀ q ∈ rd_L1 B (p : Int), ¬ Rt B q (p : Int)) → Ev (fun k => ratlineref10_Cyclic.l2 k B ((p + 1 : Nat) : Int)) r) : ∀ (suf pre : List Int), rd_L1 B (p : Int) = pre ++ suf → (∀ q ∈ pre, ¬ Rt B q (p : Int)) →
    Ev (fun k => ratlineref10_Cyclic.l3 k B (p : Int) (pre.length : Int)) r
  | [], pre, he, ha => by
    have hf := hB.few
    have e : pre = rd_L1 B (p : Int) := by rw [he]; simp
    subst e
    refine Ev.step (fun k => ?_) (hk ha)
    rw [ratlineref10_Cyclic.l3, if_pos (by omega), if_pos (by omega), if_neg (by omega), w1 (by omega)]
  | q :: suf, pre, he, ha => by
    have hf := hB.few
    have hshort := row_short hB (p : Int)
    have hlen : (rd_L1 B (p : Int)).length = pre.length + 1 + suf.length := by rw [he]; simp; omega
    have h1 : ((pre.length : Nat) : Int) < ((rd_L1 B (p : Int)).length : Int) := by omega
    have hq : rd (rd_L1 B (p : Int)) (pre.length : Int) = q := by rw [he, rdAt]
    have hqm : q ∈ rd_L1 B (p : Int) := by rw [he]; simp
    obtain ⟨q0, q1⟩ := row_pts hB (p : Int) q hqm
    obtain ⟨t, t1, _, t3⟩ := come_is hB q (-1) q0
    have hrt := come_rt hB q0 q1 t1 (p : Int) (by omega) (by omega)
    have e : Ev (fun k => if (p : Int) < (t.length : Int) then (if rdOf false t (p : Int) = true then (some true) else (ratlineref10_Cyclic.l3 k B (p : Int) (wrap64 ((pre.length : Int) + 1)))) else none) r := by
      have htl := t1.1
      by_cases c : rdOf false t (p : Int) = true
      · have := hr ⟨q, hqm, hrt.mp c⟩
        subst this
        refine Ev.congr (fun k => ?_) (Ev.now true)
        rw [if_pos (by omega), if_pos c]
      · have ih := ref_l3 hB p hp r hr hk suf (pre ++ [q]) (by simp [he]) (by
          intro x hx
          rcases List.mem_append.mp hx with h | h
          · exact ha x h
          · simp at h
            subst h
            exact fun h => c (hrt.mpr h))
        refine Ev.congr (fun k => ?_) ih
        rw [if_pos (by omega), if_neg c, w1 (by omega)]
        simp
    have e2 := Ev.bind (f := fun k (t583 : List Bool) => if (p : Int) < (t583.length : Int) then (if rdOf false t583 (p : Int) = true then (some true) else (ratlineref10_Cyclic.l3 k B (p : Int) (wrap64 ((pre.length : Int) + 1)))) else none) t3 e
    refine Ev.step (fun k => ?_) e2
    rw [ratlineref10_Cyclic.l3, if_pos (by omega), if_pos (by omega), if_pos h1, if_pos (by omega), hq]
theorem ref_l2 {B : List (List Int)} (hB : Neat B) (r : Bool) (hr : r = true ↔ ∃ p q : Int, 0 ≤ p ∧ p < (B.length : Int) ∧ q ∈ rd_L1 B p ∧ Rt B q p) : ∀ (m p : Nat), p + m = B.length → (∀ p' : Nat, p' < p → ∀ q ∈ rd_L1 B (p' : Int), ¬ Rt B q (p' : Int)) → Ev (fun k => ratlineref10_Cyclic.l2 k B (p : Int)) r
  | 0, p, h, ha => by
    have : p = B.length := by omega
    subst this
    have hr' : r = false := by
      cases r with
      | false => rfl
      | true =>
        obtain ⟨p, q, p0, p1, h1, h2⟩ := hr.mp rfl
        have e : p = ((p.toNat : Nat) : Int) := by omega
        rw [e] at h1 h2
        exact absurd h2 (ha p.toNat (by omega) q h1)
    subst hr'
    refine Ev.step (fun k => ?_) (Ev.now false)
    rw [ratlineref10_Cyclic.l2, if_neg (by omega)]
  | m + 1, p, h, ha => by
    have key := ref_l3 hB p (by omega) r (fun ⟨q, h1, h2⟩ => hr.mpr ⟨(p : Int), q, by omega, by omega, h1, h2⟩) (fun hn => ref_l2 hB r hr m (p + 1) (by omega) (by
      intro p' hp' q hq
      by_cases e : p' = p
      · subst e; exact hn q hq
      · exact ha p' (by omega) q hq)) (rd_L1 B (p : Int)) [] rfl (by simp)
    refine Ev.step (fun k => ?_) key
    rw [ratlineref10_Cyclic.l2, if_pos (by omega)]
    rfl
theorem rt_trans {g : List (List Int)} {a b c : Int} (h1 : Rt g a b) (h2 : Rt g b c) : Rt g a c := by
  induction h2 with
  | refl => exact h1
  | step h e ih => exact .step ih e
theorem on_next {N : List (List Int)} (hN : Neat N) {R P : List Bool} (hR : Come N 0 (-1) R) {u v : Int} (u0 : 0 ≤ u) (u1 : u < (N.length : Int)) (hu : onb R P u = true) (h : v ∈ rd_L1 N u) (hv : okb P v = true) : onb R P v = true := by
  obtain ⟨v0, v1⟩ := row_pts hN u v h
  unfold onb at hu ⊢
  rw [Bool.and_eq_true] at hu ⊢
  refine ⟨?_, hv⟩
  exact (come_rt hN (by omega) (by omega) hR v v0 v1).mpr (.step ((come_rt hN (by omega) (by omega) hR u u0 u1).mp hu.1) h)
theorem countP_lt {α : Type} (p q : α → Bool) : ∀ l : List α, (∀ x ∈ l, p x = true → q x = true) → (∃ x ∈ l, q x = true ∧ p x = false) → l.countP p < l.countP q
  | [], _, ⟨x, hx, _⟩ => by cases hx
  | y :: l, h, ⟨x, hx, h1, h2⟩ => by
    have hm : l.countP p ≤ l.countP q := by
      refine List.countP_mono_left ?_
      intro z hz
      exact h z (by simp [hz])
    rw [List.countP_cons, List.countP_cons]
    rcases List.mem_cons.mp hx with e | e
    · subst e
      simp [h1, h2]
      omega
    · have ih := countP_lt p q l (fun z hz => h z (by simp [hz])) ⟨x, e, h1, h2⟩
      have hy := h y (by simp)
      by_cases c : p y = true
      · simp [c, hy c]; omega
      · have c' : p y = false := by simpa using c
        simp only [c', Bool.false_eq_true, if_false]
        split <;> omega
open Classical in
theorem circ_bare {N : List (List Int)} (hN : Neat N) {R P : List Bool} (hR : Come N 0 (-1) R) : Circ N (onb R P) ↔ ∃ p q : Int, 0 ≤ p ∧ p < ((bare N R P).length : Int) ∧ q ∈ rd_L1 (bare N R P) p ∧ Rt (bare N R P) q p := by
  have hbl : (bare N R P).length = N.length := by simp [bare]
  have hB := bare_neat hN R P
  constructor
  · rintro ⟨C, ⟨c, hc⟩, hC⟩
    refine Classical.byContradiction fun hno => ?_
    have hst : ∀ a b : Int, C a → C b → b ∈ rd_L1 N a → b ∈ rd_L1 (bare N R P) a := by
      intro a b ha hb hab
      obtain ⟨a0, a1, a2, _⟩ := hC a ha
      obtain ⟨b0, b1, b2, _⟩ := hC b hb
      refine (bare_edge R P a b a0 a1).mpr ⟨a2, hab, ?_⟩
      unfold onb at b2
      rw [Bool.and_eq_true] at b2
      exact b2.2
    have main : ∀ (m : Nat) (c : Int), C c → (List.range N.length).countP (fun x : Nat => decide (∃ y, y ∈ rd_L1 (bare N R P) (x : Int) ∧ Rt (bare N R P) y c)) < m → False := by
      intro m
      induction m with
      | zero => intro c _ h; omega
      | succ m ih =>
        intro c hc hm
        obtain ⟨c0, c1, c2, c', hc', hcc⟩ := hC c hc
        obtain ⟨d0, d1, _, _⟩ := hC c' hc'
        have he := hst c' c hc' hc hcc
        refine ih c' hc' (Nat.lt_of_lt_of_le (countP_lt _ _ _ ?_ ⟨c'.toNat, by simp; omega, ?_, ?_⟩) (Nat.le_of_lt_succ hm))
        · intro x _ hx
          simp only [decide_eq_true_iff] at hx ⊢
          obtain ⟨y, h1, h2⟩ := hx
          exact ⟨y, h1, .step h2 he⟩
        · simp only [decide_eq_true_iff]
          exact ⟨c, by rw [Int.toNat_of_nonneg d0]; exact he, .refl⟩
        · simp only [decide_eq_false_iff_not]
          rintro ⟨y, h1, h2⟩
          rw [Int.toNat_of_nonneg d0] at h1
          exact hno ⟨c', y, d0, by rw [hbl]; exact d1, h1, h2⟩
    exact main _ c hc (Nat.lt_succ_self _)
  · rintro ⟨p, q, p0, p1, hpq, hr⟩
    rw [hbl] at p1
    have hpq' := (bare_edge R P p q p0 p1).mp hpq
    have hqon := on_next hN hR p0 p1 hpq'.1 hpq'.2.1 hpq'.2.2
    have hall : ∀ x, Rt (bare N R P) q x → 0 ≤ x ∧ x < (N.length : Int) ∧ onb R P x = true ∧ (x = q ∨ ∃ y, Rt (bare N R P) q y ∧ x ∈ rd_L1 (bare N R P) y) := by
      intro x hx
      induction hx with
      | refl => obtain ⟨q0, q1⟩ := row_pts hN p q hpq'.2.1; exact ⟨q0, q1, hqon, .inl rfl⟩
      | @step b c h e ih =>
        obtain ⟨b0, b1, b2, _⟩ := ih
        have he := (bare_edge R P b c b0 b1).mp e
        obtain ⟨q0, q1⟩ := row_pts hN b c he.2.1
        exact ⟨q0, q1, on_next hN hR b0 b1 b2 he.2.1 he.2.2, .inr ⟨b, h, e⟩⟩
    refine ⟨fun x => Rt (bare N R P) q x ∧ Rt (bare N R P) x p, ⟨q, .refl, hr⟩, ?_⟩
    rintro x ⟨h1, h2⟩
    obtain ⟨x0, x1, x2, x3⟩ := hall x h1
    refine ⟨x0, x1, x2, ?_⟩
    rcases x3 with e | ⟨y, h3, h4⟩
    · subst e
      exact ⟨p, ⟨hr, .refl⟩, hpq'.2.1⟩
    · obtain ⟨y0, y1, _, _⟩ := hall y h3
      exact ⟨y, ⟨h3, rt_trans (.step .refl h4) h2⟩, ((bare_edge R P y x y0 y1).mp h4).2.1⟩
open Classical in
theorem BothCyclic (g : List (List Int)) (hg : Small g) (P : List Bool) : ∃ r : Bool, Ev (fun k => graph_Cyclic.f k g P) r ∧ Ev (fun k => ratlineref10_Cyclic.f k g P) r := by
  have hn := neat g hg
  obtain ⟨R, h1, h2, h3⟩ := come_is hn 0 (-1) (by omega)
  have hr : decide (Circ (norm g) (onb R P)) = true ↔ Circ (norm g) (onb R P) := decide_eq_true_iff
  refine ⟨decide (Circ (norm g) (onb R P)), Cyclic g hg P R h1.1 h2 _ hr, ?_⟩
  have e2 := ref_l2 (bare_neat hn R P) _ (hr.trans (circ_bare hn h1)) (bare (norm g) R P).length 0 (by omega) (by intro p' h; omega)
  have e0 := ref_l0 hn R P h1.1 _ e2 (norm g).length 0 (by omega)
  refine Ev.bind (f := fun k t546 => (ratlineref10_from.f k t546 0 (-1)).bind fun t549 => (ratlineref10_Cyclic.l0 k P t546 t549 ([] : List (List Int)) 0)) (refNorm g hg) (Ev.bind (f := fun k t549 => ratlineref10_Cyclic.l0 k P (norm g) t549 ([] : List (List Int)) 0) h3 ?_)
  exact e0
end Go.Proofs.Ytjflddnmkajleaa.Norm
