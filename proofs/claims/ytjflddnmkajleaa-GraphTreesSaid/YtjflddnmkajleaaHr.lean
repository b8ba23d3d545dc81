/- Plain laws of layer 10 that this claim reaches: the graph without doubles, ways, counts. -/
import Derived.Test.YtjflddnmkajleaaGt
import Derived.Test.YtjflddnmkajleaaPGx2
import Derived.Test.YtjflddnmkajleaaPGx4
import Derived.Test.YtjflddnmkajleaaPGx6
import Derived.Test.YtjflddnmkajleaaPGx7
import Derived.Test.YtjflddnmkajleaaPGx8
import Derived.Test.YtjflddnmkajleaaPGx9
import Derived.Test.YtjflddnmkajleaaPGx10
import Derived.Test.YtjflddnmkajleaaPGx20
import Derived.Test.YtjflddnmkajleaaPGx22
import Derived.Test.YtjflddnmkajleaaPGx25
import Derived.Test.YtjflddnmkajleaaPGx31
import Derived.Test.YtjflddnmkajleaaPGx39
namespace Go.Proofs.Ytjflddnmkajleaa.Norm
set_option linter.unusedVariables false
set_option linter.unusedSimpArgs false
open Go.RowKit Go.Proofs.Ytjflddnmkajleaa.PG Go.Proofs.YtjflddnmkajleaaW.PrintWords Go.Proofs.YtjflddnmkajleaaW.PrintLast Go.Proofs.Ytjflddnmkajleaa.Dm

theorem w1 {n : Nat} (h : n < 100000000000000) : wrap64 ((n : Int) + 1) = ((n + 1 : Nat) : Int) := by
  unfold wrap64
  omega
theorem rdAt (pre : List Int) (q : Int) (suf : List Int) : rd (pre ++ q :: suf) (pre.length : Int) = q := by
  simp [rd, List.getD]
theorem rdAtL (pre : List (List Int)) (q : List Int) (suf : List (List Int)) : rd_L1 (pre ++ q :: suf) (pre.length : Int) = q := by
  simp [rd_L1, List.getD]
theorem rdNat (l : List Int) (i : Nat) : rd l (i : Int) = l.getD i 0 := by simp [rd]
theorem rdLNat (l : List (List Int)) (i : Nat) : rd_L1 l (i : Int) = l.getD i [] := by simp [rd_L1]

/-- A row without what is no point and without doubles, behind what is there. -/
def nrow (n : Nat) : List Int → List Int → List Int
  | acc, [] => acc
  | acc, q :: l => if 0 ≤ q ∧ q < (n : Int) ∧ q ∉ acc then nrow n (acc ++ [q]) l else nrow n acc l
def norm (g : List (List Int)) : List (List Int) := g.map (nrow g.length [])

theorem nrow_len (n : Nat) : ∀ (l acc : List Int), (nrow n acc l).length ≤ acc.length + l.length
  | [], acc => by simp [nrow]
  | q :: l, acc => by
    simp only [nrow]
    split
    · have := nrow_len n l (acc ++ [q]); simp at this ⊢; omega
    · have := nrow_len n l acc; simp; omega
theorem nrow_in (n : Nat) : ∀ (l acc : List Int), (∀ q ∈ acc, 0 ≤ q ∧ q < (n : Int)) → ∀ q ∈ nrow n acc l, 0 ≤ q ∧ q < (n : Int)
  | [], acc, h => by simpa [nrow] using h
  | q :: l, acc, h => by
    simp only [nrow]
    split
    · rename_i hq
      refine nrow_in n l (acc ++ [q]) ?_
      intro x hx
      rcases List.mem_append.mp hx with hx | hx
      · exact h x hx
      · simp at hx; subst hx; exact ⟨hq.1, hq.2.1⟩
    · exact nrow_in n l acc h

/-- Small: as the law's own test has it. -/
def Small (g : List (List Int)) : Prop := g.length ≤ 64 ∧ ∀ l ∈ g, l.length ≤ 60
theorem set_at {α : Type} (a : List α) (x v : α) (b : List α) : (a ++ x :: b).set a.length v = a ++ v :: b := by
  simp
theorem clean_l1 (n : Nat) (hn : n ≤ 64) (x0 x15 : List (List Int)) (x16 : Int) (h0 : x0.length = n) (dn : List (List Int)) (rest : List (List Int)) (hd : (dn.length + 1 + rest.length) = n) (r : List (List Int)) (x17 : Int) :
    ∀ (suf pre acc last : List Int), pre.length + suf.length ≤ 60 → acc.length ≤ pre.length → last.length = n →
      (∀ q : Int, 0 ≤ q → q < (n : Int) → (rd last q = ((dn.length + 1 : Nat) : Int) ↔ q ∈ acc)) → (∀ q : Int, 0 ≤ q → q < (n : Int) → rd last q ≤ ((dn.length + 1 : Nat) : Int)) →
      (∀ last' : List Int, last'.length = n → (∀ q : Int, 0 ≤ q → q < (n : Int) → rd last' q ≤ ((dn.length + 1 : Nat) : Int)) → Ev (fun k => graph_clean.l0 k x0 (dn ++ nrow n acc suf :: rest) last' x15 x16 (wrap64 (x17 + 1))) r) →
      Ev (fun k => graph_clean.l1 k x0 (dn ++ acc :: rest) last (dn.length : Int) x15 x16 x17 (pre ++ suf) ((pre ++ suf).length : Int) (pre.length : Int)) r
  | [], pre, acc, last, hl, ha, hll, hla, hlb, hk => by
    refine Ev.step (fun k => ?_) (hk last hll hlb)
    rw [graph_clean.l1, if_neg (by simp)]
    rfl
  | q :: suf, pre, acc, last, hl, ha, hll, hla, hlb, hk => by
    simp only [List.length_cons] at hl
    have h1 : ((pre.length : Nat) : Int) < ((pre ++ q :: suf).length : Int) := by simp; omega
    have ih := fun acc' last' => clean_l1 n hn x0 x15 x16 h0 dn rest hd r x17 suf (pre ++ [q]) acc' last' (by simp; omega)
    have skip : ¬ (0 ≤ q ∧ q < (n : Int) ∧ q ∉ acc) → Ev (fun k => graph_clean.l1 k x0 (dn ++ acc :: rest) last (dn.length : Int) x15 x16 x17 (pre ++ q :: suf) ((pre ++ q :: suf).length : Int) (wrap64 ((pre.length : Int) + 1))) r := by
      intro hno
      have hk' := hk
      simp only [nrow] at hk'
      simp only [if_neg hno] at hk'
      have := ih acc last (by simp; omega) hll hla hlb hk'
      rw [w1 (by omega)]
      simpa using this
    by_cases c1 : rd (pre ++ q :: suf) (pre.length : Int) ≥ 0
    · have c1' := c1
      rw [rdAt] at c1'
      by_cases c2 : rd (pre ++ q :: suf) (pre.length : Int) < (x0.length : Int)
      · have c2' := c2
        rw [rdAt] at c2'
        have cl : rd (pre ++ q :: suf) (pre.length : Int) < (last.length : Int) := by rw [rdAt]; omega
        by_cases c3 : rd last q = ((dn.length + 1 : Nat) : Int)
        · refine Ev.step (fun k => ?_) (skip ?_)
          · rw [graph_clean.l1, if_pos h1, if_pos (by omega), if_pos h1, if_pos c1, if_pos c2, if_pos c1, if_pos cl, if_pos (by rw [rdAt, c3, w1 (by omega)])]
          · have := (hla q c1' (by omega)).mp c3
            intro hh; exact hh.2.2 this
        · have hq : 0 ≤ q ∧ q < (n : Int) ∧ q ∉ acc := ⟨c1', by omega, fun hm => c3 ((hla q c1' (by omega)).mpr hm)⟩
          have hk' := hk
          simp only [nrow] at hk'
          simp only [if_pos hq] at hk'
          have hset : ∀ p : Int, 0 ≤ p → p < (n : Int) → rd (last.set q.toNat ((dn.length + 1 : Nat) : Int)) p = if p = q then ((dn.length + 1 : Nat) : Int) else rd last p := by
            intro p hp hpn
            simp only [rd, List.getD_eq_getElem?_getD, List.getElem?_set]
            by_cases hpq : p = q
            · subst hpq
              have : p.toNat < last.length := by omega
              simp [this]
            · have : ¬ q.toNat = p.toNat := by omega
              simp [hpq, this]
          have := ih (acc ++ [q]) (last.set q.toNat ((dn.length + 1 : Nat) : Int)) (by simp; omega) (by simpa using hll) (by
            intro p hp hpn
            rw [hset p hp hpn]
            by_cases hpq : p = q
            · simp [hpq]
            · simp only [hpq, if_false, List.mem_append, List.mem_singleton, or_false]
              exact hla p hp hpn) (by
            intro p hp hpn
            rw [hset p hp hpn]
            split
            · exact Int.le_refl _
            · exact hlb p hp hpn) hk'
          refine Ev.step (fun k => ?_) this
          rw [graph_clean.l1, if_pos h1, if_pos (by omega), if_pos h1, if_pos c1, if_pos c2, if_pos c1, if_pos cl, if_neg (by rw [rdAt, w1 (by omega)]; exact c3), if_pos (by omega), if_pos (by simp; omega), if_pos (by rw [rdAtL]; omega)]
          rw [rdAtL, rdAt, w1 (by omega), w1 (by omega)]
          simp
      · refine Ev.step (fun k => ?_) (skip ?_)
        · rw [graph_clean.l1, if_pos h1, if_pos (by omega), if_pos h1, if_pos c1, if_neg c2]
        · rw [rdAt] at c2
          omega
    · refine Ev.step (fun k => ?_) (skip ?_)
      · rw [graph_clean.l1, if_pos h1, if_pos (by omega), if_pos h1, if_neg c1]
      · rw [rdAt] at c1
        omega

theorem clean_l0 (g : List (List Int)) (hg : Small g) : ∀ (suf pre : List (List Int)) (last : List Int), g = pre ++ suf → last.length = g.length →
      (∀ q : Int, 0 ≤ q → q < (g.length : Int) → rd last q ≤ (pre.length : Int)) →
      Ev (fun k => graph_clean.l0 k g (pre.map (nrow g.length []) ++ List.replicate suf.length []) last g (g.length : Int) (pre.length : Int)) (norm g)
  | [], pre, last, he, hll, hlb => by
    refine Ev.step (fun k => ?_) (Ev.now _)
    simp only [List.append_nil] at he
    subst he
    rw [graph_clean.l0, if_neg (by omega)]
    simp [norm]
  | l :: suf, pre, last, he, hll, hlb => by
    have hlen : g.length = pre.length + 1 + suf.length := by rw [he]; simp; omega
    have hs := hg.1
    have hl : l.length ≤ 60 := hg.2 l (by rw [he]; simp)
    have key := clean_l1 g.length hg.1 g g (g.length : Int) rfl (pre.map (nrow g.length [])) (List.replicate suf.length []) (by simp; omega) (norm g) (pre.length : Int) l [] [] last (by simpa using hl) (by simp) hll
      (by
        intro q h0 h1
        have := hlb q h0 h1
        simp only [List.length_map, List.not_mem_nil, iff_false]
        omega)
      (by
        intro q h0 h1
        have := hlb q h0 h1
        simp only [List.length_map]
        omega)
      (by
        intro last' hl' hb'
        have := clean_l0 g hg suf (pre ++ [l]) last' (by rw [he]; simp) hl' (by
          intro q h0 h1
          have := hb' q h0 h1
          simpa using this)
        rw [w1 (by omega)]
        simpa using this)
    refine Ev.step (fun k => ?_) key
    have hx : ((pre.length : Nat) : Int) < (g.length : Int) := by omega
    rw [graph_clean.l0, if_pos hx, if_pos (by omega), if_pos hx]
    have hrow : rd_L1 g (pre.length : Int) = l := by rw [he, rdAtL]
    rw [hrow]
    simp [List.replicate_succ]
theorem clean (g : List (List Int)) (hg : Small g) : Ev (fun k => graph_clean.f k g) (norm g) := by
  have := clean_l0 g hg g [] (List.replicate g.length 0) rfl (by simp) (by
    intro q h0 h1
    simp [rd, List.getD_eq_getElem?_getD, List.getElem?_replicate]
    split <;> simp)
  refine Ev.congr (fun k => ?_) this
  have hs := hg.1
  simp only [graph_clean.f]
  rw [if_pos (by omega), if_pos (by omega), if_pos (by omega)]
  simp

/-- What a graph without strange points is. -/
structure Neat (g : List (List Int)) : Prop where
  few : g.length ≤ 64
  short : ∀ l ∈ g, l.length ≤ 60
  pts : ∀ l ∈ g, ∀ q ∈ l, 0 ≤ q ∧ q < (g.length : Int)
theorem norm_length (g : List (List Int)) : (norm g).length = g.length := by simp [norm]
theorem neat (g : List (List Int)) (hg : Small g) : Neat (norm g) := by
  refine ⟨by rw [norm_length]; exact hg.1, ?_, ?_⟩
  · intro l hl
    simp only [norm, List.mem_map] at hl
    obtain ⟨l', h', rfl⟩ := hl
    have := nrow_len g.length l' []
    have := hg.2 l' h'
    simp at *
    omega
  · intro l hl q hq
    rw [norm_length]
    simp only [norm, List.mem_map] at hl
    obtain ⟨l', h', rfl⟩ := hl
    exact nrow_in g.length l' [] (by simp) q hq

def pin (i : Int) : List (List Int) → List Int → List (List Int)
  | o, [] => o
  | o, q :: l => pin i (o.set q.toNat (o.getD q.toNat [] ++ [i])) l
def pall : Nat → List (List Int) → List (List Int) → List (List Int)
  | _, o, [] => o
  | i, o, l :: g => pall (i + 1) (pin (i : Int) o l) g
theorem pin_len (i : Int) : ∀ (l : List Int) (o : List (List Int)), (pin i o l).length = o.length
  | [], o => rfl
  | q :: l, o => by simp [pin, pin_len i l]
theorem push_lb {c : Nat} {o : List (List Int)} (h : ∀ l ∈ o, l.length ≤ c) (q : Nat) (i : Int) : ∀ l ∈ o.set q (o.getD q [] ++ [i]), l.length ≤ c + 1 := by
  intro l hl
  rcases List.mem_or_eq_of_mem_set hl with hl | hl
  · have := h l hl; omega
  · subst hl
    rw [List.length_append, List.getD_eq_getElem?_getD]
    cases ho : o[q]? with
    | none => simp
    | some x => 
      have := h x (List.mem_of_getElem? ho)
      simp; omega
theorem pin_lb (i : Int) : ∀ (l : List Int) (o : List (List Int)) (c : Nat), (∀ r ∈ o, r.length ≤ c) → ∀ r ∈ pin i o l, r.length ≤ c + l.length
  | [], o, c, h => by simpa [pin] using h
  | q :: l, o, c, h => by
    intro r hr
    simp only [pin] at hr
    have := pin_lb i l _ (c + 1) (push_lb h q.toNat i) r hr
    simp; omega

theorem preds_l1 (g0 : List (List Int)) (n : Nat) (x12 x13 : Int) (i : Nat) (r : List (List Int)) : ∀ (suf pre : List Int) (o : List (List Int)) (c : Nat), pre.length + suf.length ≤ 60 → c + suf.length ≤ 100000 → o.length = n → (∀ q ∈ suf, 0 ≤ q ∧ q < (n : Int)) → (∀ l ∈ o, l.length ≤ c) →
    Ev (fun k => graph_preds.l0 k (pin (i : Int) o suf) g0 x12 (wrap64 (x13 + 1))) r →
    Ev (fun k => graph_preds.l1 k o (i : Int) g0 x12 x13 (pre ++ suf) ((pre ++ suf).length : Int) (pre.length : Int)) r
  | [], pre, o, c, hl, hc, ho, hq, hb, hk => by
    refine Ev.step (fun k => ?_) hk
    rw [graph_preds.l1, if_neg (by simp)]
    rfl
  | q :: suf, pre, o, c, hl, hc, ho, hq, hb, hk => by
    simp only [List.length_cons] at hl hc
    have h1 : ((pre.length : Nat) : Int) < ((pre ++ q :: suf).length : Int) := by simp; omega
    obtain ⟨q0, q1⟩ := hq q (by simp)
    have hd : rd_L1 o q = o.getD q.toNat [] := rfl
    have hlen : (rd_L1 o q).length ≤ c := by
      rw [hd, List.getD_eq_getElem?_getD]
      cases hx : o[q.toNat]? with
      | none => simp
      | some x => exact hb x (List.mem_of_getElem? hx)
    have ih := preds_l1 g0 n x12 x13 i r suf (pre ++ [q]) (o.set q.toNat (o.getD q.toNat [] ++ [(i : Int)])) (c + 1) (by simp; omega) (by omega) (by simpa using ho) (fun x hx => hq x (by simp [hx])) (push_lb hb _ _) hk
    refine Ev.step (fun k => ?_) ih
    rw [graph_preds.l1, if_pos h1, if_pos (by omega), if_pos h1, if_pos (by rw [rdAt]; exact q0), if_pos (by rw [rdAt]; omega), if_pos (by rw [rdAt]; omega), rdAt, w1 (by omega), hd]
    simp
theorem preds_l0 (g : List (List Int)) (hg : Neat g) : ∀ (suf pre : List (List Int)) (o : List (List Int)), g = pre ++ suf → o.length = g.length → (∀ l ∈ o, l.length ≤ pre.length * 60) →
    Ev (fun k => graph_preds.l0 k o g (g.length : Int) (pre.length : Int)) (pall pre.length o suf)
  | [], pre, o, he, ho, hb => by
    refine Ev.step (fun k => ?_) (Ev.now _)
    rw [graph_preds.l0, if_neg (by rw [he]; simp)]
    rfl
  | l :: suf, pre, o, he, ho, hb => by
    have hlen : g.length = pre.length + 1 + suf.length := by rw [he]; simp; omega
    have hs := hg.few
    have hlm : l ∈ g := by rw [he]; simp
    have hll := hg.short l hlm
    have hrow : rd_L1 g (pre.length : Int) = l := by rw [he, rdAtL]
    have ih := preds_l0 g hg suf (pre ++ [l]) (pin (pre.length : Int) o l) (by simp [he]) (by rw [pin_len]; exact ho) (by
      intro r hr
      have := pin_lb _ l o _ hb r hr
      simp; omega)
    have key := preds_l1 g g.length (g.length : Int) (pre.length : Int) pre.length (pall (pre.length + 1) (pin (pre.length : Int) o l) suf) l [] o (pre.length * 60) (by simpa using hll) (by omega) ho (fun q hq => hg.pts l hlm q hq) hb (by rw [w1 (by omega)]; simpa using ih)
    refine Ev.step (fun k => ?_) key
    have hx : ((pre.length : Nat) : Int) < (g.length : Int) := by omega
    rw [graph_preds.l0, if_pos hx, if_pos (by omega), if_pos hx, hrow]
    rfl
theorem preds (g : List (List Int)) (hg : Neat g) : Ev (fun k => graph_preds.f k g) (pall 0 (List.replicate g.length []) g) := by
  have := preds_l0 g hg g [] (List.replicate g.length []) rfl (by simp) (by
    intro l hl
    rw [List.eq_of_mem_replicate hl]
    simp)
  refine Ev.congr (fun k => ?_) this
  have hs := hg.few
  simp only [graph_preds.f]
  rw [if_pos (by omega), if_pos (by omega)]
  simp

theorem pall_len : ∀ (g : List (List Int)) (i : Nat) (o : List (List Int)), (pall i o g).length = o.length
  | [], i, o => rfl
  | l :: g, i, o => by simp [pall, pall_len g, pin_len]
theorem pall_lb : ∀ (g : List (List Int)) (i c : Nat) (o : List (List Int)), (∀ l ∈ g, l.length ≤ 60) → (∀ l ∈ o, l.length ≤ c) → ∀ l ∈ pall i o g, l.length ≤ c + g.length * 60
  | [], i, c, o, hg, ho => by simpa [pall] using ho
  | l :: g, i, c, o, hg, ho => by
    intro r hr
    simp only [pall] at hr
    have h1 := pin_lb (i : Int) l o c ho
    have h2 := pall_lb g (i + 1) (c + l.length) _ (fun x hx => hg x (by simp [hx])) h1 r hr
    have := hg l (by simp)
    simp; omega
/-- One point's list gone through: what is new is marked and put behind. -/
def scan (b : Int) : List Bool → List Int → List Int → List Bool × List Int
  | s, t, [] => (s, t)
  | s, t, q :: l => if rdOf false s q = true ∨ q = b then scan b s t l else scan b (s.set q.toNat true) (t ++ [q]) l
/-- The rounds of a search, last in first out. -/
inductive Run (g : List (List Int)) (b : Int) : List Bool → List Int → List Bool → Prop
  | done (s : List Bool) : Run g b s [] s
  | next {s s' r : List Bool} {t t' : List Int} {p : Int} (h0 : 0 ≤ p) (h1 : p < (g.length : Int)) (hs : scan b s t (rd_L1 g p) = (s', t')) (h : Run g b s' t' r) : Run g b s (t ++ [p]) r
def unseen (s : List Bool) : Nat := s.count false
theorem set_unseen {s : List Bool} {q : Nat} (h : q < s.length) (hq : s.getD q false = false) : unseen (s.set q true) + 1 = unseen s := by
  have hx : s[q] = false := by
    rw [List.getD_eq_getElem?_getD, List.getElem?_eq_getElem h] at hq
    simpa using hq
  have hm : 0 < s.count false := List.count_pos_iff.mpr (hx ▸ List.getElem_mem h)
  unfold unseen
  rw [List.count_set h]
  simp [hx]
  omega
theorem scan_len (b : Int) : ∀ (l : List Int) (s : List Bool) (t : List Int), (scan b s t l).1.length = s.length
  | [], s, t => rfl
  | q :: l, s, t => by
    simp only [scan]
    split
    · exact scan_len b l s t
    · rw [scan_len b l]; simp
theorem scan_size (b : Int) : ∀ (l : List Int) (s : List Bool) (t : List Int), (∀ q ∈ l, 0 ≤ q ∧ q < (s.length : Int)) → (scan b s t l).2.length + unseen (scan b s t l).1 = t.length + unseen s
  | [], s, t, h => rfl
  | q :: l, s, t, h => by
    simp only [scan]
    split
    · exact scan_size b l s t (fun x hx => h x (by simp [hx]))
    · rename_i hq
      have hh := h q (by simp)
      rw [scan_size b l _ _ (fun x hx => by simpa using h x (by simp [hx]))]
      have : unseen (s.set q.toNat true) + 1 = unseen s := set_unseen (by omega) (by
        have : ¬ rdOf false s q = true := fun e => hq (.inl e)
        simpa [rdOf] using this)
      simp; omega
theorem scan_le (b : Int) : ∀ (l : List Int) (s : List Bool) (t : List Int), (∀ q ∈ l, 0 ≤ q ∧ q < (s.length : Int)) → unseen (scan b s t l).1 ≤ unseen s
  | [], s, t, h => Nat.le_refl _
  | q :: l, s, t, h => by
    simp only [scan]
    split
    · exact scan_le b l s t (fun x hx => h x (by simp [hx]))
    · rename_i hq
      have hh := h q (by simp)
      have := scan_le b l (s.set q.toNat true) (t ++ [q]) (fun x hx => by simpa using h x (by simp [hx]))
      have : unseen (s.set q.toNat true) + 1 = unseen s := set_unseen (by omega) (by
        have : ¬ rdOf false s q = true := fun e => hq (.inl e)
        simpa [rdOf] using this)
      omega
theorem scan_pts (b : Int) (n : Int) : ∀ (l : List Int) (s : List Bool) (t : List Int), (∀ q ∈ l, 0 ≤ q ∧ q < n) → (∀ q ∈ t, 0 ≤ q ∧ q < n) → ∀ q ∈ (scan b s t l).2, 0 ≤ q ∧ q < n
  | [], s, t, h, ht => ht
  | q :: l, s, t, h, ht => by
    simp only [scan]
    split
    · exact scan_pts b n l s t (fun x hx => h x (by simp [hx])) ht
    · refine scan_pts b n l _ _ (fun x hx => h x (by simp [hx])) ?_
      intro x hx
      rcases List.mem_append.mp hx with hx | hx
      · exact ht x hx
      · simp at hx; subst hx; exact h x (by simp)
theorem row_pts {g : List (List Int)} (hg : Neat g) (p : Int) : ∀ q ∈ rd_L1 g p, 0 ≤ q ∧ q < (g.length : Int) := by
  intro q hq
  unfold rd_L1 at hq
  rw [List.getD_eq_getElem?_getD] at hq
  cases hx : g[p.toNat]? with
  | none => rw [hx] at hq; simp at hq
  | some l => rw [hx] at hq; exact hg.pts l (List.mem_of_getElem? hx) q hq
theorem row_short {g : List (List Int)} (hg : Neat g) (p : Int) : (rd_L1 g p).length ≤ 60 := by
  unfold rd_L1
  rw [List.getD_eq_getElem?_getD]
  cases hx : g[p.toNat]? with
  | none => simp
  | some l => exact hg.short l (List.mem_of_getElem? hx)
theorem run_is {g : List (List Int)} (hg : Neat g) (b : Int) : ∀ (m : Nat) (s : List Bool) (t : List Int), s.length = g.length → (∀ q ∈ t, 0 ≤ q ∧ q < (g.length : Int)) → t.length + 2 * unseen s ≤ m → ∃ r, Run g b s t r
  | 0, s, t, hs, ht, hm => by
    have : t = [] := List.eq_nil_of_length_eq_zero (by omega)
    subst this
    exact ⟨s, .done s⟩
  | m + 1, s, t, hs, ht, hm => by
    rcases List.eq_nil_or_concat t with h | ⟨t0, p, h⟩
    · subst h; exact ⟨s, .done s⟩
    · rw [List.concat_eq_append] at h
      subst h
      obtain ⟨p0, p1⟩ := ht p (by simp)
      have rp := row_pts hg p
      have rp' : ∀ q ∈ rd_L1 g p, 0 ≤ q ∧ q < (s.length : Int) := by rw [hs]; exact rp
      have hsz := scan_size b (rd_L1 g p) s t0 rp'
      have hle := scan_le b (rd_L1 g p) s t0 rp'
      have hpt := scan_pts b (g.length : Int) (rd_L1 g p) s t0 rp (fun q hq => ht q (by simp [hq]))
      have hl := scan_len b (rd_L1 g p) s t0
      simp at hm
      obtain ⟨r, hr⟩ := run_is hg b m (scan b s t0 (rd_L1 g p)).1 (scan b s t0 (rd_L1 g p)).2 (by omega) hpt (by omega)
      exact ⟨r, .next p0 p1 rfl hr⟩
theorem run_len {g : List (List Int)} {b : Int} {s r : List Bool} {t : List Int} (h : Run g b s t r) : r.length = s.length := by
  induction h with
  | done s => rfl
  | next h0 h1 hs h ih =>
    rw [ih]
    have := congrArg Prod.fst hs
    simp only at this
    rw [← this, scan_len]

theorem wl {n : Nat} (h : n < 100000000000000) : wrap64 (((n + 1 : Nat) : Int) - 1) = (n : Int) := by
  unfold wrap64
  omega
theorem reach_l1 {g : List (List Int)} (hg : Neat g) (b : Int) (r : List Bool) : ∀ (suf pre : List Int) (s : List Bool) (t : List Int), pre.length + suf.length ≤ 60 → s.length = g.length → (∀ q ∈ suf, 0 ≤ q ∧ q < (g.length : Int)) → t.length + suf.length ≤ 100000 →
    Ev (fun k => graph_reach.l0 k g b (scan b s t suf).1 (scan b s t suf).2) r → Ev (fun k => graph_reach.l1 k g b s t (pre ++ suf) ((pre ++ suf).length : Int) (pre.length : Int)) r
  | [], pre, s, t, hl, hs, hq, ht, hk => by
    refine Ev.step (fun k => ?_) hk
    rw [graph_reach.l1, if_neg (by simp)]
    rfl
  | q :: suf, pre, s, t, hl, hs, hq, ht, hk => by
    simp only [List.length_cons] at hl ht
    have h1 : ((pre.length : Nat) : Int) < ((pre ++ q :: suf).length : Int) := by simp; omega
    obtain ⟨q0, q1⟩ := hq q (by simp)
    have ih := fun s' t' => reach_l1 hg b r suf (pre ++ [q]) s' t' (by simp; omega)
    simp only [scan] at hk
    by_cases c1 : rdOf false s q = true
    · rw [if_pos (.inl c1)] at hk
      refine Ev.step (fun k => ?_) (ih s t hs (fun x hx => hq x (by simp [hx])) (by omega) hk)
      rw [graph_reach.l1, if_pos h1, if_pos (by omega), if_pos h1, if_pos (by rw [rdAt]; exact q0), if_pos (by rw [rdAt]; omega), if_pos (by rw [rdAt]; exact c1), w1 (by omega)]
      simp
    · by_cases c2 : q = b
      · rw [if_pos (.inr c2)] at hk
        refine Ev.step (fun k => ?_) (ih s t hs (fun x hx => hq x (by simp [hx])) (by omega) hk)
        rw [graph_reach.l1, if_pos h1, if_pos (by omega), if_pos h1, if_pos (by rw [rdAt]; exact q0), if_pos (by rw [rdAt]; omega), if_neg (by rw [rdAt]; exact c1), if_pos (by rw [rdAt]; exact c2), w1 (by omega)]
        simp
      · rw [if_neg (by rintro (h | h); exact c1 h; exact c2 h)] at hk
        refine Ev.step (fun k => ?_) (ih (s.set q.toNat true) (t ++ [q]) (by simpa using hs) (fun x hx => hq x (by simp [hx])) (by simp; omega) hk)
        rw [graph_reach.l1, if_pos h1, if_pos (by omega), if_pos h1, if_pos (by rw [rdAt]; exact q0), if_pos (by rw [rdAt]; omega), if_neg (by rw [rdAt]; exact c1), if_neg (by rw [rdAt]; exact c2), if_pos (by omega), w1 (by omega), rdAt]
        simp
theorem reach_run {g : List (List Int)} (hg : Neat g) (b : Int) {s r : List Bool} {t : List Int} (h : Run g b s t r) : s.length = g.length → t.length + unseen s ≤ 1000 → Ev (fun k => graph_reach.l0 k g b s t) r := by
  induction h with
  | done s =>
    intro hs ht
    refine Ev.step (fun k => ?_) (Ev.now _)
    rw [graph_reach.l0, if_neg (by simp)]
  | @next s s' r t t' p h0 h1 hs h ih =>
    intro hl ht
    have rp := row_pts hg p
    have rs := row_short hg p
    have e1 := congrArg Prod.fst hs
    have e2 := congrArg Prod.snd hs
    simp only at e1 e2
    have hsz := scan_size b (rd_L1 g p) s t (by rw [hl]; exact rp)
    have hlen := scan_len b (rd_L1 g p) s t
    rw [e1, e2] at hsz
    rw [e1] at hlen
    simp at ht
    have ih' := ih (by omega) (by omega)
    have key := reach_l1 hg b r (rd_L1 g p) [] s t (by simpa using rs) hl rp (by omega) (by rw [hs]; exact ih')
    have hx : wrap64 (((t ++ [p]).length : Int) - 1) = (t.length : Int) := by
      rw [show (t ++ [p]).length = t.length + 1 by simp]
      exact wl (by omega)
    have hp : rd (t ++ [p]) (t.length : Int) = p := rdAt t p []
    refine Ev.step (fun k => ?_) key
    rw [graph_reach.l0, if_pos (by simp), hx, if_pos (by omega), if_pos (by simp; omega), if_pos (by simp; omega), hp, if_pos h0, if_pos h1]
    simp
theorem from_l1 {g : List (List Int)} (hg : Neat g) (b : Int) (p : Int) (p0 : 0 ≤ p) (p1 : p < (g.length : Int)) (r : List Bool) : ∀ (suf pre : List Int) (s : List Bool) (t : List Int), rd_L1 g p = pre ++ suf → s.length = g.length → t.length + suf.length ≤ 100000 →
    Ev (fun k => ratlineref10_from.l0 k g b (scan b s t suf).1 (scan b s t suf).2) r → Ev (fun k => ratlineref10_from.l1 k g b s t p (pre.length : Int)) r
  | [], pre, s, t, he, hs, ht, hk => by
    refine Ev.step (fun k => ?_) hk
    rw [ratlineref10_from.l1, if_pos p0, if_pos p1, if_neg (by rw [he]; simp)]
    rfl
  | q :: suf, pre, s, t, he, hs, ht, hk => by
    simp only [List.length_cons] at ht
    have hshort := row_short hg p
    have hlen : (rd_L1 g p).length = pre.length + 1 + suf.length := by rw [he]; simp; omega
    have h1 : ((pre.length : Nat) : Int) < ((rd_L1 g p).length : Int) := by omega
    have hq : rd (rd_L1 g p) (pre.length : Int) = q := by rw [he, rdAt]
    obtain ⟨q0, q1⟩ := row_pts hg p q (by rw [he]; simp)
    have ih := fun s' t' => from_l1 hg b p p0 p1 r suf (pre ++ [q]) s' t' (by simp [he])
    simp only [scan] at hk
    by_cases c2 : q = b
    · rw [if_pos (.inr c2)] at hk
      refine Ev.step (fun k => ?_) (ih s t hs (by omega) hk)
      rw [ratlineref10_from.l1, if_pos p0, if_pos p1, if_pos h1, if_pos (by omega), if_pos (by rw [hq]; exact c2), w1 (by omega)]
      simp
    · by_cases c1 : rdOf false s q = true
      · rw [if_pos (.inl c1)] at hk
        refine Ev.step (fun k => ?_) (ih s t hs (by omega) hk)
        rw [ratlineref10_from.l1, if_pos p0, if_pos p1, if_pos h1, if_pos (by omega), if_neg (by rw [hq]; exact c2), if_pos (by rw [hq]; exact q0), if_pos (by rw [hq]; omega), if_pos (by rw [hq]; exact c1), w1 (by omega)]
        simp
      · rw [if_neg (by rintro (h | h); exact c1 h; exact c2 h)] at hk
        refine Ev.step (fun k => ?_) (ih (s.set q.toNat true) (t ++ [q]) (by simpa using hs) (by simp; omega) hk)
        rw [ratlineref10_from.l1, if_pos p0, if_pos p1, if_pos h1, if_pos (by omega), if_neg (by rw [hq]; exact c2), if_pos (by rw [hq]; exact q0), if_pos (by rw [hq]; omega), if_neg (by rw [hq]; exact c1), if_pos (by omega), w1 (by omega), hq]
        simp
theorem from_run {g : List (List Int)} (hg : Neat g) (b : Int) {s r : List Bool} {t : List Int} (h : Run g b s t r) : s.length = g.length → t.length + unseen s ≤ 1000 → Ev (fun k => ratlineref10_from.l0 k g b s t) r := by
  induction h with
  | done s =>
    intro hs ht
    refine Ev.step (fun k => ?_) (Ev.now _)
    rw [ratlineref10_from.l0, if_neg (by simp)]
  | @next s s' r t t' p h0 h1 hs h ih =>
    intro hl ht
    have rp := row_pts hg p
    have rs := row_short hg p
    have e1 := congrArg Prod.fst hs
    have e2 := congrArg Prod.snd hs
    simp only at e1 e2
    have hsz := scan_size b (rd_L1 g p) s t (by rw [hl]; exact rp)
    have hlen := scan_len b (rd_L1 g p) s t
    rw [e1, e2] at hsz
    rw [e1] at hlen
    simp at ht
    have ih' := ih (by omega) (by omega)
    have key := from_l1 hg b p h0 h1 r (rd_L1 g p) [] s t rfl hl (by omega) (by rw [hs]; exact ih')
    have hx : wrap64 (((t ++ [p]).length : Int) - 1) = (t.length : Int) := by
      rw [show (t ++ [p]).length = t.length + 1 by simp]
      exact wl (by omega)
    have hp : rd (t ++ [p]) (t.length : Int) = p := rdAt t p []
    refine Ev.step (fun k => ?_) key
    rw [ratlineref10_from.l0, if_pos (by simp), hx, if_pos (by omega), if_pos (by simp; omega), if_pos (by simp; omega), hp]
    simp
theorem unseen_le (s : List Bool) : unseen s ≤ s.length := List.count_le_length
/-- What is come to from a point without another one: both tell it, and it is what the search's rounds leave. -/
def Come (g : List (List Int)) (a b : Int) (r : List Bool) : Prop :=
  r.length = g.length ∧ ((((g.length : Int) ≤ a ∨ a = b) ∧ r = List.replicate g.length false) ∨ (¬ ((g.length : Int) ≤ a ∨ a = b) ∧ Run g b ((List.replicate g.length false).set a.toNat true) [a] r))
theorem come_is {g : List (List Int)} (hg : Neat g) (a b : Int) (ha : 0 ≤ a) : ∃ r, Come g a b r ∧ Ev (fun k => graph_reach.f k g a b) r ∧ Ev (fun k => ratlineref10_from.f k g a b) r := by
  have hs := hg.few
  have start1 : ∀ r x, Ev (fun k => graph_reach.j0 k g a b (List.replicate g.length false) x) r → (x = true ↔ ((g.length : Int) ≤ a ∨ a = b)) → Ev (fun k => graph_reach.f k g a b) r := by
    intro r x hx hiff
    refine Ev.congr (fun k => ?_) hx
    simp only [graph_reach.f]
    rw [if_pos (by omega), if_pos (by omega)]
    simp only [Option.bind_some, Int.toNat_natCast]
    by_cases c : a ≥ (g.length : Int)
    · rw [if_pos c, hiff.mpr (.inl c)]
    · rw [if_neg c]
      congr 1
      by_cases e : a = b
      · rw [hiff.mpr (.inr e)]; simpa using e
      · have : x = false := by
          cases x with
          | false => rfl
          | true => rcases hiff.mp rfl with h | h; exact absurd h c; exact absurd h e
        rw [this]; simpa using e
  have start2 : ∀ r x, Ev (fun k => ratlineref10_from.j0 k g a b (List.replicate g.length false) x) r → (x = true ↔ ((g.length : Int) ≤ a ∨ a = b)) → Ev (fun k => ratlineref10_from.f k g a b) r := by
    intro r x hx hiff
    refine Ev.congr (fun k => ?_) hx
    simp only [ratlineref10_from.f]
    rw [if_pos (by omega), if_pos (by omega)]
    simp only [Option.bind_some, Int.toNat_natCast]
    rw [if_neg (by omega)]
    by_cases c : a ≥ (g.length : Int)
    · rw [if_pos c, hiff.mpr (.inl c)]
    · rw [if_neg c]
      congr 1
      by_cases e : a = b
      · rw [hiff.mpr (.inr e)]; simpa using e
      · have : x = false := by
          cases x with
          | false => rfl
          | true => rcases hiff.mp rfl with h | h; exact absurd h c; exact absurd h e
        rw [this]; simpa using e
  by_cases c : (g.length : Int) ≤ a ∨ a = b
  · refine ⟨List.replicate g.length false, ⟨by simp, .inl ⟨c, rfl⟩⟩, start1 _ true ?_ (by simpa using c), start2 _ true ?_ (by simpa using c)⟩
    · refine Ev.step (fun k => ?_) (Ev.now _)
      rw [graph_reach.j0, if_pos rfl]
    · refine Ev.step (fun k => ?_) (Ev.now _)
      rw [ratlineref10_from.j0, if_pos rfl]
  · have c' := c
    rw [not_or] at c'
    have hl : ((List.replicate g.length false).set a.toNat true).length = g.length := by simp
    have hu := unseen_le ((List.replicate g.length false).set a.toNat true)
    obtain ⟨r, hr⟩ := run_is hg b _ ((List.replicate g.length false).set a.toNat true) [a] hl (by intro q hq; simp at hq; subst hq; omega) (Nat.le_refl _)
    refine ⟨r, ⟨by rw [run_len hr, hl], .inr ⟨c, hr⟩⟩, start1 _ false ?_ (by simpa using c), start2 _ false ?_ (by simpa using c)⟩
    · refine Ev.step (fun k => ?_) (reach_run hg b hr hl (by simp; omega))
      rw [graph_reach.j0, if_neg (by simp), if_pos ha, if_pos (by simp; omega)]
    · refine Ev.step (fun k => ?_) (from_run hg b hr hl (by simp; omega))
      rw [ratlineref10_from.j0, if_neg (by simp), if_pos ha, if_pos (by simp; omega)]
theorem rev_l0 : ∀ (n : Nat) (pre mid suf : List Int), mid.length = n → pre.length = suf.length → pre.length + mid.length + suf.length < 1000000 →
    Ev (fun k => slices_Reverse_int_int.l0 k (pre ++ mid ++ suf) (pre.length : Int) (((pre ++ mid).length : Int) - 1)) (pre ++ mid.reverse ++ suf) := by
  intro n
  induction n using Nat.strongRecOn with
  | _ n ih =>
    intro pre mid suf hm hps hl
    match mid, hm with
    | [], hm =>
      refine Ev.step (fun k => ?_) (Ev.now _)
      rw [slices_Reverse_int_int.l0, if_neg (by simp; omega)]
      simp
    | [x], hm =>
      refine Ev.step (fun k => ?_) (Ev.now _)
      rw [slices_Reverse_int_int.l0, if_neg (by simp)]
      simp
    | x :: y :: mid', hm =>
      obtain ⟨m0, z, hz⟩ : ∃ m0 z, y :: mid' = m0 ++ [z] := by
        rcases List.eq_nil_or_concat (y :: mid') with h | ⟨m0, z, h⟩
        · simp at h
        · exact ⟨m0, z, by rw [h, List.concat_eq_append]⟩
      have hlen : m0.length = mid'.length := by
        have := congrArg List.length hz
        simp at this; omega
      rw [hz] at hm hl ⊢
      simp at hm hl
      have key := ih m0.length (by omega) (pre ++ [z]) m0 (x :: suf) rfl (by simp; omega) (by simp; omega)
      have hj : (((pre ++ x :: (m0 ++ [z])).length : Int) - 1) = ((pre.length + 1 + m0.length : Nat) : Int) := by
        simp; omega
      have hI : rd (pre ++ x :: (m0 ++ [z]) ++ suf) (pre.length : Int) = x := by
        rw [show pre ++ x :: (m0 ++ [z]) ++ suf = pre ++ x :: (m0 ++ [z] ++ suf) by simp]; exact rdAt _ _ _
      have hJ : rd (pre ++ x :: (m0 ++ [z]) ++ suf) ((pre.length + 1 + m0.length : Nat) : Int) = z := by
        rw [show pre ++ x :: (m0 ++ [z]) ++ suf = (pre ++ x :: m0) ++ z :: suf by simp, show pre.length + 1 + m0.length = (pre ++ x :: m0).length by simp; omega]
        exact rdAt _ _ _
      have hset : ((pre ++ x :: (m0 ++ [z]) ++ suf).set ((pre.length : Int)).toNat z).set (((pre.length + 1 + m0.length : Nat) : Int)).toNat x = (pre ++ [z]) ++ m0 ++ (x :: suf) := by
        rw [Int.toNat_natCast, Int.toNat_natCast]
        rw [show pre ++ x :: (m0 ++ [z]) ++ suf = pre ++ x :: (m0 ++ [z] ++ suf) by simp, set_at]
        rw [show pre ++ z :: (m0 ++ [z] ++ suf) = (pre ++ z :: m0) ++ z :: suf by simp, show pre.length + 1 + m0.length = (pre ++ z :: m0).length by simp; omega, set_at]
        simp
      rw [hj]
      rw [show pre ++ (x :: (m0 ++ [z])).reverse ++ suf = (pre ++ [z]) ++ m0.reverse ++ (x :: suf) by simp]
      refine Ev.step (fun k => ?_) key
      rw [slices_Reverse_int_int.l0, if_pos (by omega), if_pos (by omega), if_pos (by simp; omega), if_pos (by omega), if_pos (by simp; omega), hI, hJ, hset, w1 (by omega)]
      rw [show wrap64 (((pre.length + 1 + m0.length : Nat) : Int) - 1) = (((pre ++ [z] ++ m0).length : Int) - 1) by unfold wrap64; simp; omega]
      simp
theorem reverse (l : List Int) (h : l.length < 1000000) : Ev (fun k => slices_Reverse_int_int.f k l) l.reverse := by
  have := rev_l0 l.length [] l [] rfl rfl (by simpa using h)
  refine Ev.congr (fun k => ?_) (show Ev _ l.reverse by simpa using this)
  simp only [slices_Reverse_int_int.f]
  rw [show wrap64 ((l.length : Int) - 1) = (l.length : Int) - 1 by unfold wrap64; omega]

inductive Lv (g : List (List Int)) : Int → Nat → List Bool → List Int → List Int → List Bool → Prop
  | fin {a : Int} {i : Nat} {s : List Bool} {o : List Int} (h : (rd_L1 g a).length ≤ i) : Lv g a i s o (a :: o) s
  | skip {a : Int} {i : Nat} {s s' : List Bool} {o o' : List Int} (h : i < (rd_L1 g a).length) (hq : rdOf false s (rd (rd_L1 g a) (i : Int)) = true) (hr : Lv g a (i + 1) s o o' s') : Lv g a i s o o' s'
  | go {a : Int} {i : Nat} {s s1 s' : List Bool} {o o1 o' : List Int} (h : i < (rd_L1 g a).length) (hq : ¬ rdOf false s (rd (rd_L1 g a) (i : Int)) = true)
      (hc : Lv g (rd (rd_L1 g a) (i : Int)) 0 (s.set (rd (rd_L1 g a) (i : Int)).toNat true) o o1 s1) (hr : Lv g a (i + 1) s1 o1 o' s') : Lv g a i s o o' s'
theorem child_pts {g : List (List Int)} (hg : Neat g) (a : Int) {i : Nat} (h : i < (rd_L1 g a).length) : 0 ≤ rd (rd_L1 g a) (i : Int) ∧ rd (rd_L1 g a) (i : Int) < (g.length : Int) := by
  refine row_pts hg a _ ?_
  rw [rdNat, List.getD_eq_getElem?_getD, List.getElem?_eq_getElem h]
  exact List.getElem_mem h
theorem mark {s : List Bool} {q : Int} (h0 : 0 ≤ q) (h1 : q < (s.length : Int)) (hq : ¬ rdOf false s q = true) : unseen (s.set q.toNat true) + 1 = unseen s :=
  set_unseen (by omega) (by simpa [rdOf] using hq)
theorem lv_size {g : List (List Int)} (hg : Neat g) {a : Int} {i : Nat} {s s' : List Bool} {o o' : List Int} (h : Lv g a i s o o' s') : s.length = g.length → s'.length = g.length ∧ o'.length + unseen s' = o.length + unseen s + 1 ∧ unseen s' ≤ unseen s := by
  induction h with
  | fin h => intro hs; exact ⟨hs, by simp; omega, Nat.le_refl _⟩
  | skip h hq hr ih => exact ih
  | go h hq hc hr ih1 ih2 =>
    intro hs
    obtain ⟨q0, q1⟩ := child_pts hg _ h
    have hm := mark q0 (by rw [hs]; exact q1) hq
    obtain ⟨a1, a2, a3⟩ := ih1 (by simpa using hs)
    obtain ⟨b1, b2, b3⟩ := ih2 a1
    exact ⟨b1, by omega, by omega⟩
theorem lv_is {g : List (List Int)} (hg : Neat g) : ∀ (u : Nat) (m : Nat) (a : Int) (i : Nat) (s : List Bool) (o : List Int), s.length = g.length → unseen s = u → (rd_L1 g a).length - i = m → ∃ o' s', Lv g a i s o o' s' := by
  intro u
  induction u using Nat.strongRecOn with
  | _ u ihu =>
    intro m
    induction m with
    | zero =>
      intro a i s o hs hu hm
      exact ⟨_, _, .fin (by omega)⟩
    | succ m ihm =>
      intro a i s o hs hu hm
      have h : i < (rd_L1 g a).length := by omega
      obtain ⟨q0, q1⟩ := child_pts hg a h
      by_cases hq : rdOf false s (rd (rd_L1 g a) (i : Int)) = true
      · obtain ⟨o', s', hr⟩ := ihm a (i + 1) s o hs hu (by omega)
        exact ⟨o', s', .skip h hq hr⟩
      · have hmk := mark q0 (by rw [hs]; exact q1) hq
        obtain ⟨o1, s1, hc⟩ := ihu (unseen (s.set (rd (rd_L1 g a) (i : Int)).toNat true)) (by omega) _ (rd (rd_L1 g a) (i : Int)) 0 _ o (by simpa using hs) rfl rfl
        obtain ⟨l1, _, l3⟩ := lv_size hg hc (by simpa using hs)
        obtain ⟨o', s', hr⟩ := ihu (unseen s1) (by omega) _ a (i + 1) s1 o1 l1 rfl rfl
        exact ⟨o', s', .go h hq hc hr⟩
theorem order_l0 {g : List (List Int)} (hg : Neat g) (r : List Int) {a : Int} {i : Nat} {s s' : List Bool} {o o' : List Int} (h : Lv g a i s o o' s') : ∀ (way : List S56), 0 ≤ a → a < (g.length : Int) → s.length = g.length → o.length + unseen s ≤ 1000 → way.length + unseen s ≤ 1000 →
    Ev (fun k => graph_order.l0 k g s' way o'.reverse) r → Ev (fun k => graph_order.l0 k g s (⟨a, (i : Int)⟩ :: way) o.reverse) r := by
  induction h with
  | @fin a i s o h =>
    intro way a0 a1 hs hb hw hk
    refine Ev.step (fun k => ?_) hk
    rw [graph_order.l0, if_pos ⟨a0, a1⟩, if_neg (by simp; omega), if_pos (by simp; omega)]
    simp
  | @skip a i s s' o o' h hq hr ih =>
    intro way a0 a1 hs hb hw hk
    obtain ⟨q0, q1⟩ := child_pts hg a h
    refine Ev.step (fun k => ?_) (ih way a0 a1 hs hb hw hk)
    rw [graph_order.l0, if_pos ⟨a0, a1⟩, if_pos (by simp; omega), if_pos ⟨by simp, q0, by simp only; omega⟩, if_pos hq]
    rfl
  | @go a i s s1 s' o o1 o' h hq hc hr ih1 ih2 =>
    intro way a0 a1 hs hb hw hk
    obtain ⟨q0, q1⟩ := child_pts hg a h
    have hm := mark q0 (by rw [hs]; exact q1) hq
    obtain ⟨l1, l2, l3⟩ := lv_size hg hc (by simpa using hs)
    have e2 := ih2 way a0 a1 l1 (by omega) (by omega) hk
    have e1 := ih1 (⟨a, ((i + 1 : Nat) : Int)⟩ :: way) q0 q1 (by simpa using hs) (by omega) (by simp; omega) e2
    refine Ev.step (fun k => ?_) e1
    rw [graph_order.l0, if_pos ⟨a0, a1⟩, if_pos (by simp; omega), if_pos ⟨by simp, q0, by simp only; omega⟩, if_neg hq, if_pos (by omega)]
    rfl
/-- The order of leaving: the list that both tell. -/
def Left (g : List (List Int)) (o : List Int) : Prop := (g.length = 0 ∧ o = []) ∨ (0 < g.length ∧ ∃ s, Lv g 0 0 ((List.replicate g.length false).set 0 true) [] o s)
theorem order_is {g : List (List Int)} (hg : Neat g) : ∃ o, Left g o ∧ o.length ≤ 100 ∧ Ev (fun k => graph_order.f k g) o ∧ True := by
  have hs := hg.few
  by_cases h0 : g.length = 0
  · refine ⟨[], .inl ⟨h0, rfl⟩, by simp, ?_, trivial⟩
    refine Ev.congr (fun k => ?_) (Ev.now [])
    simp only [graph_order.f]
    rw [if_pos h0]
  · have hl : ((List.replicate g.length false).set 0 true).length = g.length := by simp
    have hu := unseen_le ((List.replicate g.length false).set 0 true)
    obtain ⟨o, s, hlv⟩ := lv_is hg _ _ 0 0 ((List.replicate g.length false).set 0 true) [] hl rfl rfl
    obtain ⟨l1, l2, l3⟩ := lv_size hg hlv hl
    simp at l2
    refine ⟨o, .inr ⟨by omega, s, hlv⟩, by omega, ?_, trivial⟩
    · have hr := reverse o.reverse (by simp; omega)
      rw [List.reverse_reverse] at hr
      have := order_l0 hg o hlv [] (by omega) (by omega) hl (by simp; omega) (by simp; omega) (by
        refine Ev.step (fun k => ?_) hr
        rw [graph_order.l0])
      refine Ev.congr (fun k => ?_) this
      simp only [graph_order.f]
      rw [if_neg h0, if_pos (by omega)]
      rfl

/-- A step of the graph. -/
def Eg (g : List (List Int)) (u v : Nat) : Prop := (v : Int) ∈ rd_L1 g (u : Int)
theorem eg_lt {g : List (List Int)} (hg : Neat g) {u v : Nat} (h : Eg g u v) : u < g.length ∧ v < g.length := by
  have h2 := row_pts hg _ _ h
  refine ⟨?_, by omega⟩
  unfold Eg rd_L1 at h
  rw [List.getD_eq_getElem?_getD] at h
  cases hx : g[u]? with
  | none => simp [hx] at h
  | some l => exact (List.getElem?_eq_some_iff.mp hx).1

def ParL (g : List (List Int)) : List Int → List Int → Prop
  | _, [] => True
  | seen, x :: l => (∃ u ∈ seen, x ∈ rd_L1 g u) ∧ ParL g (x :: seen) l
theorem parL_mono {g : List (List Int)} : ∀ (l seen seen' : List Int), (∀ x ∈ seen, x ∈ seen') → ParL g seen l → ParL g seen' l
  | [], _, _, _, _ => trivial
  | x :: l, seen, seen', hs, ⟨⟨u, hu, h⟩, h2⟩ => by
    refine ⟨⟨u, hs u hu, h⟩, parL_mono l (x :: seen) (x :: seen') ?_ h2⟩
    intro y hy
    rcases List.mem_cons.mp hy with hy | hy
    · simp [hy]
    · simp [hs y hy]
theorem parL_app {g : List (List Int)} : ∀ (l1 l2 seen seen2 : List Int), ParL g seen l1 → ParL g seen2 l2 → (∀ x ∈ seen2, x ∈ seen ∨ x ∈ l1) → ParL g seen (l1 ++ l2)
  | [], l2, seen, seen2, _, h2, hs => parL_mono l2 seen2 seen (fun x hx => by simpa using hs x hx) h2
  | x :: l1, l2, seen, seen2, ⟨h0, h1⟩, h2, hs => by
    refine ⟨h0, parL_app l1 l2 (x :: seen) seen2 h1 h2 ?_⟩
    intro y hy
    rcases hs y hy with h | h
    · exact .inl (by simp [h])
    · rcases List.mem_cons.mp h with h | h
      · exact .inl (by simp [h])
      · exact .inr h
theorem lv_ord {g : List (List Int)} (hg : Neat g) {a : Int} {i : Nat} {s s' : List Bool} {o o' : List Int} (h : Lv g a i s o o' s') : s.length = g.length →
    ∃ rest, o' = a :: rest ++ o ∧ (∀ q : Int, 0 ≤ q → q < (g.length : Int) → (rdOf false s' q = true ↔ rdOf false s q = true ∨ q ∈ rest)) ∧ rest.Nodup ∧ (∀ q ∈ rest, 0 ≤ q ∧ q < (g.length : Int) ∧ ¬ rdOf false s q = true) ∧
      ParL g [a] rest ∧ (∀ u ∈ rest, ∀ q ∈ rd_L1 g u, rdOf false s' q = true) ∧ (∀ j, i ≤ j → j < (rd_L1 g a).length → rdOf false s' (rd (rd_L1 g a) (j : Int)) = true) := by
  induction h with
  | fin h =>
    intro hs
    exact ⟨[], rfl, by simp, List.nodup_nil, by simp, trivial, by simp, fun j h1 h2 => by omega⟩
  | @skip a i s s' o o' h hq hr ih =>
    intro hs
    obtain ⟨rest, r1, r2, r3, r4, r5, r6, r7⟩ := ih hs
    refine ⟨rest, r1, r2, r3, r4, r5, r6, fun j h1 h2 => ?_⟩
    by_cases e : j = i
    · subst e
      obtain ⟨q0, q1⟩ := child_pts hg a h
      exact (r2 _ q0 q1).mpr (.inl hq)
    · exact r7 j (by omega) h2
  | @go a i s s1 s' o o1 o' h hq hc hr ih1 ih2 =>
    intro hs
    obtain ⟨q0, q1⟩ := child_pts hg a h
    obtain ⟨l1, _, _⟩ := lv_size hg hc (by simpa using hs)
    obtain ⟨rest1, a1, a2, a3, a4, a5, a6, a7⟩ := ih1 (by simpa using hs)
    obtain ⟨rest2, b1, b2, b3, b4, b5, b6, b7⟩ := ih2 l1
    generalize hx : rd (rd_L1 g a) (i : Int) = x at *
    have hxm : x ∈ rd_L1 g a := by
      rw [← hx, rdNat, List.getD_eq_getElem?_getD, List.getElem?_eq_getElem h]
      exact List.getElem_mem h
    have hset : ∀ q : Int, 0 ≤ q → q < (g.length : Int) → (rdOf false (s.set x.toNat true) q = true ↔ rdOf false s q = true ∨ q = x) := by
      intro q h0 h1
      simp only [rdOf, List.getD_eq_getElem?_getD, List.getElem?_set]
      by_cases e : q = x
      · subst e
        have : q.toNat < s.length := by omega
        simp [this]
      · have : ¬ x.toNat = q.toNat := by omega
        simp [e, this]
    have m1 : ∀ q : Int, 0 ≤ q → q < (g.length : Int) → (rdOf false s1 q = true ↔ rdOf false s q = true ∨ q = x ∨ q ∈ rest1) := by
      intro q h0 h1
      rw [a2 q h0 h1, hset q h0 h1, or_assoc]
    refine ⟨rest2 ++ x :: rest1, by rw [b1, a1]; simp, ?_, ?_, ?_, ?_, ?_, ?_⟩
    · intro q h0 h1
      rw [b2 q h0 h1, m1 q h0 h1]
      simp only [List.mem_append, List.mem_cons]
      constructor
      · rintro ((h | h | h) | h) <;> simp [h]
      · rintro (h | h | h | h) <;> simp [h]
    · rw [List.nodup_append]
      refine ⟨b3, List.nodup_cons.mpr ⟨fun hm => ?_, a3⟩, ?_⟩
      · exact (a4 x hm).2.2 ((hset x q0 q1).mpr (.inr rfl))
      · intro y hy z hz hyz
        subst hyz
        obtain ⟨y0, y1, y2⟩ := b4 y hy
        refine y2 ((m1 y y0 y1).mpr ?_)
        rcases List.mem_cons.mp hz with hz | hz
        · exact .inr (.inl hz)
        · exact .inr (.inr hz)
    · intro q hm
      rcases List.mem_append.mp hm with hm | hm
      · obtain ⟨y0, y1, y2⟩ := b4 q hm
        exact ⟨y0, y1, fun hh => y2 ((m1 q y0 y1).mpr (.inl hh))⟩
      · rcases List.mem_cons.mp hm with hm | hm
        · subst hm; exact ⟨q0, q1, hq⟩
        · obtain ⟨y0, y1, y2⟩ := a4 q hm
          exact ⟨y0, y1, fun hh => y2 ((hset q y0 y1).mpr (.inl hh))⟩
    · refine parL_app rest2 (x :: rest1) [a] [a] b5 ⟨⟨a, by simp, hxm⟩, parL_mono rest1 [x] [x, a] (by simp) a5⟩ (by simp)
    · intro u hu q hqm
      obtain ⟨y0, y1⟩ := row_pts hg u q hqm
      rcases List.mem_append.mp hu with hu | hu
      · exact b6 u hu q hqm
      · refine (b2 q y0 y1).mpr (.inl ?_)
        rcases List.mem_cons.mp hu with hu | hu
        · subst hu
          obtain ⟨j, hj, he⟩ := List.getElem_of_mem hqm
          have := a7 j (Nat.zero_le _) hj
          rw [rdNat, List.getD_eq_getElem?_getD, List.getElem?_eq_getElem hj] at this
          simpa [he] using this
        · exact a6 u hu q hqm
    · intro j h1 h2
      by_cases e : j = i
      · subst e
        rw [hx]
        refine (b2 x q0 q1).mpr (.inl ?_)
        exact (m1 x q0 q1).mpr (.inr (.inl rfl))
      · exact b7 j (by omega) h2
theorem parL_idx {g : List (List Int)} (L : List Int) (hn : L.Nodup) : ∀ (l pre seen : List Int), L = pre ++ l → (∀ x ∈ seen, x ∈ pre) → ParL g seen l → ∀ v ∈ l, ∃ u ∈ L, v ∈ rd_L1 g u ∧ L.idxOf u < L.idxOf v
  | [], _, _, _, _, _, v, hv => by cases hv
  | x :: l, pre, seen, he, hs, ⟨⟨u, hu, h⟩, h2⟩, v, hv => by
    rcases List.mem_cons.mp hv with hv | hv
    · subst hv
      have hup := hs u hu
      have hvn : v ∉ pre := by
        intro hm
        rw [he] at hn
        exact (List.nodup_append.mp hn).2.2 v hm v (by simp) rfl
      refine ⟨u, by rw [he]; simp [hup], h, ?_⟩
      rw [he, List.idxOf_append, if_pos hup, List.idxOf_append, if_neg hvn]
      have := List.idxOf_lt_length_iff.mpr hup
      omega
    · exact parL_idx L hn l (pre ++ [x]) (x :: seen) (by simp [he]) (by
        intro y hy
        rcases List.mem_cons.mp hy with hy | hy
        · simp [hy]
        · simp [hs y hy]) h2 v hv
theorem idx_map (o : List Int) (h : ∀ q ∈ o, 0 ≤ q) (u : Int) (hu : 0 ≤ u) : (o.map Int.toNat).idxOf u.toNat = o.idxOf u := by
  induction o with
  | nil => rfl
  | cons x l ih =>
    have hx := h x (by simp)
    have ih' := ih (fun q hq => h q (by simp [hq]))
    simp only [List.map_cons, List.idxOf_cons, ih']
    by_cases e : x = u
    · subst e; simp
    · have h1 : (x == u) = false := by simpa using e
      have h2 : (x.toNat == u.toNat) = false := by
        have : ¬ x.toNat = u.toNat := by omega
        simpa using this
      rw [h1, h2]
theorem ord_is {g : List (List Int)} (hg : Neat g) {o : List Int} (h0 : 0 < g.length) (h : Left g o) : Ord g.length (Eg g) (o.map Int.toNat) ∧ ∀ q ∈ o, 0 ≤ q ∧ q < (g.length : Int) := by
  rcases h with ⟨h, _⟩ | ⟨_, s, h⟩
  · omega
  · obtain ⟨rest, r1, r2, r3, r4, r5, r6, r7⟩ := lv_ord hg h (by simp)
    rw [List.append_nil] at r1
    have hz : rdOf false ((List.replicate g.length false).set 0 true) 0 = true := by
      simp [rdOf, List.getD_eq_getElem?_getD, List.getElem?_set, h0]
    have hpts : ∀ q ∈ o, 0 ≤ q ∧ q < (g.length : Int) := by
      intro q hq
      rw [r1] at hq
      rcases List.mem_cons.mp hq with hq | hq
      · subst hq; omega
      · exact ⟨(r4 q hq).1, (r4 q hq).2.1⟩
    have hnd : o.Nodup := by
      rw [r1]
      exact List.nodup_cons.mpr ⟨fun hm => (r4 0 hm).2.2 hz, r3⟩
    have hzero : ∀ q : Int, 0 ≤ q → q < (g.length : Int) → rdOf false ((List.replicate g.length false).set 0 true) q = true → q = 0 := by
      intro q h1 h2 h3
      by_cases e : q = 0
      · exact e
      · have : ¬ 0 = q.toNat := by omega
        simp [rdOf, List.getD_eq_getElem?_getD, List.getElem?_set, this, List.getElem?_replicate] at h3
        split at h3 <;> simp at h3
    refine ⟨⟨⟨rest.map Int.toNat, by rw [r1]; rfl⟩, ?_, ?_, ?_, ?_⟩, hpts⟩
    · have : ∀ (l : List Int), l.Nodup → (∀ q ∈ l, 0 ≤ q) → (l.map Int.toNat).Nodup := by
        intro l
        induction l with
        | nil => intro _ _; exact List.nodup_nil
        | cons x l ih =>
          intro hn hp
          obtain ⟨n1, n2⟩ := List.nodup_cons.mp hn
          refine List.nodup_cons.mpr ⟨fun hm => ?_, ih n2 (fun q hq => hp q (by simp [hq]))⟩
          obtain ⟨y, hy, hye⟩ := List.mem_map.mp hm
          have h1 := hp y (by simp [hy])
          have h2 := hp x (by simp)
          have : y = x := by omega
          subst this
          exact n1 hy
      exact this o hnd (fun q hq => (hpts q hq).1)
    · intro v hv
      obtain ⟨q, hq, rfl⟩ := List.mem_map.mp hv
      have := hpts q hq
      omega
    · intro v hv hv0
      obtain ⟨q, hq, rfl⟩ := List.mem_map.mp hv
      have hq0 := hpts q hq
      have hqr : q ∈ rest := by
        rw [r1] at hq
        rcases List.mem_cons.mp hq with hq | hq
        · subst hq; exact absurd rfl hv0
        · exact hq
      obtain ⟨u, hu, h1, h2⟩ := parL_idx o hnd rest [0] [0] (by rw [r1]; rfl) (by simp) r5 q hqr
      have hu0 := hpts u hu
      refine ⟨u.toNat, List.mem_map.mpr ⟨u, hu, rfl⟩, ?_, ?_⟩
      · unfold Eg
        rw [Int.toNat_of_nonneg hu0.1, Int.toNat_of_nonneg hq0.1]
        exact h1
      · rw [idx_map o (fun q hq => (hpts q hq).1) u hu0.1, idx_map o (fun q hq => (hpts q hq).1) q hq0.1]
        exact h2
    · intro u hu v e
      obtain ⟨q, hq, rfl⟩ := List.mem_map.mp hu
      have hq0 := hpts q hq
      unfold Eg at e
      rw [Int.toNat_of_nonneg hq0.1] at e
      obtain ⟨y0, y1⟩ := row_pts hg q _ e
      have hm : rdOf false s (v : Int) = true := by
        rw [r1] at hq
        rcases List.mem_cons.mp hq with hq | hq
        · subst hq
          obtain ⟨j, hj, he⟩ := List.getElem_of_mem e
          have := r7 j (Nat.zero_le _) hj
          rw [rdNat, List.getD_eq_getElem?_getD, List.getElem?_eq_getElem hj] at this
          simpa [he] using this
        · exact r6 q hq _ e
      refine List.mem_map.mpr ⟨(v : Int), ?_, by simp⟩
      rw [r1]
      rcases (r2 _ y0 y1).mp hm with h3 | h3
      · rw [hzero _ y0 y1 h3]; simp
      · simp [h3]

theorem pin_mem (i x : Int) (k : Nat) : ∀ (l : List Int) (o : List (List Int)), (∀ q ∈ l, 0 ≤ q ∧ q < (o.length : Int)) → (x ∈ (pin i o l).getD k [] ↔ x ∈ o.getD k [] ∨ (x = i ∧ (k : Int) ∈ l))
  | [], o, h => by simp [pin]
  | q :: l, o, h => by
    have hq := h q (by simp)
    rw [pin, pin_mem i x k l _ (fun y hy => by simpa using h y (by simp [hy]))]
    have hs : (o.set q.toNat (o.getD q.toNat [] ++ [i])).getD k [] = if (k : Int) = q then o.getD k [] ++ [i] else o.getD k [] := by
      simp only [List.getD_eq_getElem?_getD, List.getElem?_set]
      by_cases e : (k : Int) = q
      · have e1 : q.toNat = k := by omega
        have e2 : k < o.length := by omega
        simp [e, e1, e2]
      · have e1 : ¬ q.toNat = k := by omega
        simp [e, e1]
    rw [hs]
    by_cases e : (k : Int) = q
    · simp only [e, if_true, List.mem_append, List.mem_cons, List.not_mem_nil, or_false]
      constructor
      · rintro ((h | h) | h)
        · exact .inl h
        · exact .inr ⟨h, .inl trivial⟩
        · exact .inr ⟨h.1, .inr h.2⟩
      · rintro (h | ⟨h, _⟩)
        · exact .inl (.inl h)
        · exact .inl (.inr h)
    · simp [e]
theorem pall_mem (x : Int) (k : Nat) : ∀ (g : List (List Int)) (i : Nat) (o : List (List Int)), (∀ l ∈ g, ∀ q ∈ l, 0 ≤ q ∧ q < (o.length : Int)) → (x ∈ (pall i o g).getD k [] ↔ x ∈ o.getD k [] ∨ ∃ j, j < g.length ∧ x = ((i + j : Nat) : Int) ∧ (k : Int) ∈ g.getD j [])
  | [], i, o, h => by simp [pall]
  | l :: g, i, o, h => by
    rw [pall, pall_mem x k g (i + 1) _ (fun l' hl' q hq => by rw [pin_len]; exact h l' (by simp [hl']) q hq), pin_mem _ x k l o (h l (by simp))]
    constructor
    · rintro ((h1 | ⟨h1, h2⟩) | ⟨j, h1, h2, h3⟩)
      · exact .inl h1
      · exact .inr ⟨0, by simp, by simpa using h1, by simpa using h2⟩
      · exact .inr ⟨j + 1, by simp; omega, by rw [h2]; congr 1; omega, by simpa using h3⟩
    · rintro (h1 | ⟨j, h1, h2, h3⟩)
      · exact .inl (.inl h1)
      · cases j with
        | zero => exact .inl (.inr ⟨by simpa using h2, by simpa using h3⟩)
        | succ j => exact .inr ⟨j, by simpa using h1, by rw [h2]; congr 1; omega, by simpa using h3⟩
/-- The points that lead to one, as the code's list has them. -/
def prs (p : List (List Int)) (k : Nat) : List Nat := (rd_L1 p (k : Int)).map Int.toNat
theorem preds_mem {g : List (List Int)} (hg : Neat g) (k : Nat) (x : Int) : x ∈ rd_L1 (pall 0 (List.replicate g.length []) g) (k : Int) ↔ 0 ≤ x ∧ Eg g x.toNat k := by
  rw [rdLNat, pall_mem x k g 0 _ (by simpa using hg.pts)]
  have hr : (List.replicate g.length ([] : List Int)).getD k [] = [] := by
    simp [List.getD_eq_getElem?_getD, List.getElem?_replicate]
    split <;> simp
  rw [hr]
  simp only [List.not_mem_nil, false_or, Nat.zero_add]
  constructor
  · rintro ⟨j, h1, h2, h3⟩
    subst h2
    refine ⟨by omega, ?_⟩
    unfold Eg
    rw [Int.toNat_natCast, rdLNat]
    exact h3
  · rintro ⟨h1, h2⟩
    have := (eg_lt hg h2).1
    refine ⟨x.toNat, this, by omega, ?_⟩
    unfold Eg at h2
    rw [rdLNat] at h2
    exact h2
theorem prs_mem {g : List (List Int)} (hg : Neat g) (k x : Nat) : x ∈ prs (pall 0 (List.replicate g.length []) g) k ↔ Eg g x k := by
  unfold prs
  rw [List.mem_map]
  constructor
  · rintro ⟨y, hy, rfl⟩
    exact ((preds_mem hg k y).mp hy).2
  · intro h
    exact ⟨(x : Int), (preds_mem hg k _).mpr ⟨by omega, by simpa using h⟩, by simp⟩

theorem scan_marks {b : Int} {n : Nat} : ∀ (l : List Int) (s : List Bool) (t : List Int), s.length = n → (∀ q ∈ l, 0 ≤ q ∧ q < (n : Int)) →
    (∀ q : Int, 0 ≤ q → q < (n : Int) → (rdOf false (scan b s t l).1 q = true ↔ rdOf false s q = true ∨ (q ∈ l ∧ q ≠ b))) ∧
    (∀ q : Int, q ∈ t → q ∈ (scan b s t l).2) ∧ (∀ q : Int, q ∈ (scan b s t l).2 → q ∈ t ∨ (q ∈ l ∧ q ≠ b)) ∧ (∀ q : Int, q ∈ l → q ≠ b → rdOf false s q = true ∨ q ∈ (scan b s t l).2)
  | [], s, t, hs, h => by simp [scan]
  | x :: l, s, t, hs, h => by
    obtain ⟨x0, x1⟩ := h x (by simp)
    simp only [scan]
    have hr : ∀ q ∈ l, 0 ≤ q ∧ q < (n : Int) := fun q hq => h q (by simp [hq])
    by_cases c : rdOf false s x = true ∨ x = b
    · rw [if_pos c]
      obtain ⟨a1, a2, a3, a4⟩ := scan_marks (b := b) l s t hs hr
      refine ⟨fun q h0 h1 => ?_, a2, fun q hq => ?_, fun q hq hb => ?_⟩
      · rw [a1 q h0 h1]
        constructor
        · rintro (h | ⟨h, h'⟩)
          · exact .inl h
          · exact .inr ⟨by simp [h], h'⟩
        · rintro (h | ⟨h, h'⟩)
          · exact .inl h
          · rcases List.mem_cons.mp h with h | h
            · subst h
              rcases c with c | c
              · exact .inl c
              · exact absurd c h'
            · exact .inr ⟨h, h'⟩
      · rcases a3 q hq with h | ⟨h, h'⟩
        · exact .inl h
        · exact .inr ⟨by simp [h], h'⟩
      · rcases List.mem_cons.mp hq with h | h
        · subst h
          rcases c with c | c
          · exact .inl c
          · exact absurd c hb
        · exact a4 q h hb
    · rw [if_neg c]
      obtain ⟨a1, a2, a3, a4⟩ := scan_marks (b := b) l (s.set x.toNat true) (t ++ [x]) (by simpa using hs) hr
      have hset : ∀ q : Int, 0 ≤ q → q < (n : Int) → (rdOf false (s.set x.toNat true) q = true ↔ rdOf false s q = true ∨ q = x) := by
        intro q h0 h1
        simp only [rdOf, List.getD_eq_getElem?_getD, List.getElem?_set]
        by_cases e : q = x
        · subst e
          have : q.toNat < s.length := by omega
          simp [this]
        · have : ¬ x.toNat = q.toNat := by omega
          simp [e, this]
      have hxb : x ≠ b := fun e => c (.inr e)
      refine ⟨fun q h0 h1 => ?_, fun q hq => a2 q (by simp [hq]), fun q hq => ?_, fun q hq hb => ?_⟩
      · rw [a1 q h0 h1, hset q h0 h1]
        constructor
        · rintro ((h | h) | ⟨h, h'⟩)
          · exact .inl h
          · subst h; exact .inr ⟨by simp, hxb⟩
          · exact .inr ⟨by simp [h], h'⟩
        · rintro (h | ⟨h, h'⟩)
          · exact .inl (.inl h)
          · rcases List.mem_cons.mp h with h | h
            · exact .inl (.inr h)
            · exact .inr ⟨h, h'⟩
      · rcases a3 q hq with h | ⟨h, h'⟩
        · rcases List.mem_append.mp h with h | h
          · exact .inl h
          · simp at h; subst h; exact .inr ⟨by simp, hxb⟩
        · exact .inr ⟨by simp [h], h'⟩
      · rcases List.mem_cons.mp hq with h | h
        · subst h; exact .inr (a2 q (by simp))
        · rcases a4 q h hb with h2 | h2
          · obtain ⟨q0, q1⟩ := hr q h
            rcases (hset q q0 q1).mp h2 with h3 | h3
            · exact .inl h3
            · subst h3; exact .inr (a2 q (by simp))
          · exact .inr h2
theorem run_marks {g : List (List Int)} (hg : Neat g) {b : Int} (P : Int → Prop) (hP : ∀ u, P u → ∀ q ∈ rd_L1 g u, q ≠ b → P q) {s r : List Bool} {t : List Int} (h : Run g b s t r) : s.length = g.length →
    (∀ q : Int, 0 ≤ q → q < (g.length : Int) → rdOf false s q = true → P q) → (∀ q ∈ t, rdOf false s q = true ∧ 0 ≤ q ∧ q < (g.length : Int)) → (∀ u : Int, 0 ≤ u → u < (g.length : Int) → rdOf false s u = true → u ∈ t ∨ ∀ q ∈ rd_L1 g u, q ≠ b → rdOf false s q = true) →
    (∀ q : Int, 0 ≤ q → q < (g.length : Int) → rdOf false s q = true → rdOf false r q = true) ∧ (∀ q : Int, 0 ≤ q → q < (g.length : Int) → rdOf false r q = true → P q) ∧ (∀ u : Int, 0 ≤ u → u < (g.length : Int) → rdOf false r u = true → ∀ q ∈ rd_L1 g u, q ≠ b → rdOf false r q = true) := by
  induction h with
  | done s =>
    intro hl hp ht hc
    refine ⟨fun q _ _ h => h, hp, fun u u0 u1 hu q hq hb => ?_⟩
    rcases hc u u0 u1 hu with h | h
    · cases h
    · exact h q hq hb
  | @next s s' r t t' p h0 h1 hs h ih =>
    intro hl hp ht hc
    obtain ⟨a1, a2, a3, a4⟩ := scan_marks (b := b) (n := g.length) (rd_L1 g p) s t hl (row_pts hg p)
    have e1 := congrArg Prod.fst hs
    have e2 := congrArg Prod.snd hs
    simp only at e1 e2
    rw [e1] at a1
    rw [e2] at a2 a3 a4
    have hl' : s'.length = g.length := by rw [← e1, scan_len]; exact hl
    have hpp : P p := hp p h0 h1 (ht p (by simp)).1
    obtain ⟨b1, b2, b3⟩ := ih hl' (by
      intro q q0 q1 hq
      rcases (a1 q q0 q1).mp hq with h2 | ⟨h2, h3⟩
      · exact hp q q0 q1 h2
      · exact hP p hpp q h2 h3) (by
      intro q hq
      rcases a3 q hq with h2 | ⟨h2, h3⟩
      · obtain ⟨c1, c2, c3⟩ := ht q (by simp [h2])
        exact ⟨(a1 q c2 c3).mpr (.inl c1), c2, c3⟩
      · obtain ⟨c2, c3⟩ := row_pts hg p q h2
        exact ⟨(a1 q c2 c3).mpr (.inr ⟨h2, h3⟩), c2, c3⟩) (by
      intro u u0 u1 hu
      by_cases hup : u = p
      · subst hup
        right
        intro q hq hb
        obtain ⟨c2, c3⟩ := row_pts hg u q hq
        exact (a1 q c2 c3).mpr (.inr ⟨hq, hb⟩)
      · rcases (a1 u u0 u1).mp hu with h2 | ⟨h2, h3⟩
        · rcases hc u u0 u1 h2 with h4 | h4
          · rcases List.mem_append.mp h4 with h4 | h4
            · exact .inl (a2 u h4)
            · simp at h4; exact absurd h4 hup
          · right
            intro q hq hb
            obtain ⟨c2, c3⟩ := row_pts hg u q hq
            exact (a1 q c2 c3).mpr (.inl (h4 q hq hb))
        · by_cases hus : rdOf false s u = true
          · rcases hc u u0 u1 hus with h4 | h4
            · rcases List.mem_append.mp h4 with h4 | h4
              · exact .inl (a2 u h4)
              · simp at h4; exact absurd h4 hup
            · right
              intro q hq hb
              obtain ⟨c2, c3⟩ := row_pts hg u q hq
              exact (a1 q c2 c3).mpr (.inl (h4 q hq hb))
          · rcases a4 u h2 h3 with h4 | h4
            · exact absurd h4 hus
            · exact .inl h4)
    exact ⟨fun q q0 q1 hq => b1 q q0 q1 ((a1 q q0 q1).mpr (.inl hq)), b2, b3⟩
/-- A table as a function. -/
def fn (X : List Int) : Nat → Int := fun v => rd X (v : Int)
theorem fn_set {X : List Int} {k : Nat} (hk : k < X.length) (b : Int) : fn (X.set k b) = upd (fn X) k b := by
  funext v
  simp only [fn, upd, rd, List.getD_eq_getElem?_getD, List.getElem?_set, Int.toNat_natCast]
  by_cases e : v = k
  · subst e; simp [hk]
  · have : ¬ k = v := fun h => e h.symm
    simp [e, this]
/-- A list of ranks. -/
def Ranks (n : Nat) (o : List Nat) (R : List Int) : Prop := R.length = n ∧ ∀ v ∈ o, rd R (v : Int) = (o.idxOf v : Int)
theorem meet_l0 {n : Nat} {E : Nat → Nat → Prop} {o : List Nat} (O : Ord n E o) {X R : List Int} (hX : X.length = n) (hR : Ranks n o R) (I : Inv n E o (fn X)) {a b m : Nat} (h : Meet o (fn X) a b m) : a ∈ o → b ∈ o → Set (fn X) a → Set (fn X) b → Ev (fun k => graph_meet.l0 k X R (a : Int) (b : Int)) (m : Int) := by
  induction h with
  | done a =>
    intro ha hb sa sb
    refine Ev.step (fun k => ?_) (Ev.now _)
    rw [graph_meet.l0, if_pos rfl]
  | @second a b m hne hr h0 h ih =>
    intro ha hb sa sb
    have la := O.lt a ha
    have lb := O.lt b hb
    obtain ⟨_, p1, p2, p3, p4⟩ := I.pt b lb h0
    have e := ih p1 ha p3 sa
    have hv : rd X (b : Int) = (((fn X b).toNat : Nat) : Int) := by
      show fn X b = _
      omega
    refine Ev.step (fun k => ?_) e
    have hRl := hR.1
    rw [graph_meet.l0, if_neg (by omega), if_pos (by omega), if_pos (by omega), if_pos (by omega), if_pos (by omega), if_pos (by rw [hR.2 a ha, hR.2 b hb]; omega), if_pos (by omega), hv]
  | @first a b m hne hr h0 h ih =>
    intro ha hb sa sb
    have la := O.lt a ha
    have lb := O.lt b hb
    obtain ⟨_, p1, p2, p3, p4⟩ := I.pt a la h0
    have e := ih p1 hb p3 sb
    have hv : rd X (a : Int) = (((fn X a).toNat : Nat) : Int) := by
      show fn X a = _
      omega
    refine Ev.step (fun k => ?_) e
    have hRl := hR.1
    rw [graph_meet.l0, if_neg (by omega), if_pos (by omega), if_pos (by omega), if_pos (by omega), if_pos (by omega), if_neg (by rw [hR.2 a ha, hR.2 b hb]; omega), if_pos (by omega), hv]
/-- What stays the same through the passes. -/
structure Fix (g : List (List Int)) (ol : List Int) (R : List Int) (p : List (List Int)) : Prop where
  hg : Neat g
  O : Ord g.length (Eg g) (ol.map Int.toNat)
  pts : ∀ q ∈ ol, 0 ≤ q ∧ q < (g.length : Int)
  few : ol.length ≤ 100
  R : Ranks g.length (ol.map Int.toNat) R
  p : p = pall 0 (List.replicate g.length []) g
theorem p_len {g ol R p} (F : Fix g ol R p) : p.length = g.length := by rw [F.p, pall_len]; simp
theorem p_pts {g ol R p} (F : Fix g ol R p) (k : Nat) : ∀ x ∈ rd_L1 p (k : Int), 0 ≤ x ∧ x < (g.length : Int) := by
  intro x hx
  rw [F.p] at hx
  obtain ⟨h0, h1⟩ := (preds_mem F.hg k x).mp hx
  have := (eg_lt F.hg h1).1
  exact ⟨h0, by omega⟩
theorem p_short {g ol R p} (F : Fix g ol R p) (k : Nat) : (rd_L1 p (k : Int)).length ≤ 3840 := by
  have h := pall_lb g 0 0 (List.replicate g.length []) F.hg.short (by
    intro l hl
    rw [List.eq_of_mem_replicate hl]
    simp)
  rw [← F.p] at h
  have := F.hg.few
  unfold rd_L1
  rw [List.getD_eq_getElem?_getD]
  cases hx : p[(k : Int).toNat]? with
  | none => simp
  | some l =>
    have := h l (List.mem_of_getElem? hx)
    simp
    omega
theorem l4_is {g ol R p} (F : Fix g ol R p) {X : List Int} (hX : X.length = g.length) (I : Inv g.length (Eg g) (ol.map Int.toNat) (fn X)) (x6 : List Int) (x10 : Bool) (x52 : List Int) (x53 x54 : Int) (kk : Nat) (hk : kk < g.length) (r : List Int) (res : Int)
    (hlast : Ev (fun k => if rd X (kk : Int) = res then graph_doms.l3 k X R x6 p x10 x52 x53 (wrap64 (x54 + 1)) else graph_doms.l3 k (X.set kk res) R x6 p true x52 x53 (wrap64 (x54 + 1))) r) :
    ∀ (suf pre : List Int) (b : Int), rd_L1 p (kk : Int) = pre ++ suf → (b = -1 ∨ (0 ≤ b ∧ b.toNat ∈ ol.map Int.toNat ∧ Set (fn X) b.toNat)) → Best (ol.map Int.toNat) (fn X) b (suf.map Int.toNat) res →
      Ev (fun k => graph_doms.l4 k X R x6 p x10 (kk : Int) b x52 x53 x54 (rd_L1 p (kk : Int)) ((rd_L1 p (kk : Int)).length : Int) (pre.length : Int)) r
  | [], pre, b, he, hb, hB => by
    cases hB
    refine Ev.step (fun k => ?_) hlast
    rw [graph_doms.l4, if_neg (by rw [he]; simp), if_pos (by omega), if_pos (by omega)]
    simp
  | x :: suf, pre, b, he, hb, hB => by
    have hlen : (rd_L1 p (kk : Int)).length = pre.length + 1 + suf.length := by rw [he]; simp; omega
    have hsh := p_short F kk
    obtain ⟨x0, x1⟩ := p_pts F kk x (by rw [he]; simp)
    have h1 : ((pre.length : Nat) : Int) < ((rd_L1 p (kk : Int)).length : Int) := by omega
    have hx : rd (rd_L1 p (kk : Int)) (pre.length : Int) = x := by rw [he, rdAt]
    have ih := fun b' => l4_is F hX I x6 x10 x52 x53 x54 kk hk r res hlast suf (pre ++ [x]) b' (by simp [he])
    have hfx : fn X x.toNat = rd X x := by
      unfold fn
      rw [Int.toNat_of_nonneg x0]
    -- the test whether it is passed by
    have toj : ∀ (t : Bool), (t = true ↔ ¬ Set (fn X) x.toNat) → Ev (fun k => graph_doms.j5 k X R x6 p x10 (kk : Int) b x x52 x53 x54 (rd_L1 p (kk : Int)) ((rd_L1 p (kk : Int)).length : Int) (pre.length : Int) t) r →
        Ev (fun k => graph_doms.l4 k X R x6 p x10 (kk : Int) b x52 x53 x54 (rd_L1 p (kk : Int)) ((rd_L1 p (kk : Int)).length : Int) (pre.length : Int)) r := by
      intro t ht ej
      refine Ev.step (fun k => ?_) ej
      rw [graph_doms.l4, if_pos h1, if_pos (by omega), if_pos h1, hx]
      by_cases c : x = 0
      · rw [if_pos c]
        have : t = false := by
          cases t with
          | false => rfl
          | true => exact absurd (Or.inl (by omega)) (ht.mp rfl)
        rw [this]
      · rw [if_neg c, if_pos x0, if_pos (by omega)]
        congr 1
        have hS : Set (fn X) x.toNat ↔ 0 ≤ rd X x := by
          unfold Set
          rw [hfx]
          constructor
          · rintro (h | h)
            · omega
            · exact h
          · exact .inr
        cases t with
        | false =>
          have h2 : Set (fn X) x.toNat := by
            rcases Classical.em (Set (fn X) x.toNat) with h | h
            · exact h
            · have := ht.mpr h; cases this
          have := hS.mp h2
          simp; omega
        | true =>
          have h2 := ht.mp rfl
          rw [hS] at h2
          simp; omega
    have hw : wrap64 ((pre.length : Int) + 1) = (((pre ++ [x]).length : Nat) : Int) := by
      rw [w1 (by omega)]; simp
    cases hB with
    | skip hns hr =>
      refine toj true (by simp [hns]) ?_
      have := ih b hb hr
      refine Ev.step (fun k => ?_) this
      rw [graph_doms.j5, if_pos rfl, hw]
    | new hs hb0 hr =>
      refine toj false (by simp [hs]) ?_
      rw [Int.toNat_of_nonneg x0] at hr
      have xo : x.toNat ∈ ol.map Int.toNat := by
        rcases hs with hs | hs
        · rw [hs]; exact zero_in F.O
        · exact (I.pt x.toNat (by omega) hs).1
      have := ih x (.inr ⟨x0, xo, hs⟩) hr
      refine Ev.step (fun k => ?_) this
      rw [graph_doms.j5, if_neg (by simp), if_pos hb0, hw]
    | @meet _ _ _ m _ hs hb0 hm hr =>
      refine toj false (by simp [hs]) ?_
      have xo : x.toNat ∈ ol.map Int.toNat := by
        rcases hs with hs | hs
        · rw [hs]; exact zero_in F.O
        · exact (I.pt x.toNat (by omega) hs).1
      obtain ⟨hb1, hb2, hb3⟩ : 0 ≤ b ∧ b.toNat ∈ ol.map Int.toNat ∧ Set (fn X) b.toNat := by
        rcases hb with h | h
        · omega
        · exact h
      have em := meet_l0 F.O hX F.R I hm hb2 xo hb3 hs
      rw [Int.toNat_of_nonneg x0, Int.toNat_of_nonneg hb1] at em
      obtain ⟨m', m1, m2, m3, _⟩ := meet_is F.O I _ b.toNat x.toNat (Nat.le_refl _) hb2 xo hb3 hs
      have hmm := meet_det hm _ m1
      subst hmm
      have := ih (m : Int) (.inr ⟨by omega, by simpa using m2, by simpa using m3⟩) hr
      have e2 := Ev.bind (f := fun k t170 => graph_doms.l4 k X R x6 p x10 (kk : Int) t170 x52 x53 x54 (rd_L1 p (kk : Int)) ((rd_L1 p (kk : Int)).length : Int) (wrap64 ((pre.length : Int) + 1))) (show Ev (fun k => graph_meet.f k X R b x) (m : Int) from em) (by rw [hw]; exact this)
      refine Ev.step (fun k => ?_) e2
      rw [graph_doms.j5, if_neg (by simp), if_neg (by omega)]
theorem l3_is {g ol R p} (F : Fix g ol R p) (r : List Int) : ∀ (ks pre : List Int) (X : List Int) (ch ch' : Bool) (S' : Nat → Int) (pp : Nat), ol.drop 1 = pre ++ ks → X.length = g.length →
    PassR (ol.map Int.toNat) (prs p) (ks.map Int.toNat) (fn X) ch S' ch' → Mid g.length (Eg g) (ol.map Int.toNat) (fn X) pp (pre.length + 1) →
    (∀ X' : List Int, X'.length = g.length → fn X' = S' → Ev (fun k => graph_doms.l2 k X' R ol p ch') r) →
    Ev (fun k => graph_doms.l3 k X R ol p ch (ol.drop 1) ((ol.drop 1).length : Int) (pre.length : Int)) r
  | [], pre, X, ch, ch', S', pp, he, hX, hP, M, hk => by
    cases hP
    refine Ev.step (fun k => ?_) (hk X hX rfl)
    rw [graph_doms.l3, if_neg (by rw [he]; simp)]
  | x :: ks, pre, X, ch, ch', S', pp, he, hX, hP, M, hk => by
    have hlen : (ol.drop 1).length = pre.length + 1 + ks.length := by rw [he]; simp; omega
    have hdl : (ol.drop 1).length = ol.length - 1 := by simp
    have hfew := F.few
    have h1 : ((pre.length : Nat) : Int) < ((ol.drop 1).length : Int) := by omega
    have hx : rd (ol.drop 1) (pre.length : Int) = x := by rw [he, rdAt]
    have hxo : x ∈ ol := List.mem_of_mem_drop (i := 1) (by rw [he]; simp)
    obtain ⟨x0, x1⟩ := F.pts x hxo
    have hxk : x = ((x.toNat : Nat) : Int) := by omega
    have hpl := p_len F
    have hw : wrap64 ((pre.length : Int) + 1) = (((pre ++ [x]).length : Nat) : Int) := by
      rw [w1 (by omega)]; simp
    have hp : ∀ k ∈ ol.map Int.toNat, ∀ y, y ∈ prs p k ↔ Eg g y k := by
      intro k _ y
      rw [F.p]
      exact prs_mem F.hg k y
    have hxm : x.toNat ∈ ol.map Int.toNat := List.mem_map.mpr ⟨x, hxo, rfl⟩
    have hidx : (ol.map Int.toNat).idxOf x.toNat = pre.length + 1 := by
      have hs : ol.map Int.toNat = (ol.take 1 ++ pre).map Int.toNat ++ x.toNat :: ks.map Int.toNat := by
        rw [← List.map_cons, ← List.map_append, List.append_assoc, ← he, List.take_append_drop]
      have hl : ((ol.take 1 ++ pre).map Int.toNat).length = pre.length + 1 := by
        simp
        omega
      have hj : (ol.map Int.toNat)[pre.length + 1]? = some x.toNat := by
        rw [hs, List.getElem?_append_right (by omega), hl]
        simp
      obtain ⟨hlt, hge⟩ := List.getElem?_eq_some_iff.mp hj
      have := F.O.nodup.idxOf_getElem (pre.length + 1) hlt
      rw [hge] at this
      exact this
    obtain ⟨b, hb, hM⟩ := step_is F.O (prs p) hp (fun u v e => (eg_lt F.hg e).1) M hxm hidx (by omega)
    have ih := fun X' ch0 => l3_is F r ks (pre ++ [x]) X' ch0 ch' S' pp (by simp [he])
    have enter : ∀ res : Int, Best (ol.map Int.toNat) (fn X) (-1) (prs p x.toNat) res →
        Ev (fun k => if rd X x = res then graph_doms.l3 k X R ol p ch (ol.drop 1) ((ol.drop 1).length : Int) (wrap64 ((pre.length : Int) + 1)) else graph_doms.l3 k (X.set x.toNat res) R ol p true (ol.drop 1) ((ol.drop 1).length : Int) (wrap64 ((pre.length : Int) + 1))) r →
        Ev (fun k => graph_doms.l3 k X R ol p ch (ol.drop 1) ((ol.drop 1).length : Int) (pre.length : Int)) r := by
      intro res hB hl
      have := l4_is F hX M.inv ol ch (ol.drop 1) ((ol.drop 1).length : Int) (pre.length : Int) x.toNat (by omega) r res (by rw [← hxk]; exact hl) (rd_L1 p ((x.toNat : Nat) : Int)) [] (-1) rfl (.inl rfl) hB
      rw [← hxk] at this
      refine Ev.step (fun k => ?_) this
      rw [graph_doms.l3, if_pos h1, if_pos (by omega), if_pos h1, hx, if_pos x0, if_pos (by omega)]
      rfl
    have hfx : fn X x.toNat = rd X x := by
      unfold fn
      rw [← hxk]
    cases hP with
    | same hB hr =>
      have hbb := best_det hb _ hB
      subst hbb
      rw [upd_same] at hM
      have := ih X ch hX hr (by simpa using hM) hk
      refine enter _ hB ?_
      rw [hfx]
      simp only [if_true]
      rw [hw]
      exact this
    | @chg _ _ _ _ _ _ b' hB hne hr =>
      have hbb := best_det hb _ hB
      subst hbb
      have hX' : (X.set x.toNat b).length = g.length := by simpa using hX
      have hf := fn_set (X := X) (k := x.toNat) (by omega) b
      rw [← hf] at hr hM
      have := ih (X.set x.toNat b) true hX' hr (by simpa using hM) hk
      refine enter _ hB ?_
      rw [hfx] at hne
      simp only [hne, if_false]
      rw [hw]
      exact this
theorem l2_is {g ol R p} (F : Fix g ol R p) (T : Nat → Int) {S : Nat → Int} (h : LoopR (ol.map Int.toNat) (prs p) S T) : ∀ (X : List Int) (pp : Nat), X.length = g.length → fn X = S → Rdy g.length (Eg g) (ol.map Int.toNat) S pp →
    ∃ Y : List Int, Y.length = g.length ∧ fn Y = T ∧ Ev (fun k => graph_doms.l2 k X R ol p true) Y := by
  have hp : ∀ k ∈ ol.map Int.toNat, ∀ y, y ∈ prs p k ↔ Eg g y k := by
    intro k _ y
    rw [F.p]
    exact prs_mem F.hg k y
  have hne : 1 ≤ ol.length := by
    obtain ⟨t, ht⟩ := F.O.head
    have := congrArg List.length ht
    simp at this
    omega
  have enter : ∀ (X Y : List Int) (S S' : Nat → Int) (ch' : Bool) (pp : Nat), X.length = g.length → fn X = S → Rdy g.length (Eg g) (ol.map Int.toNat) S pp → PassR (ol.map Int.toNat) (prs p) ((ol.map Int.toNat).drop 1) S false S' ch' →
      (∀ X' : List Int, X'.length = g.length → fn X' = S' → Ev (fun k => graph_doms.l2 k X' R ol p ch') Y) → Ev (fun k => graph_doms.l2 k X R ol p true) Y := by
    intro X Y S S' ch' pp hX hf Rd hP hk
    subst hf
    rw [← List.map_drop] at hP
    have := l3_is F Y (ol.drop 1) [] X false ch' S' pp rfl hX hP ⟨Rd.inv, Rd.all, fun v hv h0 hlt => by
      have := rank_pos F.O hv h0
      simp at hlt
      omega⟩ hk
    refine Ev.step (fun k => ?_) this
    have hmn : mn 1 (ol.length : Int) = 1 := by
      unfold mn
      split <;> omega
    rw [graph_doms.l2, if_pos rfl, hmn, if_pos (by omega), if_pos (by omega)]
    rfl
  induction h with
  | @stop S S' h =>
    intro X pp hX hf Rd
    have hq := (pass_quiet h).2 rfl
    subst hq
    refine ⟨X, hX, hf, enter X X _ _ _ pp hX hf Rd h ?_⟩
    intro X' hX' hf'
    have : X' = X := by
      apply List.ext_getElem? 
      intro i
      have e : fn X' = fn X := by rw [hf', hf]
      have := congrFun e i
      simp only [fn, rd, List.getD_eq_getElem?_getD, Int.toNat_natCast] at this
      by_cases hi : i < g.length
      · rw [List.getElem?_eq_getElem (by omega), List.getElem?_eq_getElem (by omega)] at this ⊢
        simpa using this
      · rw [List.getElem?_eq_none (by omega), List.getElem?_eq_none (by omega)]
    subst this
    refine Ev.step (fun k => ?_) (Ev.now _)
    rw [graph_doms.l2, if_neg (by simp)]
  | @more S S' T h hr ih =>
    intro X pp hX hf Rd
    obtain ⟨S2, ch2, h2, R2⟩ := rdy_next F.O (prs p) hp (fun u v e => (eg_lt F.hg e).1) Rd
    obtain ⟨e1, e2⟩ := pass_det h _ _ h2
    subst e1
    subst e2
    -- the table behind this pass
    have hYs : ∃ X1 : List Int, X1.length = g.length ∧ fn X1 = S' := by
      have key : ∀ (ks : List Nat) (S : Nat → Int) (ch : Bool), (∃ X : List Int, X.length = g.length ∧ fn X = S) → (∀ k ∈ ks, k < g.length) → ∀ S' ch', PassR (ol.map Int.toNat) (prs p) ks S ch S' ch' → ∃ X1 : List Int, X1.length = g.length ∧ fn X1 = S' := by
        intro ks
        induction ks with
        | nil => intro S ch hx _ S' ch' hP; cases hP; exact hx
        | cons k ks ih =>
          intro S ch hx hk S' ch' hP
          cases hP with
          | same _ hr => exact ih S ch hx (fun k hk' => hk k (by simp [hk'])) _ _ hr
          | @chg _ _ _ _ _ _ b _ _ hr =>
            obtain ⟨X, hX, rfl⟩ := hx
            exact ih _ _ ⟨X.set k b, by simpa using hX, fn_set (by rw [hX]; exact hk k (by simp)) b⟩ (fun k hk' => hk k (by simp [hk'])) _ _ hr
      exact key _ S false ⟨X, hX, hf⟩ (fun k hk => F.O.lt k (List.mem_of_mem_drop hk)) _ _ h
    obtain ⟨X1, hX1, hf1⟩ := hYs
    obtain ⟨Y, y1, y2, y3⟩ := ih X1 (pp + 1) hX1 hf1 R2
    refine ⟨Y, y1, y2, enter X Y _ _ _ pp hX hf Rd h ?_⟩
    intro X' hX' hf'
    have : X' = X1 := by
      apply List.ext_getElem? 
      intro i
      have e : fn X' = fn X1 := by rw [hf', hf1]
      have := congrFun e i
      simp only [fn, rd, List.getD_eq_getElem?_getD, Int.toNat_natCast] at this
      by_cases hi : i < g.length
      · rw [List.getElem?_eq_getElem (by omega), List.getElem?_eq_getElem (by omega)] at this ⊢
        simpa using this
      · rw [List.getElem?_eq_none (by omega), List.getElem?_eq_none (by omega)]
    subst this
    exact y3
theorem doms_l0 (g : List (List Int)) (R : List Int) (hn : g.length ≤ 64) (r : List Int) (hk : Ev (fun k => (graph_order.f k g).bind fun t152 => graph_doms.l1 k g (List.replicate g.length (-1)) R t152 t152 (t152.length : Int) 0) r) : ∀ (m j : Nat), j + m = g.length →
    Ev (fun k => graph_doms.l0 k g (List.replicate j (-1) ++ List.replicate m 0) R (g.length : Int) (j : Int)) r
  | 0, j, h => by
    refine Ev.step (fun k => ?_) hk
    rw [graph_doms.l0, if_neg (by omega)]
    have : j = g.length := by omega
    subst this
    simp
  | m + 1, j, h => by
    have ih := doms_l0 g R hn r hk m (j + 1) (by omega)
    refine Ev.step (fun k => ?_) ih
    rw [graph_doms.l0, if_pos (by omega), if_pos (by omega), if_pos (by simp; omega), w1 (by omega)]
    congr 1
    rw [List.replicate_succ]
    have := set_at (List.replicate j (-1 : Int)) 0 (-1) (List.replicate m 0)
    rw [List.length_replicate] at this
    rw [Int.toNat_natCast, this, List.replicate_succ']
    simp
theorem doms_l1 (g : List (List Int)) (X x6 ol : List Int) (hn : g.length ≤ 64) (ho : ol.length ≤ 100) (hp : ∀ q ∈ ol, 0 ≤ q ∧ q < (g.length : Int)) (hnd : (ol.map Int.toNat).Nodup) (r : List Int)
    (hk : ∀ R, Ranks g.length (ol.map Int.toNat) R → Ev (fun k => (graph_preds.f k g).bind fun t157 => graph_doms.l2 k X R x6 t157 true) r) : ∀ (suf pre R : List Int), ol = pre ++ suf → R.length = g.length → (∀ v ∈ pre.map Int.toNat, rd R (v : Int) = (((ol.map Int.toNat).idxOf v : Nat) : Int)) →
    Ev (fun k => graph_doms.l1 k g X R x6 ol (ol.length : Int) (pre.length : Int)) r
  | [], pre, R, he, hR, hv => by
    have : pre = ol := by rw [he]; simp
    subst this
    refine Ev.step (fun k => ?_) (hk R ⟨hR, hv⟩)
    rw [graph_doms.l1, if_neg (by omega)]
  | x :: suf, pre, R, he, hR, hv => by
    have hlen : ol.length = pre.length + 1 + suf.length := by rw [he]; simp; omega
    obtain ⟨x0, x1⟩ := hp x (by rw [he]; simp)
    have hx : rd ol (pre.length : Int) = x := by
      have := rdAt pre x suf
      rw [← he] at this
      exact this
    have hm : ol.map Int.toNat = pre.map Int.toNat ++ x.toNat :: suf.map Int.toNat := by rw [he]; simp
    have hxn : x.toNat ∉ pre.map Int.toNat := by
      intro hh
      rw [hm] at hnd
      exact (List.nodup_append.mp hnd).2.2 _ hh x.toNat (by simp) rfl
    have hix : (ol.map Int.toNat).idxOf x.toNat = pre.length := by
      rw [hm, List.idxOf_append, if_neg hxn]
      simp
    have ih := doms_l1 g X x6 ol hn ho hp hnd r hk suf (pre ++ [x]) (R.set x.toNat (pre.length : Int)) (by simp [he]) (by simpa using hR) (by
      intro v hvm
      have hs : rd (R.set x.toNat (pre.length : Int)) (v : Int) = if v = x.toNat then (pre.length : Int) else rd R (v : Int) := by
        simp only [rd, List.getD_eq_getElem?_getD, List.getElem?_set, Int.toNat_natCast]
        by_cases e : v = x.toNat
        · subst e
          have : x.toNat < R.length := by omega
          simp [this]
        · have : ¬ x.toNat = v := fun h => e h.symm
          simp [e, this]
      rw [hs]
      by_cases e : v = x.toNat
      · rw [if_pos e, e, hix]
      · rw [if_neg e]
        refine hv v ?_
        rw [List.map_append] at hvm
        rcases List.mem_append.mp hvm with h | h
        · exact h
        · simp at h; exact absurd h e)
    refine Ev.step (fun k => ?_) ih
    have h1 : ((pre.length : Nat) : Int) < (ol.length : Int) := by omega
    rw [graph_doms.l1, if_pos h1, if_pos (by omega), if_pos h1, hx, if_pos x0, if_pos (by omega), w1 (by omega)]
    simp
theorem doms_is {g : List (List Int)} (hg : Neat g) : ∃ Y : List Int, Y.length = g.length ∧ Ev (fun k => graph_doms.f k g) Y ∧ (0 < g.length → ∃ o : List Nat, Ord g.length (Eg g) o ∧ True_ g.length (Eg g) o (fn Y)) := by
  have hs := hg.few
  obtain ⟨ol, hL, hol, eo, _⟩ := order_is hg
  have hpr := preds g hg
  have start : ∀ Y, Ev (fun k => graph_doms.l1 k g (List.replicate g.length (-1)) (List.replicate g.length 0) ol ol (ol.length : Int) 0) Y → Ev (fun k => graph_doms.f k g) Y := by
    intro Y h
    have h1 := doms_l0 g (List.replicate g.length 0) hs Y (Ev.bind (f := fun k t152 => graph_doms.l1 k g (List.replicate g.length (-1)) (List.replicate g.length 0) t152 t152 (t152.length : Int) 0) eo h) g.length 0 (by omega)
    refine Ev.congr (fun k => ?_) h1
    simp only [graph_doms.f]
    rw [if_pos (by omega), if_pos (by omega)]
    simp
  by_cases h0 : g.length = 0
  · have ho : ol = [] := by
      rcases hL with ⟨_, h⟩ | ⟨h, _⟩
      · exact h
      · omega
    subst ho
    refine ⟨[], by simp [h0], start [] ?_, fun h => by omega⟩
    rw [h0]
    have e1 : Ev (fun k => graph_doms.l2 k [] [] [] (pall 0 (List.replicate g.length []) g) true) [] := by
      refine Ev.step (fun k => ?_) (Ev.step (g := fun k => graph_doms.l3 k [] [] [] (pall 0 (List.replicate g.length []) g) false [] 0 0) (fun k => ?_) (Ev.step (g := fun k => graph_doms.l2 k [] [] [] (pall 0 (List.replicate g.length []) g) false) (fun k => ?_) (Ev.now _)))
      · rw [graph_doms.l2, if_pos rfl, if_pos (by decide), if_pos (by decide)]
        rfl
      · rw [graph_doms.l3, if_neg (by omega)]
      · rw [graph_doms.l2, if_neg (by simp)]
    refine Ev.step (fun k => ?_) (Ev.bind (f := fun k t157 => graph_doms.l2 k [] [] [] t157 true) hpr e1)
    rw [graph_doms.l1, if_neg (by simp)]
    rfl
  · obtain ⟨O, hpts⟩ := ord_is hg (by omega) hL
    have hp : ∀ k ∈ ol.map Int.toNat, ∀ y, y ∈ prs (pall 0 (List.replicate g.length []) g) k ↔ Eg g y k := fun k _ y => prs_mem hg k y
    have hf0 : ∀ v, v < g.length → fn (List.replicate g.length (-1)) v = -1 := by
      intro v hv
      simp [fn, rd, List.getD_eq_getElem?_getD, List.getElem?_replicate, hv]
    have I0 : Inv g.length (Eg g) (ol.map Int.toNat) (fn (List.replicate g.length (-1))) := by
      refine ⟨fun v hv _ => hf0 v hv, fun v hv => by rw [hf0 v hv]; omega, fun v hv h => ?_⟩
      rw [hf0 v hv] at h
      omega
    obtain ⟨T, hT, hTrue⟩ := loop_is O (prs (pall 0 (List.replicate g.length []) g)) hp (fun u v e => (eg_lt hg e).1) _ I0
    -- the ranks are the same whatever list holds them
    have go : ∀ R, Ranks g.length (ol.map Int.toNat) R → ∃ Y : List Int, Y.length = g.length ∧ fn Y = T ∧ Ev (fun k => graph_doms.l2 k (List.replicate g.length (-1)) R ol (pall 0 (List.replicate g.length []) g) true) Y := by
      intro R hR
      exact l2_is (F := ⟨hg, O, hpts, hol, hR, rfl⟩) T hT (List.replicate g.length (-1)) 0 (by simp) rfl ⟨I0, fun v hv => ⟨fun h => by omega, fun _ q hq => by omega⟩⟩
    have uniq : ∀ Y Y' : List Int, Y.length = g.length → Y'.length = g.length → fn Y = fn Y' → Y = Y' := by
      intro Y Y' hY hY' he
      apply List.ext_getElem?
      intro i
      have := congrFun he i
      simp only [fn, rd, List.getD_eq_getElem?_getD, Int.toNat_natCast] at this
      by_cases hi : i < g.length
      · rw [List.getElem?_eq_getElem (by omega), List.getElem?_eq_getElem (by omega)] at this ⊢
        simpa using this
      · rw [List.getElem?_eq_none (by omega), List.getElem?_eq_none (by omega)]
    -- some rank list there is
    have some_ : ∃ R, Ranks g.length (ol.map Int.toNat) R := by
      refine ⟨(List.range g.length).map fun v => (((ol.map Int.toNat).idxOf v : Nat) : Int), by simp, fun v hv => ?_⟩
      have hvn := O.lt v hv
      simp [rd, List.getD_eq_getElem?_getD, hvn]
    obtain ⟨R0, hR0⟩ := some_
    obtain ⟨Y, hY, hfY, _⟩ := go R0 hR0
    refine ⟨Y, hY, start Y ?_, fun _ => ⟨ol.map Int.toNat, O, by rw [hfY]; exact hTrue⟩⟩
    refine doms_l1 g _ ol ol hs hol hpts O.nodup Y (fun R hR => ?_) ol [] (List.replicate g.length 0) rfl (by simp) (by simp)
    obtain ⟨Y', hY', hfY', eY'⟩ := go R hR
    have : Y' = Y := uniq Y' Y hY' hY (by rw [hfY', hfY])
    subst this
    exact Ev.bind (f := fun k t157 => graph_doms.l2 k (List.replicate g.length (-1)) R ol t157 true) hpr eY'
theorem Doms (l : List (List Int)) (hl : Small l) : ∃ Y : List Int, Y.length = l.length ∧ Ev (fun k => graph_Doms.f k l) Y ∧ (0 < l.length → ∃ o : List Nat, Ord l.length (Eg (norm l)) o ∧ True_ l.length (Eg (norm l)) o (fn Y)) := by
  obtain ⟨Y, h1, h2, h3⟩ := doms_is (neat l hl)
  rw [norm_length] at h1 h3
  exact ⟨Y, h1, Ev.bind (f := fun k t186 => (graph_doms.f k t186).bind fun t189 => some t189) (clean l hl) (Ev.bind (f := fun _ u => some u) h2 (Ev.now _)), h3⟩

open Classical in
theorem dominates_l0 {n : Nat} {E : Nat → Nat → Prop} {o : List Nat} (O : Ord n E o) {Y : List Int} (hn : n ≤ 64) (hY : Y.length = n) (T : True_ n E o (fn Y)) {a : Nat} (ha : a ∈ o) : ∀ (m b c : Nat), o.idxOf b ≤ m → b ∈ o → c + o.idxOf b ≤ n → Ev (fun k => graph_Dominates.l0 k Y (a : Int) (b : Int) (c : Int)) (decide (Dom E o a b)) := by
  intro m
  induction m with
  | zero =>
    intro b c hm hb hc
    have hb0 : b = 0 := by
      rcases Classical.em (b = 0) with h | h
      · exact h
      · have := rank_pos O hb h; omega
    subst hb0
    have hlt := O.lt 0 hb
    have hS := T.inv.none 0 hlt (.inl rfl)
    have hr0 : rd Y ((0 : Nat) : Int) = -1 := hS
    have tail : Ev (fun k => graph_Dominates.j2 k Y (a : Int) ((0 : Nat) : Int) (c : Int) true) (decide (Dom E o a 0)) := by
      by_cases e : a = 0
      · subst e
        rw [decide_eq_true (dom_refl ha)]
        refine Ev.step (fun k => ?_) (Ev.now _)
        rw [graph_Dominates.j2, if_pos rfl, if_pos rfl]
      · rw [decide_eq_false (fun h => e (dom_zero h))]
        have l0f : Ev (fun k => graph_Dominates.l0 k Y (a : Int) (-1) (wrap64 ((c : Int) + 1))) false := by
          have j2f : Ev (fun k => graph_Dominates.j2 k Y (a : Int) (-1) (wrap64 ((c : Int) + 1)) false) false := by
            refine Ev.step (fun k => ?_) (Ev.now _)
            rw [graph_Dominates.j2, if_neg (by simp)]
          refine Ev.step (fun k => ?_) j2f
          rw [graph_Dominates.l0, if_neg (by omega)]
        refine Ev.step (fun k => ?_) l0f
        rw [graph_Dominates.j2, if_pos rfl, if_neg (by omega), if_pos (by omega), if_pos (by omega), hr0]
    refine Ev.step (fun k => ?_) tail
    rw [graph_Dominates.l0, if_pos (by omega), if_pos (by omega), decide_eq_true (by omega)]
  | succ m ih =>
    intro b c hm hb hc
    by_cases hb0 : b = 0
    · subst hb0
      exact ih 0 c (by rw [rank_zero O]; omega) hb hc
    · have hlt := O.lt b hb
      obtain ⟨h0, hd0⟩ := T.dom b hb hb0
      obtain ⟨_, po, pr, _, pd⟩ := T.inv.pt b hlt h0
      have hr0 : rd Y (b : Int) = (((fn Y b).toNat : Nat) : Int) := by
        show fn Y b = _
        omega
      have tail : Ev (fun k => graph_Dominates.j2 k Y (a : Int) (b : Int) (c : Int) true) (decide (Dom E o a b)) := by
        by_cases e : a = b
        · subst e
          rw [decide_eq_true (dom_refl ha)]
          refine Ev.step (fun k => ?_) (Ev.now _)
          rw [graph_Dominates.j2, if_pos rfl, if_pos rfl]
        · have hiff : Dom E o a b ↔ Dom E o a (fn Y b).toNat := ⟨fun h => pd a h e, fun h => dom_trans h hd0⟩
          have := ih (fn Y b).toNat (c + 1) (by omega) po (by omega)
          rw [show decide (Dom E o a b) = decide (Dom E o a (fn Y b).toNat) by simp only [hiff]]
          refine Ev.step (fun k => ?_) this
          rw [graph_Dominates.j2, if_pos rfl, if_neg (by omega), if_pos (by omega), if_pos (by omega), hr0, w1 (by omega)]
      refine Ev.step (fun k => ?_) tail
      rw [graph_Dominates.l0, if_pos (by omega), if_pos (by omega), decide_eq_true (by omega)]
open Classical in
theorem dominates_is {n : Nat} {E : Nat → Nat → Prop} {o : List Nat} (O : Ord n E o) {Y : List Int} (hn : n ≤ 64) (hY : Y.length = n) (T : True_ n E o (fn Y)) {a b : Nat} (ha : a ∈ o) (hb : b ∈ o) : Ev (fun k => graph_Dominates.f k Y (a : Int) (b : Int)) (decide (Dom E o a b)) := by
  have hr := List.idxOf_lt_length_iff.mpr hb
  have hlt := O.lt a ha
  have hle : o.length ≤ n := by
    have : o.length ≤ (List.range n).length := (O.nodup).length_le_of_subset (fun v hv => List.mem_range.mpr (O.lt v hv))
    simpa using this
  have e1 := dominates_l0 O hn hY T ha _ b 0 (Nat.le_refl _) hb (by omega)
  have e0 : Ev (fun k => graph_Dominates.j0 k Y (a : Int) (b : Int) false) (decide (Dom E o a b)) := by
    refine Ev.step (fun k => ?_) e1
    rw [graph_Dominates.j0, if_neg (by simp)]
    rfl
  refine Ev.congr (fun k => ?_) e0
  simp only [graph_Dominates.f]
  rw [if_neg (by omega), decide_eq_false (by omega)]
/-- Come to by steps. -/
inductive Rt (g : List (List Int)) (a : Int) : Int → Prop
  | refl : Rt g a a
  | step {b c : Int} (h : Rt g a b) (e : c ∈ rd_L1 g b) : Rt g a c
theorem rdSetB (s : List Bool) (i q : Int) (b : Bool) (hi : 0 ≤ i) (h0 : 0 ≤ q) (h1 : q < (s.length : Int)) : rdOf false (s.set i.toNat b) q = if q = i then b else rdOf false s q := by
  simp only [rdOf, List.getD_eq_getElem?_getD, List.getElem?_set]
  by_cases e : q = i
  · subst e
    have : q.toNat < s.length := by omega
    simp [this]
  · have : ¬ i.toNat = q.toNat := by omega
    simp [e, this]
theorem rdSetI (s : List Int) (i q : Int) (b : Int) (hi : 0 ≤ i) (h0 : 0 ≤ q) (h1 : q < (s.length : Int)) : rd (s.set i.toNat b) q = if q = i then b else rd s q := by
  simp only [rd, List.getD_eq_getElem?_getD, List.getElem?_set]
  by_cases e : q = i
  · subst e
    have : q.toNat < s.length := by omega
    simp [this]
  · have : ¬ i.toNat = q.toNat := by omega
    simp [e, this]
theorem come_rt {g : List (List Int)} (hg : Neat g) {a : Int} {r : List Bool} (a0 : 0 ≤ a) (a1 : a < (g.length : Int)) (h : Come g a (-1) r) (v : Int) (v0 : 0 ≤ v) (v1 : v < (g.length : Int)) : rdOf false r v = true ↔ Rt g a v := by
  obtain ⟨hl, h | h⟩ := h
  · obtain ⟨h1, _⟩ := h
    omega
  · obtain ⟨h1, hr⟩ := h
    have hset : ∀ q : Int, 0 ≤ q → q < (g.length : Int) → (rdOf false ((List.replicate g.length false).set a.toNat true) q = true ↔ q = a) := by
      intro q q0 q1
      rw [rdSetB _ _ _ _ a0 q0 (by simpa using q1)]
      by_cases e : q = a
      · simp [e]
      · have e2 : q.toNat < g.length := by omega
        simp [e, rdOf, List.getElem?_replicate, e2]
    obtain ⟨c1, c2, c3⟩ := run_marks hg (fun q => Rt g a q) (fun u hu q hq _ => .step hu hq) hr (by simp) (by
      intro q q0 q1 hq
      have := (hset q q0 q1).mp hq
      subst this
      exact .refl) (by
      intro q hq
      simp at hq
      subst hq
      exact ⟨(hset q a0 a1).mpr rfl, a0, a1⟩) (by
      intro u u0 u1 hu
      have := (hset u u0 u1).mp hu
      subst this
      left
      simp)
    constructor
    · exact c2 v v0 v1
    · intro hv
      induction hv with
      | refl => exact c1 _ a0 a1 ((hset _ a0 a1).mpr rfl)
      | @step b c h e ih =>
        have hb : 0 ≤ b ∧ b < (g.length : Int) := by
          cases h with
          | refl => exact ⟨a0, a1⟩
          | step h' e' => exact row_pts hg _ _ e'
        obtain ⟨q0, q1⟩ := row_pts hg _ _ e
        exact c3 b hb.1 hb.2 (ih hb.1 hb.2) c e (by omega)

def okb (P : List Bool) (q : Int) : Bool := !(decide (q < (P.length : Int)) && rdOf false P q)
def onb (R P : List Bool) (q : Int) : Bool := rdOf false R q && okb P q
theorem on_is (R P : List Bool) (q : Int) (h0 : 0 ≤ q) (h1 : q < (R.length : Int)) : graph_Cyclic_1.f R P q = some (onb R P q) := by
  unfold graph_Cyclic_1.f onb okb
  rw [if_pos h0, if_pos h1]
  by_cases c1 : rdOf false R q = true
  · rw [if_pos c1, c1]
    by_cases c2 : q < (P.length : Int)
    · simp [c2]
    · simp [c2]
  · simp [c1]

def sm : List Bool → List (List Int) → Int → Nat
  | true :: rem, row :: g, q => row.count q + sm rem g q
  | false :: rem, _ :: g, q => sm rem g q
  | [], _, _ => 0
  | _ :: _, [], _ => 0
theorem sm_set : ∀ (rem : List Bool) (g : List (List Int)) (q : Int) (i : Nat), rem.length = g.length → rem.getD i false = true → sm (rem.set i false) g q + (g.getD i []).count q = sm rem g q
  | [], _, _, _, _, h => by simp at h
  | b :: rem, [], _, _, h, _ => by simp at h
  | b :: rem, row :: g, q, 0, h, hb => by
    simp at hb
    subst hb
    simp [sm]
    omega
  | true :: rem, row :: g, q, i + 1, h, hb => by
    have := sm_set rem g q i (by simpa using h) (by simpa using hb)
    simp [sm] at this ⊢
    omega
  | false :: rem, row :: g, q, i + 1, h, hb => by
    have := sm_set rem g q i (by simpa using h) (by simpa using hb)
    simp [sm] at this ⊢
    omega
theorem sm_pos : ∀ (rem : List Bool) (g : List (List Int)) (q : Int), rem.length = g.length → (0 < sm rem g q ↔ ∃ i, rem.getD i false = true ∧ q ∈ g.getD i [])
  | [], [], _, _ => by simp [sm]
  | [], _ :: _, _, h => by simp at h
  | _ :: _, [], _, h => by simp at h
  | b :: rem, row :: g, q, h => by
    have ih := sm_pos rem g q (by simpa using h)
    constructor
    · intro hp
      cases b with
      | true =>
        simp only [sm] at hp
        by_cases c : q ∈ row
        · exact ⟨0, by simp, by simpa using c⟩
        · have : row.count q = 0 := List.count_eq_zero.mpr c
          obtain ⟨i, h1, h2⟩ := ih.mp (by omega)
          exact ⟨i + 1, by simpa using h1, by simpa using h2⟩
      | false =>
        simp only [sm] at hp
        obtain ⟨i, h1, h2⟩ := ih.mp hp
        exact ⟨i + 1, by simpa using h1, by simpa using h2⟩
    · rintro ⟨i, h1, h2⟩
      cases i with
      | zero =>
        simp at h1 h2
        subst h1
        simp only [sm]
        have := List.count_pos_iff.mpr h2
        omega
      | succ i =>
        have := ih.mpr ⟨i, by simpa using h1, by simpa using h2⟩
        cases b <;> simp only [sm] <;> omega
theorem sm_le : ∀ (rem : List Bool) (g : List (List Int)) (q : Int), (∀ l ∈ g, l.length ≤ 60) → sm rem g q ≤ g.length * 60
  | [], _, _, _ => by simp [sm]
  | b :: rem, [], _, _ => by cases b <;> simp [sm]
  | b :: rem, row :: g, q, h => by
    have ih := sm_le rem g q (fun l hl => h l (by simp [hl]))
    have h1 := h row (by simp)
    have h2 : row.count q ≤ row.length := List.count_le_length
    cases b <;> simp only [sm, List.length_cons] <;> omega
theorem sm_snoc : ∀ (rem : List Bool) (g : List (List Int)) (q : Int) (b : Bool) (row : List Int), rem.length = g.length → sm (rem ++ [b]) (g ++ [row]) q = sm rem g q + if b = true then row.count q else 0
  | [], [], q, b, row, _ => by cases b <;> simp [sm]
  | [], _ :: _, _, _, _, h => by simp at h
  | _ :: _, [], _, _, _, h => by simp at h
  | c :: rem, r :: g, q, b, row, h => by
    have ih := sm_snoc rem g q b row (by simpa using h)
    cases c <;> simp only [sm, List.cons_append, ih] <;> omega

def Ins (n : Nat) (on : Int → Bool) (f : Int → Nat) (X : List Int) : Prop := X.length = n ∧ ∀ q : Int, 0 ≤ q → q < (n : Int) → rd X q = if on q = true then (f q : Int) else 0
def onl (R P : List Bool) (j : Nat) : List Bool := (List.range j).map fun i : Nat => onb R P (i : Int)
theorem onl_len (R P : List Bool) (j : Nat) : (onl R P j).length = j := by simp [onl]
theorem onl_succ (R P : List Bool) (j : Nat) : onl R P (j + 1) = onl R P j ++ [onb R P (j : Int)] := by simp [onl, List.range_succ]
theorem onl_at (R P : List Bool) (n : Nat) (q : Int) (h0 : 0 ≤ q) (h1 : q < (n : Int)) : rdOf false (onl R P n) q = onb R P q := by
  have h2 : q.toNat < n := by omega
  simp [rdOf, onl, List.getD_eq_getElem?_getD, List.getElem?_map, List.getElem?_range, h2, h0]
  rw [show max q 0 = q by omega]
theorem cyc_l1 {n : Nat} (R P : List Bool) (hR : R.length = n) (g : List (List Int)) (x8 : Int) (x26 : List (List Int)) (x27 x28 : Int) (r : Bool) : ∀ (suf pre : List Int) (f : Int → Nat) (c : Nat) (X : List Int), pre.length + suf.length ≤ 60 → (∀ q ∈ suf, 0 ≤ q ∧ q < (n : Int)) → c + suf.length ≤ 100000 → (∀ q, f q ≤ c) → Ins n (onb R P) f X →
    (∀ X', Ins n (onb R P) (fun q => f q + suf.count q) X' → Ev (fun k => graph_Cyclic.l0 k g P R X' x8 x26 x27 (wrap64 (x28 + 1))) r) → Ev (fun k => graph_Cyclic.l1 k g P R X x8 x26 x27 x28 (pre ++ suf) ((pre ++ suf).length : Int) (pre.length : Int)) r
  | [], pre, f, c, X, hl, hq, hc, hf, hX, hk => by
    refine Ev.step (fun k => ?_) (hk X (by simpa using hX))
    rw [graph_Cyclic.l1, if_neg (by simp)]
  | q :: suf, pre, f, c, X, hl, hq, hc, hf, hX, hk => by
    simp only [List.length_cons] at hl hc
    have h1 : ((pre.length : Nat) : Int) < ((pre ++ q :: suf).length : Int) := by simp; omega
    obtain ⟨q0, q1⟩ := hq q (by simp)
    have ih := fun f' c' X' => cyc_l1 R P hR g x8 x26 x27 x28 r suf (pre ++ [q]) f' c' X' (by simp; omega) (fun x hx => hq x (by simp [hx]))
    have hon := on_is R P q q0 (by omega)
    by_cases c1 : onb R P q = true
    · have hx := hX.2 q q0 q1
      rw [if_pos c1] at hx
      have hb := hf q
      have hw : wrap64 (rd X q + 1) = ((f q + 1 : Nat) : Int) := by rw [hx]; exact w1 (by omega)
      have hX' : Ins n (onb R P) (fun x => f x + [q].count x) (X.set q.toNat (wrap64 (rd X q + 1))) := by
        refine ⟨by simpa using hX.1, fun x x0 x1 => ?_⟩
        rw [rdSetI X q x _ q0 x0 (by rw [hX.1]; exact x1), hw]
        by_cases e : x = q
        · subst e; simp [c1]
        · have e' : ¬ q = x := fun h => e h.symm
          rw [if_neg e, hX.2 x x0 x1]
          simp [List.count_cons, e']
      have key := ih _ (c + 1) _ (by omega) (by
        intro x
        have := hf x
        by_cases e : q = x
        · simp [List.count_cons, e]; omega
        · simp [List.count_cons, e]; omega) hX' (by
        intro X2 h2
        refine hk X2 ⟨h2.1, fun x x0 x1 => ?_⟩
        rw [h2.2 x x0 x1]
        simp only [List.count_cons, List.count_nil]
        by_cases e : onb R P x = true
        · rw [if_pos e, if_pos e]; congr 1; omega
        · rw [if_neg e, if_neg e])
      refine Ev.step (fun k => ?_) key
      rw [graph_Cyclic.l1, if_pos h1, if_pos (by omega), if_pos h1, rdAt, hon, Option.bind_some, if_pos c1, if_pos q0, if_pos (by rw [hX.1]; exact q1), w1 (by omega)]
      simp
    · have key := ih f c X (by omega) hf hX (by
        intro X2 h2
        refine hk X2 ⟨h2.1, fun x x0 x1 => ?_⟩
        rw [h2.2 x x0 x1]
        by_cases e : onb R P x = true
        · have e' : ¬ q = x := by rintro rfl; exact c1 e
          rw [if_pos e, if_pos e]; simp [List.count_cons, e']
        · rw [if_neg e, if_neg e])
      refine Ev.step (fun k => ?_) key
      rw [graph_Cyclic.l1, if_pos h1, if_pos (by omega), if_pos h1, rdAt, hon, Option.bind_some, if_neg c1, w1 (by omega)]
      simp
theorem cyc_l0 {g : List (List Int)} (hg : Neat g) (R P : List Bool) (hR : R.length = g.length) (r : Bool) (hk : ∀ X, Ins g.length (onb R P) (fun q => sm (onl R P g.length) g q) X → Ev (fun k => graph_Cyclic.l2 k g P R X (((onl R P g.length).count true : Nat) : Int) [] (g.length : Int) 0) r) : ∀ (suf pre : List (List Int)) (X : List Int), g = pre ++ suf → Ins g.length (onb R P) (fun q => sm (onl R P pre.length) pre q) X →
    Ev (fun k => graph_Cyclic.l0 k g P R X (((onl R P pre.length).count true : Nat) : Int) g (g.length : Int) (pre.length : Int)) r
  | [], pre, X, he, hX => by
    have e : pre = g := by rw [he]; simp
    subst e
    refine Ev.step (fun k => ?_) (hk X hX)
    rw [graph_Cyclic.l0, if_neg (by simp)]
  | row :: suf, pre, X, he, hX => by
    have hf := hg.few
    have hlen : g.length = pre.length + 1 + suf.length := by rw [he]; simp; omega
    have h1 : ((pre.length : Nat) : Int) < (g.length : Int) := by omega
    have hrow : rd_L1 g (pre.length : Int) = row := by rw [he]; exact rdAtL pre row suf
    have hrl : row.length ≤ 60 := hg.short row (by rw [he]; simp)
    have hrp : ∀ q ∈ row, 0 ≤ q ∧ q < (g.length : Int) := hg.pts row (by rw [he]; simp)
    have ih := fun X' => cyc_l0 hg R P hR r hk suf (pre ++ [row]) X' (by simp [he])
    have hon := on_is R P (pre.length : Int) (by omega) (by omega)
    have hcl : (onl R P pre.length).count true ≤ pre.length := by have := @List.count_le_length _ _ true (onl R P pre.length); rw [onl_len] at this; exact this
    simp only [List.length_append, List.length_cons, List.length_nil, Nat.zero_add] at ih
    by_cases c1 : onb R P (pre.length : Int) = true
    · have ec : (onl R P (pre.length + 1)).count true = (onl R P pre.length).count true + 1 := by rw [onl_succ, List.count_append, c1]; simp
      rw [ec] at ih
      have key := cyc_l1 (n := g.length) R P hR g (((onl R P pre.length).count true + 1 : Nat) : Int) g (g.length : Int) (pre.length : Int) r row [] (fun q => sm (onl R P pre.length) pre q) (pre.length * 60) X (by simpa using hrl) hrp (by omega) (fun q => sm_le _ _ q (fun l hl => hg.short l (by rw [he]; simp [hl]))) hX (by
        intro X' h'
        rw [w1 (by omega)]
        refine ih X' ⟨h'.1, fun q q0 q1 => ?_⟩
        rw [h'.2 q q0 q1]
        simp only [onl_succ]
        rw [sm_snoc _ _ _ _ _ (by rw [onl_len]), if_pos c1])
      refine Ev.step (fun k => ?_) key
      rw [graph_Cyclic.l0, if_pos h1, if_pos (by omega), if_pos h1, hon, Option.bind_some, if_pos c1, hrow, w1 (by omega)]
      rfl
    · have c2 : onb R P (pre.length : Int) = false := by simpa using c1
      have ec : (onl R P (pre.length + 1)).count true = (onl R P pre.length).count true := by rw [onl_succ, List.count_append, c2]; simp
      rw [ec] at ih
      have key := ih X ⟨hX.1, fun q q0 q1 => by
        rw [hX.2 q q0 q1]
        simp only [onl_succ]
        rw [sm_snoc _ _ _ _ _ (by rw [onl_len]), if_neg c1, Nat.add_zero]⟩
      refine Ev.step (fun k => ?_) key
      rw [graph_Cyclic.l0, if_pos h1, if_pos (by omega), if_pos h1, hon, Option.bind_some, if_neg c1, w1 (by omega)]
def tl (R P : List Bool) (X : List Int) (j : Nat) : List Int := ((List.range j).filter fun i : Nat => onb R P (i : Int) && decide (rd X (i : Int) = 0)).map fun i : Nat => (i : Int)
theorem cyc_l2 {g : List (List Int)} (hg : Neat g) (R P : List Bool) (hR : R.length = g.length) (X : List Int) (hX : X.length = g.length) (x8 : Int) (r : Bool) (hk : Ev (fun k => graph_Cyclic.l3 k g P R X x8 (tl R P X g.length)) r) : ∀ (m j : Nat), j + m = g.length → Ev (fun k => graph_Cyclic.l2 k g P R X x8 (tl R P X j) (g.length : Int) (j : Int)) r
  | 0, j, h => by
    have : j = g.length := by omega
    subst this
    refine Ev.step (fun k => ?_) hk
    rw [graph_Cyclic.l2, if_neg (by omega)]
  | m + 1, j, h => by
    have hf := hg.few
    have h1 : ((j : Nat) : Int) < (g.length : Int) := by omega
    have ih := cyc_l2 hg R P hR X hX x8 r hk m (j + 1) (by omega)
    have hon := on_is R P (j : Int) (by omega) (by omega)
    have hlt : (tl R P X j).length ≤ j := by
      unfold tl
      rw [List.length_map]
      exact Nat.le_trans (List.length_filter_le _ _) (by simp)
    refine Ev.step (fun k => ?_) ih
    rw [graph_Cyclic.l2, if_pos h1, hon, Option.bind_some]
    by_cases c1 : onb R P (j : Int) = true
    · rw [if_pos c1, if_pos (by omega), if_pos (by omega)]
      by_cases c2 : rd X (j : Int) = 0
      · rw [if_pos c2, if_pos (by omega), w1 (by omega)]
        have : tl R P X (j + 1) = tl R P X j ++ [(j : Int)] := by simp [tl, List.range_succ, List.filter_append, c1, c2]
        rw [this]
      · rw [if_neg c2, w1 (by omega)]
        have : tl R P X (j + 1) = tl R P X j := by simp [tl, List.range_succ, List.filter_append, c1, c2]
        rw [this]
    · rw [if_neg c1, w1 (by omega)]
      have : tl R P X (j + 1) = tl R P X j := by simp [tl, List.range_succ, List.filter_append, c1]
      rw [this]
/-- A set of points that count, each led to from one of the set. -/
def Core (g : List (List Int)) (on : Int → Bool) (C : Int → Prop) : Prop := ∀ c, C c → 0 ≤ c ∧ c < (g.length : Int) ∧ on c = true ∧ ∃ c', C c' ∧ c ∈ rd_L1 g c'
def Circ (g : List (List Int)) (on : Int → Bool) : Prop := ∃ C : Int → Prop, (∃ c, C c) ∧ Core g on C
structure Kinv (g : List (List Int)) (on : Int → Bool) (rem : List Bool) (X T suf : List Int) : Prop where
  lr : rem.length = g.length
  ins : Ins g.length on (fun q => sm rem g q + suf.count q) X
  nd : T.Nodup
  tin : ∀ q, q ∈ T → 0 ≤ q ∧ q < (g.length : Int) ∧ rdOf false rem q = true ∧ rd X q = 0
  tall : ∀ q : Int, 0 ≤ q → q < (g.length : Int) → rdOf false rem q = true → rd X q = 0 → q ∈ T
  off : ∀ q : Int, 0 ≤ q → q < (g.length : Int) → on q = true → rdOf false rem q = false → rd X q = 0
  ron : ∀ q : Int, 0 ≤ q → q < (g.length : Int) → rdOf false rem q = true → on q = true
  core : ∀ C : Int → Prop, Core g on C → ∀ c, C c → rdOf false rem c = true
theorem cyc_l4 {g : List (List Int)} (hg : Neat g) (R P : List Bool) (hR : R.length = g.length) (rem : List Bool) (x8 : Int) (r : Bool)
    (hk : ∀ X T, Kinv g (onb R P) rem X T [] → Ev (fun k => graph_Cyclic.l3 k g P R X x8 T) r) : ∀ (suf pre : List Int) (X T : List Int), pre.length + suf.length ≤ 60 → (∀ q ∈ suf, 0 ≤ q ∧ q < (g.length : Int)) → T.length + suf.length ≤ 100000 → Kinv g (onb R P) rem X T suf →
    Ev (fun k => graph_Cyclic.l4 k g P R X x8 T (pre ++ suf) ((pre ++ suf).length : Int) (pre.length : Int)) r
  | [], pre, X, T, hl, hq, hT, K => by
    refine Ev.step (fun k => ?_) (hk X T K)
    rw [graph_Cyclic.l4, if_neg (by simp)]
  | q :: suf, pre, X, T, hl, hq, hT, K => by
    simp only [List.length_cons] at hl hT
    have h1 : ((pre.length : Nat) : Int) < ((pre ++ q :: suf).length : Int) := by simp; omega
    obtain ⟨q0, q1⟩ := hq q (by simp)
    have hf := hg.few
    have ih := fun X' T' => cyc_l4 hg R P hR rem x8 r hk suf (pre ++ [q]) X' T' (by simp; omega) (fun x hx => hq x (by simp [hx]))
    have hon := on_is R P q q0 (by omega)
    by_cases c1 : onb R P q = true
    · have hx := K.ins.2 q q0 q1
      rw [if_pos c1] at hx
      have hb := sm_le rem g q hg.short
      have hcs : suf.count q ≤ suf.length := List.count_le_length
      simp only [List.count_cons_self] at hx
      have hw : wrap64 (rd X q - 1) = ((sm rem g q + suf.count q : Nat) : Int) := by
        rw [hx]; exact wl (n := sm rem g q + suf.count q) (by omega)
      have hrem : rdOf false rem q = true := by
        cases e : rdOf false rem q with
        | true => rfl
        | false => have := K.off q q0 q1 c1 e; omega
      have hqT : q ∉ T := fun h => by have := (K.tin q h).2.2.2; omega
      have hset : ∀ x : Int, 0 ≤ x → x < (g.length : Int) → rd (X.set q.toNat (wrap64 (rd X q - 1))) x = if x = q then ((sm rem g q + suf.count q : Nat) : Int) else rd X x := by
        intro x x0 x1
        rw [rdSetI X q x _ q0 x0 (by rw [K.ins.1]; exact x1), hw]
      have hins : Ins g.length (onb R P) (fun q => sm rem g q + suf.count q) (X.set q.toNat (wrap64 (rd X q - 1))) := by
        refine ⟨by simpa using K.ins.1, fun x x0 x1 => ?_⟩
        rw [hset x x0 x1]
        by_cases e : x = q
        · subst e; rw [if_pos rfl, if_pos c1]
        · have e' : ¬ q = x := fun h => e h.symm
          rw [if_neg e, K.ins.2 x x0 x1]
          simp [List.count_cons, e']
      have hoff : ∀ x : Int, 0 ≤ x → x < (g.length : Int) → onb R P x = true → rdOf false rem x = false → rd (X.set q.toNat (wrap64 (rd X q - 1))) x = 0 := by
        intro x x0 x1 hox hrx
        rw [hset x x0 x1]
        by_cases e : x = q
        · subst e; rw [hrem] at hrx; cases hrx
        · rw [if_neg e]; exact K.off x x0 x1 hox hrx
      have hy : rd (X.set q.toNat (wrap64 (rd X q - 1))) q = ((sm rem g q + suf.count q : Nat) : Int) := by rw [hset q q0 q1, if_pos rfl]
      by_cases c2 : rd (X.set q.toNat (wrap64 (rd X q - 1))) q = 0
      · have key := ih (X.set q.toNat (wrap64 (rd X q - 1))) (T ++ [q]) (by simp; omega) ⟨K.lr, hins, by
          rw [List.nodup_append]
          refine ⟨K.nd, by simp, ?_⟩
          intro a ha b hb
          simp at hb
          subst hb
          rintro rfl
          exact hqT ha, by
          intro x hx'
          rcases List.mem_append.mp hx' with h | h
          · obtain ⟨b0, b1, b2, b3⟩ := K.tin x h
            have e : x ≠ q := by rintro rfl; exact hqT h
            exact ⟨b0, b1, b2, by rw [hset x b0 b1, if_neg e]; exact b3⟩
          · simp at h
            subst h
            exact ⟨q0, q1, hrem, c2⟩, by
          intro x x0 x1 hrx hzx
          by_cases e : x = q
          · simp [e]
          · rw [hset x x0 x1, if_neg e] at hzx
            exact List.mem_append.mpr (.inl (K.tall x x0 x1 hrx hzx)), hoff, K.ron, K.core⟩
        refine Ev.step (fun k => ?_) key
        rw [graph_Cyclic.l4, if_pos h1, if_pos (by omega), if_pos h1, rdAt, hon, Option.bind_some, if_pos c1, if_pos q0, if_pos (by rw [K.ins.1]; exact q1), Option.bind_some, if_pos c2, if_pos (by omega), w1 (by omega)]
        simp
      · have key := ih (X.set q.toNat (wrap64 (rd X q - 1))) T (by omega) ⟨K.lr, hins, K.nd, by
          intro x h
          obtain ⟨b0, b1, b2, b3⟩ := K.tin x h
          have e : x ≠ q := by rintro rfl; exact hqT h
          exact ⟨b0, b1, b2, by rw [hset x b0 b1, if_neg e]; exact b3⟩, by
          intro x x0 x1 hrx hzx
          by_cases e : x = q
          · subst e; exact absurd hzx c2
          · rw [hset x x0 x1, if_neg e] at hzx
            exact K.tall x x0 x1 hrx hzx, hoff, K.ron, K.core⟩
        refine Ev.step (fun k => ?_) key
        rw [graph_Cyclic.l4, if_pos h1, if_pos (by omega), if_pos h1, rdAt, hon, Option.bind_some, if_pos c1, if_pos q0, if_pos (by rw [K.ins.1]; exact q1), Option.bind_some, if_neg c2, w1 (by omega)]
        simp
    · have key := ih X T (by omega) ⟨K.lr, ⟨K.ins.1, fun x x0 x1 => by
        rw [K.ins.2 x x0 x1]
        by_cases e : onb R P x = true
        · have e' : ¬ q = x := by rintro rfl; exact c1 e
          rw [if_pos e, if_pos e]; simp [List.count_cons, e']
        · rw [if_neg e, if_neg e]⟩, K.nd, K.tin, K.tall, K.off, K.ron, K.core⟩
      refine Ev.step (fun k => ?_) key
      rw [graph_Cyclic.l4, if_pos h1, if_pos (by omega), if_pos h1, rdAt, hon, Option.bind_some, if_neg c1, w1 (by omega)]
      simp
theorem rdB_get (s : List Bool) (q : Int) (h : rdOf false s q = true) : s.getD q.toNat false = true := by simpa [rdOf] using h
theorem set_false_count (s : List Bool) (i : Nat) (h : s.getD i false = true) : (s.set i false).count true + 1 = s.count true := by
  have hi : i < s.length := by
    rw [List.getD_eq_getElem?_getD] at h
    cases e : s[i]? with
    | none => simp [e] at h
    | some b => exact (List.getElem?_eq_some_iff.mp e).1
  have hx : s[i] = true := by
    rw [List.getD_eq_getElem?_getD, List.getElem?_eq_getElem hi] at h
    simpa using h
  have hm : 0 < s.count true := List.count_pos_iff.mpr (hx ▸ List.getElem_mem hi)
  rw [List.count_set hi]
  simp [hx]
  omega
theorem nd_nat : ∀ (n : Nat) (l : List Nat), l.Nodup → (∀ x ∈ l, x < n) → l.length ≤ n
  | 0, l, _, h => by
    cases l with
    | nil => simp
    | cons a l => have := h a (by simp); omega
  | n + 1, l, hn, h => by
    have h1 := nd_nat n (l.erase n) (hn.erase n) (by
      intro x hx
      have h2 := (hn.mem_erase_iff).mp hx
      have := h x h2.2
      have := h2.1
      omega)
    by_cases c : n ∈ l
    · rw [List.length_erase_of_mem c] at h1; omega
    · rw [List.erase_of_not_mem c] at h1; omega
theorem nd_len (T : List Int) (n : Nat) (hn : T.Nodup) (h : ∀ q ∈ T, 0 ≤ q ∧ q < (n : Int)) : T.length ≤ n := by
  have h1 : (T.map Int.toNat).Nodup := by
    rw [List.nodup_iff_pairwise_ne, List.pairwise_map]
    refine List.Pairwise.imp_of_mem ?_ (List.nodup_iff_pairwise_ne.mp hn)
    intro a b ha hb hab e
    have := h a ha
    have := h b hb
    omega
  have h2 := nd_nat n _ h1 (by
    intro x hx
    obtain ⟨y, hy, rfl⟩ := List.mem_map.mp hx
    have := h y hy
    omega)
  simpa using h2
theorem pos_true (s : List Bool) (h : 0 < s.count true) : ∃ q : Int, 0 ≤ q ∧ q < (s.length : Int) ∧ rdOf false s q = true := by
  obtain ⟨i, hi, e⟩ := List.mem_iff_getElem.mp (List.count_pos_iff.mp h)
  exact ⟨(i : Int), by omega, by omega, by simp [rdOf, hi, e]⟩
theorem cyc_l3 {g : List (List Int)} (hg : Neat g) (R P : List Bool) (hR : R.length = g.length) (r : Bool) (hr : r = true ↔ Circ g (onb R P)) : ∀ (m : Nat) (rem : List Bool) (X T : List Int), rem.count true < m → Kinv g (onb R P) rem X T [] → Ev (fun k => graph_Cyclic.l3 k g P R X ((rem.count true : Nat) : Int) T) r := by
  have hf := hg.few
  intro m
  induction m with
  | zero =>
    intro rem X T hm K
    omega
  | succ m ih =>
    intro rem X T hm K
    rcases List.eq_nil_or_concat T with e | ⟨T', i, e⟩
    · subst e
      refine Ev.step (fun k => ?_) (Ev.now r)
      rw [graph_Cyclic.l3, if_neg (by simp)]
      congr 1
      rw [Bool.eq_iff_iff, hr, decide_eq_true_iff]
      constructor
      · intro hp
        refine ⟨fun c => 0 ≤ c ∧ c < (g.length : Int) ∧ rdOf false rem c = true, ?_, ?_⟩
        · obtain ⟨q, h0, h1, h2⟩ := pos_true rem (by omega)
          exact ⟨q, h0, by rw [← K.lr]; exact h1, h2⟩
        · rintro c ⟨c0, c1, c2⟩
          have hon := K.ron c c0 c1 c2
          have hi := K.ins.2 c c0 c1
          rw [if_pos hon] at hi
          have hz : rd X c ≠ 0 := fun h => by have := K.tall c c0 c1 c2 h; simp at this
          have hpos : 0 < sm rem g c := by
            simp at hi
            omega
          obtain ⟨j, h1, h2⟩ := (sm_pos rem g c K.lr).mp hpos
          have hj : j < g.length := by
            rw [List.getD_eq_getElem?_getD] at h2
            cases e : g[j]? with
            | none => simp [e] at h2
            | some b => exact (List.getElem?_eq_some_iff.mp e).1
          exact ⟨c0, c1, hon, (j : Int), ⟨by omega, by omega, by simpa [rdOf] using h1⟩, by rw [rdLNat]; exact h2⟩
      · rintro ⟨C, ⟨c, hc⟩, hC⟩
        have h1 := K.core C hC c hc
        have h2 := set_false_count rem c.toNat (rdB_get _ _ h1)
        omega
    · rw [List.concat_eq_append] at e
      subst e
      obtain ⟨i0, i1, i2, i3⟩ := K.tin i (by simp)
      have hion := K.ron i i0 i1 i2
      have hcnt := set_false_count rem i.toNat (rdB_get _ _ i2)
      have hTl := nd_len _ g.length K.nd (fun q hq => ⟨(K.tin q hq).1, (K.tin q hq).2.1⟩)
      simp only [List.length_append, List.length_cons, List.length_nil] at hTl
      have hset : ∀ q : Int, 0 ≤ q → q < (g.length : Int) → rdOf false (rem.set i.toNat false) q = if q = i then false else rdOf false rem q := fun q q0 q1 => rdSetB rem i q false i0 q0 (by rw [K.lr]; exact q1)
      have hnd := List.nodup_append.mp K.nd
      have hsm : ∀ q, sm (rem.set i.toNat false) g q + (rd_L1 g i).count q = sm rem g q := fun q => by
        have := sm_set rem g q i.toNat K.lr (rdB_get _ _ i2)
        simpa [rd_L1] using this
      have hKX : Kinv g (onb R P) (rem.set i.toNat false) X T' (rd_L1 g i) := ⟨by simpa using K.lr, ⟨K.ins.1, fun q q0 q1 => by
          have := K.ins.2 q q0 q1
          simp only [List.count_nil, Nat.add_zero] at this
          show rd X q = if onb R P q = true then ((sm (rem.set i.toNat false) g q + List.count q (rd_L1 g i) : Nat) : Int) else 0
          rw [hsm]; exact this⟩, hnd.1, by
        intro q hq
        obtain ⟨b0, b1, b2, b3⟩ := K.tin q (by simp [hq])
        have e : q ≠ i := hnd.2.2 q hq i (by simp)
        exact ⟨b0, b1, by rw [hset q b0 b1, if_neg e]; exact b2, b3⟩, by
        intro q q0 q1 h1 h2
        rw [hset q q0 q1] at h1
        by_cases e : q = i
        · rw [if_pos e] at h1; cases h1
        · rw [if_neg e] at h1
          have := K.tall q q0 q1 h1 h2
          simpa [e] using this, by
        intro q q0 q1 h1 h2
        rw [hset q q0 q1] at h2
        by_cases e : q = i
        · subst e; exact i3
        · rw [if_neg e] at h2
          exact K.off q q0 q1 h1 h2, by
        intro q q0 q1 h1
        rw [hset q q0 q1] at h1
        by_cases e : q = i
        · subst e; exact hion
        · rw [if_neg e] at h1
          exact K.ron q q0 q1 h1, by
        intro C hC c hc
        obtain ⟨c0, c1, c2, c', hc', hcc⟩ := hC c hc
        rw [hset c c0 c1]
        by_cases e : c = i
        · exfalso
          subst e
          have h5 := K.core C hC c' hc'
          have h6 := (sm_pos rem g c K.lr).mpr ⟨c'.toNat, rdB_get _ _ h5, by simpa [rd_L1] using hcc⟩
          have h7 := K.ins.2 c c0 c1
          rw [if_pos hion, i3] at h7
          simp at h7
          omega
        · rw [if_neg e]; exact K.core C hC c hc⟩
      have hrs := row_short hg i
      have key := cyc_l4 hg R P hR (rem.set i.toNat false) (((rem.set i.toNat false).count true : Nat) : Int) r (fun X2 T2 K2 => ih _ X2 T2 (by omega) K2) (rd_L1 g i) [] X T' (by simpa using hrs) (row_pts hg i) (by omega) hKX
      have hx : wrap64 (((T' ++ [i]).length : Int) - 1) = (T'.length : Int) := by
        rw [show (T' ++ [i]).length = T'.length + 1 by simp]
        exact wl (by omega)
      have hp : rd (T' ++ [i]) (T'.length : Int) = i := rdAt T' i []
      have hcl : rem.count true ≤ g.length := by rw [← K.lr]; exact List.count_le_length
      have hxl : wrap64 (((rem.count true : Nat) : Int) - 1) = (((rem.set i.toNat false).count true : Nat) : Int) := by
        rw [← hcnt]
        exact wl (by omega)
      refine Ev.step (fun k => ?_) key
      rw [graph_Cyclic.l3, if_pos (by simp), hx, if_pos (by omega), if_pos (by simp; omega), if_pos (by simp; omega), hp, if_pos i0, if_pos i1, hxl]
      simp
theorem cyc_is {g : List (List Int)} (hg : Neat g) (R P : List Bool) (hR : R.length = g.length) (r : Bool) (hr : r = true ↔ Circ g (onb R P)) : Ev (fun k => graph_Cyclic.g k g P R) r := by
  have hf := hg.few
  have key := cyc_l0 hg R P hR r (by
    intro X hX
    have k3 := cyc_l3 hg R P hR r hr (g.length + 1) (onl R P g.length) X (tl R P X g.length) (by
      have := @List.count_le_length _ _ true (onl R P g.length)
      rw [onl_len] at this
      omega) ⟨onl_len _ _ _, ⟨hX.1, fun q q0 q1 => by simpa using hX.2 q q0 q1⟩, by
        unfold tl
        rw [List.nodup_iff_pairwise_ne, List.pairwise_map]
        refine List.Pairwise.imp ?_ ((List.nodup_iff_pairwise_ne.mp (List.nodup_range (n := g.length))).filter _)
        intro a b hab e
        omega, by
        intro q hq
        unfold tl at hq
        obtain ⟨j, hj, rfl⟩ := List.mem_map.mp hq
        obtain ⟨h1, h2⟩ := List.mem_filter.mp hj
        simp at h1 h2
        exact ⟨by omega, by omega, by rw [onl_at R P _ _ (by omega) (by omega)]; exact h2.1, h2.2⟩, by
        intro q q0 q1 h1 h2
        rw [onl_at R P _ _ q0 q1] at h1
        unfold tl
        refine List.mem_map.mpr ⟨q.toNat, List.mem_filter.mpr ⟨by simp; omega, ?_⟩, by omega⟩
        rw [Int.toNat_of_nonneg q0]
        simp [h1, h2], by
        intro q q0 q1 h1 h2
        rw [onl_at R P _ _ q0 q1] at h2
        rw [h1] at h2
        exact Bool.noConfusion h2, by
        intro q q0 q1 h1
        rw [onl_at R P _ _ q0 q1] at h1
        exact h1, by
        intro C hC c hc
        obtain ⟨c0, c1, c2, _⟩ := hC c hc
        rw [onl_at R P _ _ c0 c1]
        exact c2⟩
    exact cyc_l2 hg R P hR X hX.1 _ r k3 g.length 0 (by omega)) g [] (List.replicate g.length 0) rfl ⟨by simp, by
      intro q q0 q1
      have : q.toNat < g.length := by omega
      simp [rd, sm, onl, List.getElem?_replicate, this]⟩
  refine Ev.congr (fun k => ?_) key
  simp only [graph_Cyclic.g]
  rw [if_pos (by omega), if_pos (by omega)]
  simp [onl]
theorem Cyclic (g : List (List Int)) (hg : Small g) (P R : List Bool) (hR : R.length = (norm g).length) (h2 : Ev (fun k => graph_reach.f k (norm g) 0 (-1)) R) (r : Bool) (hr : r = true ↔ Circ (norm g) (onb R P)) : Ev (fun k => graph_Cyclic.f k g P) r :=
  Ev.bind (f := fun k t1 => (graph_reach.f k t1 0 (-1)).bind fun t2 => graph_Cyclic.g k t1 P t2) (clean g hg) (Ev.bind (f := fun k t2 => graph_Cyclic.g k (norm g) P t2) h2 (cyc_is (neat g hg) R P hR r hr))

theorem loops_l1 {n : Nat} (Y : List Int) (R : List Bool) (p : List (List Int)) (hR : R.length = n) (hn : n ≤ 100) (D : Nat → Nat → Bool) (hD : ∀ a b : Nat, a < n → b < n → Ev (fun k => graph_Dominates.f k Y (a : Int) (b : Int)) (D a b))
    (hall : ∀ q : Int, 0 ≤ q → q < (n : Int) → rdOf false R q = true) (x6 : List S37) (h : Nat) (hh : h < n) (x21 : Int) (r : List S37) : ∀ (suf pre x8 : List Int), (∀ q ∈ suf, 0 ≤ q ∧ q < (n : Int)) → pre.length + suf.length ≤ 100000 → x8.length + suf.length ≤ 100000 →
    Ev (fun k => if ((x8 ++ suf.filter fun q => D h q.toNat).length : Int) > 0 then ((graph_body.f k p (h : Int) (x8 ++ suf.filter fun q => D h q.toNat) R).bind fun t287 => (if x6.length < 3518437208883 then (graph_Loops.l0 k Y R p (x6 ++ [(⟨(h : Int), t287, (-1)⟩ : S37)]) x21 (wrap64 ((h : Int) + 1))) else (none))) else (graph_Loops.l0 k Y R p x6 x21 (wrap64 ((h : Int) + 1)))) r →
    Ev (fun k => graph_Loops.l1 k Y R p x6 (h : Int) x8 x21 (h : Int) (pre ++ suf) ((pre ++ suf).length : Int) (pre.length : Int)) r
  | [], pre, x8, hq, hl, h8, hk => by
    refine Ev.step (fun k => ?_) hk
    rw [graph_Loops.l1, if_neg (by simp)]
    simp
  | q :: suf, pre, x8, hq, hl, h8, hk => by
    simp only [List.length_cons] at hl h8
    have h1 : ((pre.length : Nat) : Int) < ((pre ++ q :: suf).length : Int) := by simp; omega
    obtain ⟨q0, q1⟩ := hq q (by simp)
    have hd := hD h q.toNat hh (by omega)
    rw [Int.toNat_of_nonneg q0] at hd
    have ih := fun x8' => loops_l1 Y R p hR hn D hD hall x6 h hh x21 r suf (pre ++ [q]) x8' (fun x hx => hq x (by simp [hx])) (by simp; omega)
    have e : Ev (fun k => if D h q.toNat = true then (if x8.length < 17592186044416 then (graph_Loops.l1 k Y R p x6 (h : Int) (x8 ++ [q]) x21 (h : Int) (pre ++ q :: suf) ((pre ++ q :: suf).length : Int) (wrap64 ((pre.length : Int) + 1))) else (none)) else (graph_Loops.l1 k Y R p x6 (h : Int) x8 x21 (h : Int) (pre ++ q :: suf) ((pre ++ q :: suf).length : Int) (wrap64 ((pre.length : Int) + 1)))) r := by
      by_cases c : D h q.toNat = true
      · have k1 := ih (x8 ++ [q]) (by simp; omega) (by simpa [List.filter_cons, c] using hk)
        refine Ev.congr (fun k => ?_) k1
        rw [if_pos c, if_pos (by omega), w1 (by omega)]
        simp
      · have k1 := ih x8 (by omega) (by simpa [List.filter_cons, c] using hk)
        refine Ev.congr (fun k => ?_) k1
        rw [if_neg c, w1 (by omega)]
        simp
    have e2 := Ev.bind (f := fun k (t283 : Bool) => if t283 = true then (if x8.length < 17592186044416 then (graph_Loops.l1 k Y R p x6 (h : Int) (x8 ++ [q]) x21 (h : Int) (pre ++ q :: suf) ((pre ++ q :: suf).length : Int) (wrap64 ((pre.length : Int) + 1))) else (none)) else (graph_Loops.l1 k Y R p x6 (h : Int) x8 x21 (h : Int) (pre ++ q :: suf) ((pre ++ q :: suf).length : Int) (wrap64 ((pre.length : Int) + 1)))) hd e
    refine Ev.step (fun k => ?_) e2
    rw [graph_Loops.l1, if_pos h1, if_pos (by omega), if_pos h1, rdAt, if_pos q0, if_pos (by omega), if_pos (hall q q0 q1), if_pos (by omega), if_pos (by omega), if_pos (hall _ (by omega) (by omega))]
theorem loops_none {n : Nat} (Y : List Int) (R : List Bool) (p : List (List Int)) (hp : p.length = n) (hpt : ∀ k : Int, ∀ q ∈ rd_L1 p k, 0 ≤ q ∧ q < (n : Int)) (hpl : ∀ k : Int, (rd_L1 p k).length ≤ 4000) (hR : R.length = n) (hn : n ≤ 100) (D : Nat → Nat → Bool) (hD : ∀ a b : Nat, a < n → b < n → Ev (fun k => graph_Dominates.f k Y (a : Int) (b : Int)) (D a b))
    (hall : ∀ q : Int, 0 ≤ q → q < (n : Int) → rdOf false R q = true) (hno : ∀ h : Nat, h < n → ∀ q ∈ rd_L1 p (h : Int), D h q.toNat = false) : ∀ (m j : Nat), j + m = n → Ev (fun k => graph_Loops.l0 k Y R p [] (n : Int) (j : Int)) []
  | 0, j, h => by
    have e2 : Ev (fun k => graph_Loops.l2 k [] (([] : List S37).length : Int) 0) [] := by
      refine Ev.step (fun k => ?_) (Ev.now _)
      rw [graph_Loops.l2, if_neg (by simp)]
      rfl
    refine Ev.step (fun k => ?_) e2
    rw [graph_Loops.l0, if_neg (by omega)]
  | m + 1, j, h => by
    have ih := loops_none Y R p hp hpt hpl hR hn D hD hall hno m (j + 1) (by omega)
    have hf : (rd_L1 p (j : Int)).filter (fun q => D j q.toNat) = [] := by
      rw [List.filter_eq_nil_iff]
      intro q hq
      simp [hno j (by omega) q hq]
    have hl := hpl (j : Int)
    have key := loops_l1 Y R p hR hn D hD hall [] j (by omega) (n : Int) [] (rd_L1 p (j : Int)) [] [] (hpt _) (by simp; omega) (by simp; omega) (by
      rw [hf]
      refine Ev.congr (fun k => ?_) ih
      rw [if_neg (by simp), w1 (by omega)])
    refine Ev.step (fun k => ?_) key
    rw [graph_Loops.l0, if_pos (by omega), if_pos (by omega), if_pos (by omega)]
    rfl
theorem nrow_mem (n : Nat) : ∀ (l acc : List Int) (q : Int), q ∈ nrow n acc l ↔ q ∈ acc ∨ (q ∈ l ∧ 0 ≤ q ∧ q < (n : Int))
  | [], acc, q => by simp [nrow]
  | x :: l, acc, q => by
    simp only [nrow]
    split
    · rename_i h
      rw [nrow_mem n l (acc ++ [x]) q, List.mem_append, List.mem_singleton, List.mem_cons]
      constructor
      · rintro ((h1 | h1) | h1)
        · exact .inl h1
        · subst h1; exact .inr ⟨.inl rfl, h.1, h.2.1⟩
        · exact .inr ⟨.inr h1.1, h1.2⟩
      · rintro (h1 | ⟨h1 | h1, h2⟩)
        · exact .inl (.inl h1)
        · exact .inl (.inr h1)
        · exact .inr ⟨h1, h2⟩
    · rename_i h
      rw [nrow_mem n l acc q, List.mem_cons]
      constructor
      · rintro (h1 | h1)
        · exact .inl h1
        · exact .inr ⟨.inr h1.1, h1.2⟩
      · rintro (h1 | ⟨h1 | h1, h2⟩)
        · exact .inl h1
        · subst h1
          left
          refine Classical.byContradiction fun h3 => h ⟨h2.1, h2.2, h3⟩
        · exact .inr ⟨h1, h2⟩
theorem eg_norm (g : List (List Int)) (u v : Nat) : Eg (norm g) u v ↔ (v : Int) ∈ rd_L1 g (u : Int) ∧ v < g.length := by
  unfold Eg
  rw [rdLNat, rdLNat, List.getD_eq_getElem?_getD, List.getD_eq_getElem?_getD]
  unfold norm
  rw [List.getElem?_map]
  cases g[u]? with
  | none => simp
  | some l =>
    simp only [Option.map_some, Option.getD_some]
    rw [nrow_mem]
    simp
theorem OrderP (g : List (List Int)) (hg : Small g) : ∃ o, Left (norm g) o ∧ Ev (fun k => graph_Order.f k g) o := by
  obtain ⟨o, h1, _, h2, _⟩ := order_is (neat g hg)
  exact ⟨o, h1, Ev.bind (f := fun k t401 => (graph_order.f k t401).bind fun t404 => (slices_Clip_int_int.f t404).bind fun t407 => (some t407)) (clean g hg) (Ev.bind (f := fun k t404 => (slices_Clip_int_int.f t404).bind fun t407 => (some t407)) h2 (Ev.now o))⟩
theorem sub_len : ∀ (l m : List Nat), l.Nodup → (∀ x ∈ l, x ∈ m) → l.length ≤ m.length
  | [], m, _, _ => by simp
  | x :: l, m, hn, h => by
    have hx := h x (by simp)
    have h2 := List.nodup_cons.mp hn
    have ih := sub_len l (m.erase x) h2.2 (by
      intro y hy
      have e : y ≠ x := by rintro rfl; exact h2.1 hy
      exact (List.mem_erase_of_ne e).mpr (h y (by simp [hy])))
    rw [List.length_erase_of_mem hx] at ih
    have := List.length_pos_of_mem hx
    simp
    omega

variable {n a b : Nat} {E : Nat → Nat → Prop} {o : List Nat}
theorem same_l0 (m : Nat) (hm : m < 1000000) : ∀ (suf pre : List Int), pre.length + suf.length = m → Ev (fun k => ratlineref11_SameInts.l0 k (pre ++ suf) (pre ++ suf) (pre.length : Int)) true
  | [], pre, h => by
    refine Ev.step (fun k => ?_) (Ev.now true)
    rw [ratlineref11_SameInts.l0, if_neg (by simp)]
  | q :: suf, pre, h => by
    refine Ev.step (fun k => ?_) (same_l0 m hm suf (pre ++ [q]) (by simp at h ⊢; omega))
    simp only [List.length_cons] at h
    have h1 : ((pre.length : Nat) : Int) < ((pre ++ q :: suf).length : Int) := by simp; omega
    rw [ratlineref11_SameInts.l0, if_pos h1, if_pos (by omega), if_pos h1, if_pos rfl, w1 (by omega)]
    simp
theorem same (l : List Int) (h : l.length < 1000000) : Ev (fun k => ratlineref11_SameInts.f k l l) true := by
  refine Ev.congr (fun k => ?_) (same_l0 l.length h l [] (by simp))
  simp [ratlineref11_SameInts.f]

structure Tree (n : Nat) (u : Nat → Nat) (E : Nat → Nat → Prop) : Prop where
  pos : 0 < n
  lt : ∀ v, 1 ≤ v → v < n → u v < v
  iff : ∀ x v, E x v ↔ 1 ≤ v ∧ v < n ∧ x = u v
def wantT (u : Nat → Nat) : Nat → Int := fun v => if v = 0 then -1 else (u v : Int)
section
variable {n : Nat} {u : Nat → Nat} {E : Nat → Nat → Prop} {o : List Nat}
theorem tree_all (L : Tree n u E) (O : Ord n E o) : ∀ (m v : Nat), v ≤ m → v < n → v ∈ o := by
  intro m
  induction m with
  | zero =>
    intro v h _
    have : v = 0 := by omega
    subst this
    exact zero_in O
  | succ m ih =>
    intro v h hv
    by_cases h0 : v = 0
    · subst h0; exact zero_in O
    · have := L.lt v (by omega) hv
      exact O.closed (u v) (ih (u v) (by omega) (by omega)) v ((L.iff _ _).mpr ⟨by omega, hv, rfl⟩)
theorem tree_in (L : Tree n u E) (O : Ord n E o) (v : Nat) (hv : v < n) : v ∈ o := tree_all L O v v (Nat.le_refl _) hv
theorem tree_len (L : Tree n u E) (O : Ord n E o) : o.length = n := by
  have h1 := nd_nat n o O.nodup O.lt
  have h2 := sub_len (List.range n) o List.nodup_range (fun x hx => tree_in L O x (by simpa using hx))
  simp at h2
  omega
theorem tree_idx (L : Tree n u E) (O : Ord n E o) (v : Nat) (hv : v < n) (h0 : v ≠ 0) : o.idxOf (u v) < o.idxOf v := by
  obtain ⟨x, _, h2, h3⟩ := O.par v (tree_in L O v hv) h0
  have := ((L.iff _ _).mp h2).2.2
  subst this
  exact h3
theorem tree_av (L : Tree n u E) {d : Nat} : ∀ (m x : Nat), x ≤ m → x < d → x < n → Av E (d : Int) x := by
  intro m
  induction m with
  | zero =>
    intro x h hd _
    have : x = 0 := by omega
    subst this
    exact .base (by omega)
  | succ m ih =>
    intro x h hd hx
    by_cases h0 : x = 0
    · subst h0; exact .base (by omega)
    · have := L.lt x (by omega) hx
      exact .step (ih (u x) (by omega) (by omega) (by omega)) ((L.iff _ _).mpr ⟨by omega, hx, rfl⟩) (by omega)
theorem tree_up (L : Tree n u E) {t h : Nat} (hth : t < h) (ht : t < n) : ¬ Dom E o h t := by
  rintro ⟨_, _, h3 | h3⟩
  · omega
  · exact h3 (tree_av L t t (Nat.le_refl _) hth ht)
theorem tree_dom (L : Tree n u E) (O : Ord n E o) (v : Nat) (hv : v < n) (h0 : v ≠ 0) : Dom E o (u v) v := by
  have hl := L.lt v (by omega) hv
  refine ⟨tree_in L O _ (by omega), tree_in L O v hv, .inr ?_⟩
  intro h
  cases h with
  | base _ => exact h0 rfl
  | step h e _ =>
    have := ((L.iff _ _).mp e).2.2
    subst this
    exact av_ne h rfl
theorem tree_true (L : Tree n u E) (O : Ord n E o) : True_ n E o (wantT u) := by
  have hw : ∀ v, v ≠ 0 → wantT u v = (u v : Int) := fun v h => by unfold wantT; rw [if_neg h]
  refine ⟨⟨?_, ?_, ?_⟩, ?_⟩
  · intro v hv h
    rcases h with h | h
    · subst h; rfl
    · exact absurd (tree_in L O v hv) h
  · intro v hv
    by_cases h0 : v = 0
    · subst h0; simp [wantT]
    · rw [hw v h0]; omega
  · intro v hv h
    have h0 : v ≠ 0 := by rintro rfl; simp [wantT] at h
    have hl := L.lt v (by omega) hv
    rw [hw v h0, Int.toNat_natCast]
    refine ⟨tree_in L O v hv, tree_in L O _ (by omega), tree_idx L O v hv h0, ?_, ?_⟩
    · by_cases hz : u v = 0
      · exact .inl hz
      · refine .inr ?_
        rw [hw _ hz]; omega
    · intro d hd hne
      exact dom_pred hd hne (tree_in L O _ (by omega)) ((L.iff _ _).mpr ⟨by omega, hv, rfl⟩)
  · intro v hv h0
    have hv' := O.lt v hv
    rw [hw v h0, Int.toNat_natCast]
    exact ⟨by omega, tree_dom L O v hv' h0⟩
end
section
variable {g : List (List Int)} {u : Nat → Nat}
theorem tree_rt (L : Tree g.length u (Eg (norm g))) : ∀ (m v : Nat), v ≤ m → v < g.length → Rt (norm g) 0 (v : Int) := by
  intro m
  induction m with
  | zero =>
    intro v h _
    have : v = 0 := by omega
    subst this
    exact .refl
  | succ m ih =>
    intro v h hv
    by_cases h0 : v = 0
    · subst h0; exact .refl
    · have := L.lt v (by omega) hv
      exact .step (ih (u v) (by omega) (by omega)) ((L.iff _ _).mpr ⟨by omega, hv, rfl⟩)
theorem tree_reach (hg : Small g) (L : Tree g.length u (Eg (norm g))) : ∃ R : List Bool, R.length = g.length ∧ (∀ q : Int, 0 ≤ q → q < (g.length : Int) → rdOf false R q = true) ∧ Ev (fun k => graph_reach.f k (norm g) 0 (-1)) R := by
  have hn := neat g hg
  have hl := norm_length g
  have h0 := L.pos
  obtain ⟨R, r1, r2, _⟩ := come_is hn 0 (-1) (by omega)
  refine ⟨R, by rw [r1.1, hl], ?_, r2⟩
  intro q q0 q1
  rw [come_rt hn (by omega) (by rw [hl]; omega) r1 q q0 (by rw [hl]; exact q1)]
  have := tree_rt L q.toNat q.toNat (Nat.le_refl _) (by omega)
  rwa [Int.toNat_of_nonneg q0] at this
theorem tree_cyc (hg : Small g) (L : Tree g.length u (Eg (norm g))) : Ev (fun k => graph_Cyclic.f k g []) false := by
  obtain ⟨R, r1, r2, r3⟩ := tree_reach hg L
  refine Cyclic g hg [] R (by rw [r1, norm_length]) r3 false ⟨fun h => (Bool.noConfusion h), fun h => absurd h ?_⟩
  rintro ⟨C, ⟨c, hc⟩, hC⟩
  have main : ∀ (m : Nat) (c : Int), C c → c.toNat ≤ m → False := by
    intro m
    induction m with
    | zero =>
      intro c hc hm
      obtain ⟨c0, c1, c2, c', hc', he⟩ := hC c hc
      obtain ⟨d0, d1, d2, _⟩ := hC c' hc'
      unfold rd_L1 at he
      have he' : Eg (norm g) c'.toNat c.toNat := by unfold Eg rd_L1; rw [Int.toNat_natCast, Int.toNat_of_nonneg c0]; exact he
      have h1 := ((L.iff _ _).mp he')
      omega
    | succ m ih =>
      intro c hc hm
      obtain ⟨c0, c1, c2, c', hc', he⟩ := hC c hc
      obtain ⟨d0, d1, d2, _⟩ := hC c' hc'
      unfold rd_L1 at he
      have he' : Eg (norm g) c'.toNat c.toNat := by unfold Eg rd_L1; rw [Int.toNat_natCast, Int.toNat_of_nonneg c0]; exact he
      have h1 := ((L.iff _ _).mp he')
      have h2 := L.lt _ h1.1 h1.2.1
      exact ih c' hc' (by omega)
  exact main _ c hc (Nat.le_refl _)
open Classical in
theorem tree_loops (hg : Small g) (L : Tree g.length u (Eg (norm g))) : Ev (fun k => graph_Loops.f k g) [] := by
  have hn := neat g hg
  have hl := norm_length g
  have h64 := hg.1
  obtain ⟨Y, h1, h2, h3⟩ := doms_is hn
  rw [hl] at h1 h3
  obtain ⟨o, O, T⟩ := h3 L.pos
  obtain ⟨R, r1, r2, r3⟩ := tree_reach hg L
  have hpall : (pall 0 (List.replicate (norm g).length []) (norm g)).length = g.length := by rw [pall_len]; simp [hl]
  have hpt : ∀ k : Int, ∀ q ∈ rd_L1 (pall 0 (List.replicate (norm g).length []) (norm g)) k, 0 ≤ q ∧ Eg (norm g) q.toNat k.toNat := by
    intro k q hq
    have : rd_L1 (pall 0 (List.replicate (norm g).length []) (norm g)) k = rd_L1 (pall 0 (List.replicate (norm g).length []) (norm g)) ((k.toNat : Nat) : Int) := by unfold rd_L1; rw [Int.toNat_natCast]
    rw [this] at hq
    exact (preds_mem hn k.toNat q).mp hq
  have hsh : ∀ k : Int, (rd_L1 (pall 0 (List.replicate (norm g).length []) (norm g)) k).length ≤ 4000 := by
    intro k
    have hb := pall_lb (norm g) 0 0 (List.replicate (norm g).length []) hn.short (by intro l hl'; simp at hl'; simp [hl'.2])
    unfold rd_L1
    rw [List.getD_eq_getElem?_getD]
    cases e : (pall 0 (List.replicate (norm g).length []) (norm g))[k.toNat]? with
    | none => simp
    | some l =>
      have := hb l (List.mem_of_getElem? e)
      rw [hl] at this
      simp only [Option.getD_some]
      omega
  have key := loops_none Y R (pall 0 (List.replicate (norm g).length []) (norm g)) hpall (fun k q hq => ⟨(hpt k q hq).1, by have := (eg_lt hn (hpt k q hq).2).1; have := (hpt k q hq).1; omega⟩) hsh r1 (by omega) (fun x y => decide (Dom (Eg (norm g)) o x y)) (fun x y hx hy => dominates_is O hg.1 h1 T (tree_in L O x hx) (tree_in L O y hy)) r2 (by
    intro h hh q hq
    have h4 := hpt (h : Int) q hq
    rw [Int.toNat_natCast] at h4
    have h5 := (L.iff _ _).mp h4.2
    have h6 := L.lt _ h5.1 h5.2.1
    simp only [decide_eq_false_iff_not]
    exact tree_up L (by omega) (by omega)) g.length 0 (by omega)
  refine Ev.bind (f := fun k t267 => (graph_doms.f k t267).bind fun t270 => ((graph_reach.f k t267 0 (-1)).bind fun t273 => ((graph_preds.f k t267).bind fun t276 => (graph_Loops.l0 k t270 t273 t276 ([] : List (S37)) (t267.length : Int) 0)))) (clean g hg) ?_
  refine Ev.bind (f := fun k t270 => (graph_reach.f k (norm g) 0 (-1)).bind fun t273 => ((graph_preds.f k (norm g)).bind fun t276 => (graph_Loops.l0 k t270 t273 t276 ([] : List (S37)) ((norm g).length : Int) 0))) h2 ?_
  refine Ev.bind (f := fun k t273 => (graph_preds.f k (norm g)).bind fun t276 => (graph_Loops.l0 k Y t273 t276 ([] : List (S37)) ((norm g).length : Int) 0)) r3 ?_
  refine Ev.bind (f := fun k t276 => graph_Loops.l0 k Y R t276 ([] : List (S37)) ((norm g).length : Int) 0) (preds (norm g) hn) ?_
  rw [hl] at key ⊢
  exact key
end
end Go.Proofs.Ytjflddnmkajleaa.Norm
