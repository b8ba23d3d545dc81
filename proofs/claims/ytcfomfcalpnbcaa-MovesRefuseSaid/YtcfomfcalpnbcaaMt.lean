/- Plain law: moves' May, Do, Cost answer as the document's own. -/
import Derived.Test.YtcfomfcalpnbcaaQTell
namespace Go.Proofs.Ytcfomfcalpnbcaa.Mv
open Go.RowKit Go.Proofs.Ytcfomfcalpnbcaa.PG Go.Proofs.YtcfomfcalpnbcaaW.PrintWords Go.Proofs.YtcfomfcalpnbcaaW.PrintLast Go.Proofs.YtcfomfcalpnbcaaW.PrintMore
set_option linter.unusedVariables false
set_option linter.unusedSimpArgs false

def t34 (x : S30) : S34 := ⟨x.f0, x.f1⟩
def t35 (x : S30) : S35 := ⟨x.f0, x.f1⟩
theorem f34 (x : S30) : (t34 x).f0 = x.f0 := rfl
theorem g34 (x : S30) : (t34 x).f1 = x.f1 := rfl
/-- What the moves' places keep to. -/
def Wf (l : List S30) : Prop := ∀ x ∈ l, (Lit.int .i64 x.f0).wf = true ∧ (Lit.int .i64 x.f1).wf = true

theorem w1 {n : Nat} (h : n < 100000000000000) : wrap64 ((n : Int) + 1) = ((n + 1 : Nat) : Int) := by
  unfold wrap64
  omega
theorem rd30 (pre : List S30) (x : S30) (suf : List S30) : rd_T30 (pre ++ x :: suf) (pre.length : Int) = x := by
  simp [rd_T30, List.getD]
theorem rd34 (l : List S30) (i : Int) : rd_T34 (l.map t34) i = t34 (rd_T30 l i) := by
  unfold rd_T34 rd_T30
  rw [List.getD_eq_getElem?_getD, List.getD_eq_getElem?_getD, List.getElem?_map]
  cases l[i.toNat]? <;> rfl
theorem rd35 (l : List S30) (i : Int) : rd_T35 (l.map t35) i = t35 (rd_T30 l i) := by
  unfold rd_T35 rd_T30
  rw [List.getD_eq_getElem?_getD, List.getD_eq_getElem?_getD, List.getElem?_map]
  cases l[i.toNat]? <;> rfl

/-! ### rows -/
theorem rows_l0 (l : List S30) (hl : l.length ≤ 60) : ∀ suf pre : List S30, l = pre ++ suf → Ev (fun k => ratlinelaw19_rows.l0 k l (pre.map t34) (pre.map t35) (pre.length : Int)) (l.map t34, l.map t35)
  | [], pre, h => by
    refine Ev.step (fun k => ?_) (Ev.now _)
    simp at h
    subst h
    rw [ratlinelaw19_rows.l0, if_neg (by simp)]
  | x :: suf, pre, h => by
    refine Ev.step (fun k => ?_) (rows_l0 l hl suf (pre ++ [x]) (by simp [h]))
    have hlen : l.length = pre.length + (suf.length + 1) := by rw [h]; simp
    have hx : rd_T30 l (pre.length : Int) = x := by rw [h]; exact rd30 _ _ _
    rw [ratlinelaw19_rows.l0, if_pos (by omega), if_pos (by omega), if_pos (by simp; omega), if_pos (by simp; omega), w1 (by omega), hx]
    simp [t34, t35]
theorem rows (l : List S30) (hl : l.length ≤ 60) : Ev (fun k => ratlinelaw19_rows.f k l) (l.map t34, l.map t35) := rows_l0 l hl l [] rfl

/-! ### May -/
def tos (l : List S30) : List Int := l.map S30.f0
def may (l : List S30) : Bool := decide (tos l).Nodup
theorem may_l0 (l : List S30) (hl : l.length ≤ 60) (hw : Wf l) : ∀ suf pre : List S30, l = pre ++ suf → (tos pre).Nodup → Ev (fun k => moves_May.l0 k (l.map t34) (tos pre).reverse (pre.length : Int)) (may l)
  | [], pre, h, hn => by
    refine Ev.step (fun k => ?_) (Ev.now _)
    simp at h
    subst h
    rw [moves_May.l0, if_neg (by simp)]
    simp [may, hn]
  | x :: suf, pre, h, hn => by
    have hlen : l.length = pre.length + (suf.length + 1) := by rw [h]; simp
    have hx : rd_T30 l (pre.length : Int) = x := by rw [h]; exact rd30 _ _ _
    have hwx := hw x (by rw [h]; simp)
    have hS : (tos pre).reverse.length < 1000000 := by simp [tos]; omega
    by_cases hin : x.f0 ∈ tos pre
    · refine Ev.step (fun k => ?_) (Ev.now _)
      rw [moves_May.l0, if_pos (by simp; omega), if_pos (by omega), rd34, hx, f34, if_pos hwx.1, if_pos hS, if_pos (by simpa using hin)]
      have : ¬ (tos l).Nodup := by
        rw [h]
        simp only [tos, List.map_append, List.map_cons]
        intro hc
        rw [List.nodup_append] at hc
        exact hc.2.2 _ hin _ (by simp) rfl
      simp [may, this]
    · refine Ev.step (fun k => ?_) (may_l0 l hl hw suf (pre ++ [x]) (by simp [h]) ?_)
      · rw [moves_May.l0, if_pos (by simp; omega), if_pos (by omega), rd34, hx, f34, if_pos hwx.1, if_pos hS, if_neg (by simpa using hin), w1 (by omega)]
        simp [t34, tos]
      · simp only [tos, List.map_append, List.map_cons, List.map_nil]
        rw [List.nodup_append]
        refine ⟨hn, by simp, ?_⟩
        intro a ha b hb
        simp at hb
        subst hb
        exact fun e => hin (e ▸ ha)
theorem may_is (l : List S30) (hl : l.length ≤ 60) (hw : Wf l) : Ev (fun k => moves_May.f k (l.map t34)) (may l) := may_l0 l hl hw l [] rfl (by simp [tos])

theorem rmay_l1 (l : List S30) (hl : l.length ≤ 60) (x : S30) (suf pre : List S30) (h : l = pre ++ x :: suf) (r : Bool)
    (hr : x.f0 ∈ tos pre → r = false) (hk : x.f0 ∉ tos pre → Ev (fun k => ratlineref18_May.l0 k (l.map t35) ((pre.length + 1 : Nat) : Int)) r) : ∀ p2 p1 : List S30, pre = p1 ++ p2 → x.f0 ∉ tos p1 →
    Ev (fun k => ratlineref18_May.l1 k (l.map t35) (pre.length : Int) (p1.length : Int)) r
  | [], p1, e, hn => by
    simp at e
    subst e
    refine Ev.step (fun k => ?_) (hk hn)
    have hlen : l.length = pre.length + (suf.length + 1) := by rw [h]; simp
    rw [ratlineref18_May.l1, if_neg (by omega), w1 (by omega)]
  | y :: p2, p1, e, hn => by
    have hlen : l.length = pre.length + (suf.length + 1) := by rw [h]; simp
    have hlp : pre.length = p1.length + (p2.length + 1) := by rw [e]; simp
    have hx : rd_T30 l (pre.length : Int) = x := by rw [h]; exact rd30 _ _ _
    have hy : rd_T30 l (p1.length : Int) = y := by
      rw [h, e, List.append_assoc]
      exact rd30 _ _ _
    by_cases hq : x.f0 = y.f0
    · refine Ev.step (fun k => ?_) (Ev.now _)
      rw [ratlineref18_May.l1, if_pos (by omega), if_pos (by omega), if_pos (by simp; omega), if_pos (by omega), if_pos (by simp; omega), rd35, rd35, hx, hy, if_pos (by simpa [t35] using hq)]
      rw [hr (by rw [e, hq]; simp [tos])]
    · refine Ev.step (fun k => ?_) (rmay_l1 l hl x suf pre h r hr hk p2 (p1 ++ [y]) (by simp [e]) ?_)
      · rw [ratlineref18_May.l1, if_pos (by omega), if_pos (by omega), if_pos (by simp; omega), if_pos (by omega), if_pos (by simp; omega), rd35, rd35, hx, hy, if_neg (by simpa [t35] using hq), w1 (by omega)]
        simp
      · simp [tos] at hn ⊢
        exact ⟨hn, hq⟩
theorem rmay_l0 (l : List S30) (hl : l.length ≤ 60) : ∀ suf pre : List S30, l = pre ++ suf → (tos pre).Nodup → Ev (fun k => ratlineref18_May.l0 k (l.map t35) (pre.length : Int)) (may l)
  | [], pre, h, hn => by
    refine Ev.step (fun k => ?_) (Ev.now _)
    simp at h
    subst h
    rw [ratlineref18_May.l0, if_neg (by simp)]
    simp [may, hn]
  | x :: suf, pre, h, hn => by
    have hlen : l.length = pre.length + (suf.length + 1) := by rw [h]; simp
    refine Ev.step (fun k => ?_) (rmay_l1 l hl x suf pre h (may l) ?_ ?_ pre [] (by simp) (by simp [tos]))
    · rw [ratlineref18_May.l0, if_pos (by simp; omega)]
      rfl
    · intro hin
      have : ¬ (tos l).Nodup := by
        rw [h]
        simp only [tos, List.map_append, List.map_cons]
        intro hc
        rw [List.nodup_append] at hc
        exact hc.2.2 _ hin _ (by simp) rfl
      simp [may, this]
    · intro hin
      have := rmay_l0 l hl suf (pre ++ [x]) (by simp [h]) (by
        simp only [tos, List.map_append, List.map_cons, List.map_nil]
        rw [List.nodup_append]
        refine ⟨hn, by simp, ?_⟩
        intro a ha b hb
        simp at hb
        subst hb
        exact fun e => hin (e ▸ ha))
      simpa using this
theorem rmay_is (l : List S30) (hl : l.length ≤ 60) : Ev (fun k => ratlineref18_May.f k (l.map t35)) (may l) := rmay_l0 l hl l [] rfl (by simp [tos])

/-! ### Do -/
def dstep (out : List Int) (x : S30) : List Int := if (0 ≤ x.f0 ∧ x.f0 < (out.length : Int)) ∧ (0 ≤ x.f1 ∧ x.f1 < (out.length : Int)) then out.set x.f0.toNat (rd out x.f1) else out
theorem dstep_length (out : List Int) (x : S30) : (dstep out x).length = out.length := by
  unfold dstep
  split <;> simp
def dall (out : List Int) (l : List S30) : List Int := l.foldl dstep out
theorem dall_length : ∀ (l : List S30) (out : List Int), (dall out l).length = out.length
  | [], _ => rfl
  | x :: l, out => by
    have := dall_length l (dstep out x)
    simp only [dall, List.foldl_cons] at this ⊢
    rw [this, dstep_length]
theorem do_l0 (l : List S30) (hl : l.length ≤ 60) : ∀ (suf pre : List S30) (out : List Int), l = pre ++ suf → Ev (fun k => moves_Do.l0 k (l.map t34) out (pre.length : Int)) (dall out suf)
  | [], pre, out, h => by
    refine Ev.step (fun k => ?_) (Ev.now _)
    simp at h
    subst h
    rw [moves_Do.l0, if_neg (by simp)]
    rfl
  | x :: suf, pre, out, h => by
    have hlen : l.length = pre.length + (suf.length + 1) := by rw [h]; simp
    have hx : rd_T30 l (pre.length : Int) = x := by rw [h]; exact rd30 _ _ _
    refine Ev.step (fun k => ?_) (do_l0 l hl suf (pre ++ [x]) (dstep out x) (by simp [h]))
    rw [moves_Do.l0, if_pos (by simp; omega), if_pos (by omega), rd34, hx, w1 (by omega)]
    have : doStep out (t34 x) = dstep out x := by
      have hc : (inn out.length (t34 x).f0 = true ∧ inn out.length (t34 x).f1 = true) ↔ ((0 ≤ x.f0 ∧ x.f0 < (out.length : Int)) ∧ (0 ≤ x.f1 ∧ x.f1 < (out.length : Int))) := by
        simp only [inn, Bool.and_eq_true]
        exact ⟨fun h => ⟨⟨of_decide_eq_true h.1.1, of_decide_eq_true h.1.2⟩, of_decide_eq_true h.2.1, of_decide_eq_true h.2.2⟩, fun h => ⟨⟨decide_eq_true h.1.1, decide_eq_true h.1.2⟩, decide_eq_true h.2.1, decide_eq_true h.2.2⟩⟩
      unfold doStep dstep
      by_cases hd : (0 ≤ x.f0 ∧ x.f0 < (out.length : Int)) ∧ (0 ≤ x.f1 ∧ x.f1 < (out.length : Int))
      · rw [if_pos (hc.mpr hd), if_pos hd]
        rfl
      · rw [if_neg (fun h => hd (hc.mp h)), if_neg hd]
    rw [this]
    simp
theorem do_is (l : List S30) (hl : l.length ≤ 60) (at_ : List Int) (ha : at_.length ≤ 60) : Ev (fun k => moves_Do.f k (l.map t34) at_) (dall at_ l) := by
  refine Ev.congr (fun k => ?_) (do_l0 l hl l [] at_ rfl)
  rw [moves_Do.f, if_pos (by omega)]
  rfl
theorem rdo_l0 (l : List S30) (hl : l.length ≤ 60) : ∀ (suf pre : List S30) (out : List Int), l = pre ++ suf → Ev (fun k => ratlineref18_Do.l0 k (l.map t35) out (pre.length : Int)) (dall out suf)
  | [], pre, out, h => by
    refine Ev.step (fun k => ?_) (Ev.now _)
    simp at h
    subst h
    rw [ratlineref18_Do.l0, if_neg (by simp)]
    rfl
  | x :: suf, pre, out, h => by
    have hlen : l.length = pre.length + (suf.length + 1) := by rw [h]; simp
    have hx : rd_T30 l (pre.length : Int) = x := by rw [h]; exact rd30 _ _ _
    refine Ev.step (fun k => ?_) (rdo_l0 l hl suf (pre ++ [x]) (dstep out x) (by simp [h]))
    rw [ratlineref18_Do.l0, if_pos (by simp; omega), if_pos (by omega), rd35, hx, w1 (by omega)]
    have e0 : (t35 x).f0 = x.f0 := rfl
    have e1 : (t35 x).f1 = x.f1 := rfl
    have e2 : ((pre ++ [x]).length : Int) = ((pre.length + 1 : Nat) : Int) := by simp
    rw [e0, e1, e2]
    unfold dstep
    by_cases c0 : 0 ≤ x.f0
    · rw [if_pos c0]
      by_cases c1 : x.f0 < (out.length : Int)
      · rw [if_pos c1]
        by_cases c2 : 0 ≤ x.f1
        · rw [if_pos c2]
          by_cases c3 : x.f1 < (out.length : Int)
          · rw [if_pos c3, if_pos c2, if_pos c0, if_pos ⟨⟨c0, c1⟩, c2, c3⟩]
          · rw [if_neg c3, if_neg (fun h => c3 h.2.2)]
        · rw [if_neg c2, if_neg (fun h => c2 h.2.1)]
      · rw [if_neg c1, if_neg (fun h => c1 h.1.2)]
    · rw [if_neg c0, if_neg (fun h => c0 h.1.1)]
theorem rdo_is (l : List S30) (hl : l.length ≤ 60) (at_ : List Int) (ha : at_.length ≤ 60) : Ev (fun k => ratlineref18_Do.f k (l.map t35) at_) (dall at_ l) := by
  refine Ev.congr (fun k => ?_) (rdo_l0 l hl l [] at_ rfl)
  rw [ratlineref18_Do.f, Option.bind_some, if_pos (by simp; omega)]
  rfl

theorem rdAt (pre : List Int) (q : Int) (suf : List Int) : rd (pre ++ q :: suf) (pre.length : Int) = q := by
  simp [rd, List.getD]
theorem same_l0 (m : Nat) (hm : m < 1000000) : ∀ (suf pre : List Int), pre.length + suf.length = m → Ev (fun k => ratlineref11_SameInts.l0 k (pre ++ suf) (pre ++ suf) (pre.length : Int)) true
  | [], pre, h => by
    refine Ev.step (fun k => ?_) (Ev.now true)
    rw [ratlineref11_SameInts.l0, if_neg (by simp)]
  | q :: suf, pre, h => by
    refine Ev.step (fun k => ?_) (same_l0 m hm suf (pre ++ [q]) (by simp at h ⊢; omega))
    simp only [List.length_cons] at h
    have h1 : ((pre.length : Nat) : Int) < ((pre ++ q :: suf).length : Int) := by simp; omega
    rw [ratlineref11_SameInts.l0, if_pos h1, if_pos (by omega), if_pos h1, if_pos rfl, w1 (by omega)]
    simp
theorem same (l : List Int) (h : l.length < 1000000) : Ev (fun k => ratlineref11_SameInts.f k l l) true := by
  refine Ev.congr (fun k => ?_) (same_l0 l.length h l [] (by simp))
  simp [ratlineref11_SameInts.f]

/-! ### Cost -/
/-- Where a place's content comes from. -/
def src : List S30 → Int → Option Int
  | [], _ => none
  | x :: l, t => if x.f0 = t ∧ x.f1 ≠ t then some x.f1 else src l t
/-- Whether a walk of at most so many steps comes back to where it began, there being none less on the way. -/
def back (F : Int → Option Int) (t0 : Int) : Nat → Int → Int → Bool
  | 0, least, at_ => decide (at_ = t0 ∧ least = t0)
  | m + 1, least, at_ => if at_ = t0 then decide (least = t0) else match F at_ with
    | none => false
    | some s => back F t0 m (mn least at_) s
def cost (F : Int → Option Int) (n : Nat) : List S30 → Nat
  | [] => 0
  | x :: l => if x.f0 = x.f1 then cost F n l else (if back F x.f0 n x.f0 x.f1 = true then 2 else 1) + cost F n l
theorem cost_le (F : Int → Option Int) (n : Nat) : ∀ l : List S30, cost F n l ≤ 2 * l.length
  | [] => Nat.le_refl _
  | x :: l => by
    have := cost_le F n l
    simp only [cost, List.length_cons]
    split
    · omega
    · split <;> omega

theorem source_l0 (l : List S30) (hl : l.length ≤ 60) (t : Int) : ∀ suf pre : List S30, l = pre ++ suf → Ev (fun k => ratlineref18_source.l0 k (l.map t35) t (pre.length : Int)) ((src suf t).getD 0, (src suf t).isSome)
  | [], pre, h => by
    refine Ev.step (fun k => ?_) (Ev.now _)
    simp at h
    subst h
    rw [ratlineref18_source.l0, if_neg (by simp)]
    rfl
  | x :: suf, pre, h => by
    have hlen : l.length = pre.length + (suf.length + 1) := by rw [h]; simp
    have hx : rd_T30 l (pre.length : Int) = x := by rw [h]; exact rd30 _ _ _
    have e0 : (t35 x).f0 = x.f0 := rfl
    have e1 : (t35 x).f1 = x.f1 := rfl
    have e2 : ((pre ++ [x]).length : Int) = ((pre.length + 1 : Nat) : Int) := by simp
    by_cases c0 : x.f0 = t
    · by_cases c1 : x.f1 = t
      · have : src (x :: suf) t = src suf t := by simp [src, c1]
        rw [this]
        refine Ev.step (fun k => ?_) (source_l0 l hl t suf (pre ++ [x]) (by simp [h]))
        · rw [ratlineref18_source.l0, if_pos (by simp; omega), if_pos (by omega), rd35, hx, e0, e1, if_pos c0, if_pos c1, w1 (by omega), e2]
      · refine Ev.step (fun k => ?_) (Ev.now _)
        have : src (x :: suf) t = some x.f1 := by simp [src, c0, c1]
        rw [ratlineref18_source.l0, if_pos (by simp; omega), if_pos (by omega), rd35, hx, e0, e1, if_pos c0, if_neg c1, this]
        rfl
    · have : src (x :: suf) t = src suf t := by simp [src, c0]
      rw [this]
      refine Ev.step (fun k => ?_) (source_l0 l hl t suf (pre ++ [x]) (by simp [h]))
      · rw [ratlineref18_source.l0, if_pos (by simp; omega), if_pos (by omega), rd35, hx, e0, if_neg c0, w1 (by omega), e2]
theorem source_is (l : List S30) (hl : l.length ≤ 60) (t : Int) : Ev (fun k => ratlineref18_source.f k (l.map t35) t) ((src l t).getD 0, (src l t).isSome) := source_l0 l hl t l [] rfl

theorem rcost_walk (l : List S30) (hl : l.length ≤ 60) (x : S30) (suf pre : List S30) (h : l = pre ++ x :: suf) (c : Nat) (hc : c ≤ 200) (r : Int)
    (hk : ∀ b : Bool, b = back (src l) x.f0 l.length x.f0 x.f1 → Ev (fun k => ratlineref18_Cost.l0 k (l.map t35) ((c + (if b = true then 1 else 0) : Nat) : Int) ((pre.length + 1 : Nat) : Int)) r) :
    ∀ (m j : Nat) (least at_ : Int), j + m = l.length → back (src l) x.f0 m least at_ = back (src l) x.f0 l.length x.f0 x.f1 → Ev (fun k => ratlineref18_Cost.l1 k (l.map t35) (c : Int) (pre.length : Int) least at_ ((j + 1 : Nat) : Int)) r := by
  have hlen : l.length = pre.length + (suf.length + 1) := by rw [h]; simp
  have hx : rd_T35 (l.map t35) (pre.length : Int) = t35 x := by rw [rd35, h, rd30]
  have e0 : (t35 x).f0 = x.f0 := rfl
  have hend : ∀ (least at_ : Int) (x7 : Int), (decide (at_ = x.f0 ∧ least = x.f0)) = back (src l) x.f0 l.length x.f0 x.f1 → Ev (fun k => ratlineref18_Cost.j2 k (l.map t35) (c : Int) (pre.length : Int) least at_ x7 false) r := by
    intro least at_ x7 hb
    have hk' := hk _ hb
    refine Ev.step (fun k => ?_) hk'
    rw [ratlineref18_Cost.j2, if_neg (by simp), if_pos (by omega), if_pos (by simp; omega), hx, e0]
    by_cases c0 : at_ = x.f0
    · rw [if_pos c0]
      by_cases c1 : least = x.f0
      · rw [if_pos c1, w1 (by omega), w1 (by omega)]
        simp [c0, c1]
      · rw [if_neg c1, w1 (by omega)]
        simp [c0, c1]
    · rw [if_neg c0, w1 (by omega)]
      simp [c0]
  intro m
  induction m with
  | zero =>
    intro j least at_ hj hb
    by_cases c0 : at_ = x.f0
    · refine Ev.step (fun k => ?_) (hend least at_ ((j + 1 : Nat) : Int) (by rw [← hb]; simp [back]))
      rw [ratlineref18_Cost.l1, if_pos (by omega), if_pos (by simp; omega), hx, e0, if_pos c0]
    · refine Ev.step (fun k => ?_) (hend least at_ ((j + 1 : Nat) : Int) (by rw [← hb]; simp [back]))
      rw [ratlineref18_Cost.l1, if_pos (by omega), if_pos (by simp; omega), hx, e0, if_neg c0]
      rw [show decide (((j + 1 : Nat) : Int) ≤ ((l.map t35).length : Int)) = false from by simp; omega]
  | succ m ih =>
    intro j least at_ hj hb
    by_cases c0 : at_ = x.f0
    · refine Ev.step (fun k => ?_) (hend least at_ ((j + 1 : Nat) : Int) (by rw [← hb]; simp [back, c0]))
      rw [ratlineref18_Cost.l1, if_pos (by omega), if_pos (by simp; omega), hx, e0, if_pos c0]
    · refine Ev.step (g := fun k => ratlineref18_Cost.l1 k (l.map t35) (c : Int) (pre.length : Int) least at_ ((j + 1 : Nat) : Int)) (f := fun k => ratlineref18_Cost.j2 k (l.map t35) (c : Int) (pre.length : Int) least at_ ((j + 1 : Nat) : Int) true) (fun k => ?_) ?_
      · rw [ratlineref18_Cost.l1, if_pos (by omega), if_pos (by simp; omega), hx, e0, if_neg c0]
        rw [show decide (((j + 1 : Nat) : Int) ≤ ((l.map t35).length : Int)) = true from by simp; omega]
      · refine Ev.step (fun k => by rw [ratlineref18_Cost.j2, if_pos rfl]) (Ev.bind (source_is l hl at_) ?_)
        cases hs : src l at_ with
        | some s =>
          simp only [Option.isSome_some, Option.getD_some]
          have hb' : back (src l) x.f0 m (mn least at_) s = back (src l) x.f0 l.length x.f0 x.f1 := by
            rw [← hb]
            simp [back, c0, hs]
          refine Ev.congr (fun k => ?_) (ih (j + 1) (mn least at_) s (by omega) hb')
          rw [if_pos trivial, w1 (by omega)]
        | none =>
          simp only [Option.isSome_none]
          have hb' : false = back (src l) x.f0 l.length x.f0 x.f1 := by
            rw [← hb]
            simp [back, c0, hs]
          refine Ev.congr (fun k => ?_) (hk false hb')
          rw [if_neg (by simp), if_pos (by omega), if_pos (by simp; omega), hx, e0, if_neg c0, w1 (by omega)]
          simp
theorem rcost_l0 (l : List S30) (hl : l.length ≤ 60) : ∀ (suf pre : List S30) (c : Nat), l = pre ++ suf → c ≤ 2 * pre.length → Ev (fun k => ratlineref18_Cost.l0 k (l.map t35) (c : Int) (pre.length : Int)) ((c + cost (src l) l.length suf : Nat) : Int)
  | [], pre, c, h, hc => by
    refine Ev.step (fun k => ?_) (Ev.now _)
    simp at h
    subst h
    rw [ratlineref18_Cost.l0, if_neg (by simp)]
    rfl
  | x :: suf, pre, c, h, hc => by
    have hlen : l.length = pre.length + (suf.length + 1) := by rw [h]; simp
    have hx : rd_T35 (l.map t35) (pre.length : Int) = t35 x := by rw [rd35, h, rd30]
    have e0 : (t35 x).f0 = x.f0 := rfl
    have e1 : (t35 x).f1 = x.f1 := rfl
    have e2 : ((pre ++ [x]).length : Int) = ((pre.length + 1 : Nat) : Int) := by simp
    by_cases c0 : x.f0 = x.f1
    · have hn := rcost_l0 l hl suf (pre ++ [x]) c (by simp [h]) (by simp; omega)
      rw [show cost (src l) l.length (x :: suf) = cost (src l) l.length suf by simp [cost, c0]]
      refine Ev.step (fun k => ?_) hn
      rw [ratlineref18_Cost.l0, if_pos (by simp; omega), if_pos (by omega), hx, e0, e1, if_pos c0, w1 (by omega), e2]
    · refine Ev.step (fun k => by rw [ratlineref18_Cost.l0, if_pos (by simp; omega), if_pos (by omega), hx, e0, e1, if_neg c0, w1 (by omega)]) ?_
      refine rcost_walk l hl x suf pre h (c + 1) (by omega) _ (fun b hb => ?_) l.length 0 x.f0 x.f1 (by omega) rfl
      have hn := rcost_l0 l hl suf (pre ++ [x]) (c + 1 + (if b = true then 1 else 0)) (by simp [h]) (by simp; split <;> omega)
      rw [e2] at hn
      have e : ((c + cost (src l) l.length (x :: suf) : Nat) : Int) = ((c + 1 + (if b = true then 1 else 0) + cost (src l) l.length suf : Nat) : Int) := by
        rw [cost, if_neg c0, ← hb]
        cases b <;> simp <;> omega
      rw [e]
      exact hn
theorem rcost_is (l : List S30) (hl : l.length ≤ 60) : Ev (fun k => ratlineref18_Cost.f k (l.map t35)) ((cost (src l) l.length l : Nat) : Int) := by
  have := rcost_l0 l hl l [] 0 rfl (by simp)
  rw [Nat.zero_add] at this
  exact this
end Go.Proofs.Ytcfomfcalpnbcaa.Mv
