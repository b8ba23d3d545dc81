/- Plain law: moves.Cost costs what the document's own does; MovesTell. -/
import Derived.Test.YtcfomfcalpnbcaaMt
namespace Go.Proofs.Ytcfomfcalpnbcaa.Mv
open Go.RowKit Go.Proofs.Ytcfomfcalpnbcaa.PG Go.Proofs.YtcfomfcalpnbcaaW.PrintWords Go.Proofs.YtcfomfcalpnbcaaW.PrintLast Go.Proofs.YtcfomfcalpnbcaaW.PrintMore
set_option linter.unusedVariables false
set_option linter.unusedSimpArgs false

theorem src_snoc (x : S30) (t : Int) : ∀ pre : List S30, src (pre ++ [x]) t = (src pre t).or (if x.f0 = t ∧ x.f1 ≠ t then some x.f1 else none)
  | [] => by simp [src]
  | y :: pre => by
    simp only [List.cons_append, src]
    split
    · rfl
    · exact src_snoc x t pre
theorem src_none (t : Int) : ∀ pre : List S30, t ∉ tos pre → src pre t = none
  | [], _ => rfl
  | y :: pre, h => by
    simp [tos] at h
    rw [src, if_neg (fun e => h.1 e.1.symm)]
    exact src_none t pre (by simpa [tos] using h.2)
theorem src_in {t s : Int} : ∀ {l : List S30}, src l t = some s → ∃ x ∈ l, x.f0 = t ∧ x.f1 = s ∧ x.f1 ≠ t
  | [], h => by simp [src] at h
  | y :: l, h => by
    rw [src] at h
    split at h
    · rename_i hc
      exact ⟨y, by simp, hc.1, by simpa using h, hc.2⟩
    · obtain ⟨x, hx, hr⟩ := src_in h
      exact ⟨x, by simp [hx], hr⟩
theorem nodup_snoc {pre suf : List S30} {x : S30} (h : (tos (pre ++ x :: suf)).Nodup) : x.f0 ∉ tos pre := by
  simp only [tos, List.map_append, List.map_cons] at h
  intro hc
  rw [List.nodup_append] at h
  exact h.2.2 _ hc _ (by simp) rfl
/-- One move more on the map. -/
theorem mval_snoc {pre : List S30} {x : S30} {m : List (Int × Option Int)} (hn : x.f0 ∉ tos pre) (hm : ∀ t, mval m t = src pre t) (hx : x.f0 ≠ x.f1) (t : Int) : mval ((x.f0, some x.f1) :: m) t = src (pre ++ [x]) t := by
  rw [src_snoc, mval]
  by_cases c : x.f0 = t
  · subst c
    rw [if_pos rfl, src_none _ _ hn, if_pos ⟨rfl, fun e => hx e.symm⟩]
    rfl
  · rw [if_neg c, hm, if_neg (fun h => c h.1)]
    cases src pre t <;> rfl
theorem src_same {pre : List S30} {x : S30} (hx : x.f0 = x.f1) (t : Int) : src (pre ++ [x]) t = src pre t := by
  rw [src_snoc, if_neg]
  · cases src pre t <;> rfl
  · rintro ⟨h1, h2⟩
    exact h2 (hx ▸ h1)

theorem cost_l0 (l : List S30) (hl : l.length ≤ 60) (hw : Wf l) (hn : (tos l).Nodup) (r : Int) (hk : ∀ m, (∀ t, mval m t = src l t) → Ev (fun k => moves_Cost.l1 k (l.map t34) m 0 0) r) : ∀ (suf pre : List S30) (m : List (Int × Option Int)), l = pre ++ suf → m.length ≤ pre.length → (∀ t, mval m t = src pre t) →
    Ev (fun k => moves_Cost.l0 k (l.map t34) m (pre.length : Int)) r
  | [], pre, m, h, hml, hm => by
    simp at h
    subst h
    refine Ev.step (fun k => ?_) (hk m hm)
    rw [moves_Cost.l0, if_neg (by simp)]
  | x :: suf, pre, m, h, hml, hm => by
    have hlen : l.length = pre.length + (suf.length + 1) := by rw [h]; simp
    have hx : rd_T30 l (pre.length : Int) = x := by rw [h]; exact rd30 _ _ _
    have hwx := hw x (by rw [h]; simp)
    have e2 : ((pre ++ [x]).length : Int) = ((pre.length + 1 : Nat) : Int) := by simp
    have hnx : x.f0 ∉ tos pre := nodup_snoc (h ▸ hn)
    by_cases c0 : x.f0 = x.f1
    · refine Ev.step (fun k => ?_) (cost_l0 l hl hw hn r hk suf (pre ++ [x]) m (by simp [h]) (by simp; omega) (fun t => by rw [src_same c0]; exact hm t))
      rw [moves_Cost.l0, if_pos (by simp; omega), if_pos (by omega), rd34, hx, f34, g34, if_pos hwx.1, if_pos hwx.2, if_pos (by omega), if_pos c0, w1 (by omega), e2]
    · refine Ev.step (fun k => ?_) (cost_l0 l hl hw hn r hk suf (pre ++ [x]) ((x.f0, some x.f1) :: m) (by simp [h]) (by simp; omega) (fun t => mval_snoc hnx hm c0 t))
      rw [moves_Cost.l0, if_pos (by simp; omega), if_pos (by omega), rd34, hx, f34, g34, if_pos hwx.1, if_pos hwx.2, if_pos (by omega), if_neg c0, w1 (by omega), e2]
theorem mn_le {a b : Int} (h : a ≤ b) : mn a b = a := by
  unfold mn
  rw [if_neg (by omega)]
theorem mn_bound {a b c : Int} (h : a ≤ c) : mn a b ≤ c := by
  unfold mn
  split <;> omega
theorem cost_walk (l : List S30) (hl : l.length ≤ 60) (hw : Wf l) (ma : List (Int × Option Int)) (hm : ∀ t, mval ma t = src l t) (x : S30) (suf pre : List S30) (h : l = pre ++ x :: suf) (c : Nat) (hc : c ≤ 200) (r : Int)
    (hk : ∀ b : Bool, b = back (src l) x.f0 l.length x.f0 x.f1 → Ev (fun k => moves_Cost.l1 k (l.map t34) ma ((c + (if b = true then 1 else 0) : Nat) : Int) ((pre.length + 1 : Nat) : Int)) r) :
    ∀ (m j : Nat) (least at_ : Int), j + m = l.length → least ≤ x.f0 → (Lit.int .i64 at_).wf = true → back (src l) x.f0 m least at_ = back (src l) x.f0 l.length x.f0 x.f1 → Ev (fun k => moves_Cost.l2 k (l.map t34) ma (c : Int) (pre.length : Int) least at_ (j : Int)) r := by
  have hlen : l.length = pre.length + (suf.length + 1) := by rw [h]; simp
  have hx : rd_T34 (l.map t34) (pre.length : Int) = t34 x := by rw [rd34, h, rd30]
  intro m
  induction m with
  | zero =>
    intro j least at_ hj hle hwa hb
    refine Ev.step (fun k => ?_) (hk _ rfl)
    rw [← hb, moves_Cost.l2, if_neg (by simp; omega), hx, f34]
    by_cases c0 : at_ = x.f0
    · rw [if_pos c0]
      by_cases c1 : least = x.f0
      · rw [if_pos c1, w1 (by omega), w1 (by omega)]
        simp [back, c0, c1]
      · rw [if_neg c1, w1 (by omega)]
        simp [back, c0, c1]
    · rw [if_neg c0, w1 (by omega)]
      simp [back, c0]
  | succ m ih =>
    intro j least at_ hj hle hwa hb
    by_cases c0 : at_ = x.f0
    · refine Ev.step (fun k => ?_) (hk _ rfl)
      rw [← hb, moves_Cost.l2, if_pos (by simp; omega), hx, f34, if_pos c0, c0, mn_le hle]
      by_cases c1 : least = x.f0
      · rw [if_pos c1, w1 (by omega), w1 (by omega)]
        simp [back, c1]
      · rw [if_neg c1, w1 (by omega)]
        simp [back, c1]
    · cases hs : src l at_ with
      | some s =>
        have hb' : back (src l) x.f0 m (mn least at_) s = back (src l) x.f0 l.length x.f0 x.f1 := by
          rw [← hb]
          simp [back, c0, hs]
        obtain ⟨y, hy, _, rfl, _⟩ := src_in hs
        refine Ev.step (fun k => ?_) (ih (j + 1) (mn least at_) y.f1 (by omega) (mn_bound hle) (hw y hy).2 hb')
        rw [moves_Cost.l2, if_pos (by simp; omega), hx, f34, if_neg c0, if_pos hwa, hm, hs, if_pos (by simp), w1 (by omega)]
        rfl
      | none =>
        have hb' : false = back (src l) x.f0 l.length x.f0 x.f1 := by
          rw [← hb]
          simp [back, c0, hs]
        refine Ev.step (fun k => ?_) (hk false hb')
        rw [moves_Cost.l2, if_pos (by simp; omega), hx, f34, if_neg c0, if_pos hwa, hm, hs, if_neg (by simp), w1 (by omega)]
        simp
theorem cost_l1 (l : List S30) (hl : l.length ≤ 60) (hw : Wf l) (ma : List (Int × Option Int)) (hm : ∀ t, mval ma t = src l t) : ∀ (suf pre : List S30) (c : Nat), l = pre ++ suf → c ≤ 2 * pre.length → Ev (fun k => moves_Cost.l1 k (l.map t34) ma (c : Int) (pre.length : Int)) ((c + cost (src l) l.length suf : Nat) : Int)
  | [], pre, c, h, hc => by
    refine Ev.step (fun k => ?_) (Ev.now _)
    simp at h
    subst h
    rw [moves_Cost.l1, if_neg (by simp)]
    rfl
  | x :: suf, pre, c, h, hc => by
    have hlen : l.length = pre.length + (suf.length + 1) := by rw [h]; simp
    have hx : rd_T34 (l.map t34) (pre.length : Int) = t34 x := by rw [rd34, h, rd30]
    have hwx := hw x (by rw [h]; simp)
    have e2 : ((pre ++ [x]).length : Int) = ((pre.length + 1 : Nat) : Int) := by simp
    by_cases c0 : x.f0 = x.f1
    · have hn := cost_l1 l hl hw ma hm suf (pre ++ [x]) c (by simp [h]) (by simp; omega)
      rw [show cost (src l) l.length (x :: suf) = cost (src l) l.length suf by simp [cost, c0]]
      refine Ev.step (fun k => ?_) hn
      rw [moves_Cost.l1, if_pos (by simp; omega), if_pos (by omega), hx, f34, g34, if_pos c0, w1 (by omega), e2]
    · refine Ev.step (fun k => by rw [moves_Cost.l1, if_pos (by simp; omega), if_pos (by omega), hx, f34, g34, if_neg c0, w1 (by omega)]) ?_
      refine cost_walk l hl hw ma hm x suf pre h (c + 1) (by omega) _ (fun b hb => ?_) l.length 0 x.f0 x.f1 (by omega) (Int.le_refl _) hwx.2 rfl
      have hn := cost_l1 l hl hw ma hm suf (pre ++ [x]) (c + 1 + (if b = true then 1 else 0)) (by simp [h]) (by simp; split <;> omega)
      rw [e2] at hn
      have e : ((c + cost (src l) l.length (x :: suf) : Nat) : Int) = ((c + 1 + (if b = true then 1 else 0) + cost (src l) l.length suf : Nat) : Int) := by
        rw [cost, if_neg c0, ← hb]
        cases b <;> simp <;> omega
      rw [e]
      exact hn
theorem cost_is (l : List S30) (hl : l.length ≤ 60) (hw : Wf l) (hn : (tos l).Nodup) : Ev (fun k => moves_Cost.f k (l.map t34)) ((cost (src l) l.length l : Nat) : Int) := by
  refine cost_l0 l hl hw hn _ (fun m hm => ?_) l [] [] rfl (by simp) (fun t => rfl)
  have := cost_l1 l hl hw m hm l [] 0 rfl (by simp)
  rw [Nat.zero_add] at this
  exact this

theorem awakeIs : Ev (fun k => ratlinelaw19_awake.f k) true :=
  Ev.of (g := fun k => ratlinelaw19_awake.f k) (fun k => ratlinelaw19_awake.mono k) (k := 100) (by decide +kernel)

theorem tell (l : List S30) (hw : Wf l) (at_ : List Int) : Ev (fun k => ratlinelaw19_MovesTell.f k l at_) true := by
  have aw : ∀ b : Bool, b = true → Ev (fun k => ratlinelaw19_MovesTell.j0 k l at_ b) true := by
    intro b hb
    subst hb
    exact Ev.step (fun k => by rw [ratlinelaw19_MovesTell.j0, if_pos rfl]) (Ev.bind awakeIs (Ev.now _))
  by_cases c0 : l.length ≤ 60
  · by_cases c1 : at_.length ≤ 60
    · refine Ev.congr (f := fun k => ratlinelaw19_MovesTell.j0 k l at_ false) (fun k => ?_) ?_
      · rw [ratlinelaw19_MovesTell.f, if_neg (by omega), decide_eq_false (by omega)]
      · refine Ev.step (fun k => by rw [ratlinelaw19_MovesTell.j0, if_neg (by simp)]) ?_
        refine Ev.bind (rows l c0) ?_
        refine Ev.bind (may_is l c0 hw) ?_
        refine Ev.bind (rmay_is l c0) ?_
        refine Ev.congr (fun k => by rw [if_neg (by simp)]) ?_
        refine Ev.bind (do_is l c0 at_ c1) ?_
        refine Ev.bind (rdo_is l c0 at_ c1) ?_
        refine Ev.bind (same _ (by rw [dall_length]; omega)) ?_
        refine Ev.step (fun k => by rw [ratlinelaw19_MovesTell.j1, if_neg (by simp)]) ?_
        refine Ev.bind (rmay_is l c0) ?_
        by_cases c2 : may l = true
        · refine Ev.congr (fun k => by rw [if_pos c2]) ?_
          refine Ev.bind (cost_is l c0 hw (of_decide_eq_true c2)) ?_
          refine Ev.bind (rcost_is l c0) ?_
          refine Ev.congr (fun k => by rw [if_pos rfl]) ?_
          exact Ev.bind awakeIs (Ev.now _)
        · refine Ev.congr (fun k => by rw [if_neg c2]) ?_
          exact Ev.bind awakeIs (Ev.now _)
    · refine Ev.congr (fun k => ?_) (aw true rfl)
      rw [ratlinelaw19_MovesTell.f, if_neg (by omega), decide_eq_true (by omega)]
  · refine Ev.congr (fun k => ?_) (aw true rfl)
    rw [ratlinelaw19_MovesTell.f, if_pos (by omega)]
end Go.Proofs.Ytcfomfcalpnbcaa.Mv
