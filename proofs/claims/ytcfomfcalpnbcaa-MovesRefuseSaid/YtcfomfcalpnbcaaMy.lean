/- Plain law: moves.Sequence makes as many moves as the document's Cost tells; MovesRefuse. -/
import Derived.Test.YtcfomfcalpnbcaaMx
import Derived.Test.YtcfomfcalpnbcaaQRefuse
namespace Go.Proofs.Ytcfomfcalpnbcaa.Mv
open Go.RowKit Go.Proofs.Ytcfomfcalpnbcaa.PG Go.Proofs.YtcfomfcalpnbcaaW.PrintWords Go.Proofs.YtcfomfcalpnbcaaW.PrintLast Go.Proofs.YtcfomfcalpnbcaaW.PrintMore
set_option linter.unusedVariables false
set_option linter.unusedSimpArgs false
set_option linter.unusedSectionVars false

/-- An answer of so many moves from some round on. -/
def EvL (g : Nat → Option (List S34)) (n : Nat) : Prop := ∃ r, Ev g r ∧ r.length = n
theorem EvL.step {g f : Nat → Option (List S34)} {n : Nat} (h : ∀ k, g (k + 1) = f k) (k : EvL f n) : EvL g n := by
  obtain ⟨r, h1, h2⟩ := k
  exact ⟨r, Ev.step h h1, h2⟩
theorem EvL.eq {g : Nat → Option (List S34)} {n m : Nat} (h : EvL g n) (e : n = m) : EvL g m := e ▸ h
theorem mval_less (m : List (Int × Option Int)) (a : Int) : Less (mval m) (mval ((a, none) :: m)) a := by
  intro x
  rw [mval]
  by_cases e : a = x
  · rw [if_pos e, if_pos e.symm]
  · rw [if_neg e, if_neg (fun h => e h.symm)]

/-- The map of what is left, one to one and closed. -/
structure PB (T : List Int) (F : PF) : Prop where
  dom : ∀ t y, F t = some y → t ∈ T
  inj : ∀ a b x, F a = some x → F b = some x → a = b
  cl : ∀ t x, F t = some x → ∃ y, F x = some y
  wf : ∀ t x, F t = some x → (Lit.int .i64 t).wf = true ∧ (Lit.int .i64 x).wf = true

section
variable (l : List S30) (sc : Int) (hl : l.length ≤ 60) (hw : Wf l) (hn : (tos l).Nodup)
include hl hw hn

theorem scan (mF mN : Mp) (out : List S34) (ho : out.length ≤ 400) (n : Nat) (hz : (∀ t ∈ tos l, mval mF t = none) → out.length = n)
    (hc : ∀ c ∈ tos l, ∀ f, mval mF c = some f → EvL (fun k => seq4 k (l.map t34) sc mF mN (out ++ [⟨sc, c⟩]) c c f) n) : ∀ suf pre : List S30, l = pre ++ suf → (∀ t ∈ tos pre, mval mF t = none) → EvL (fun k => seq3 k (l.map t34) sc mF mN out (pre.length : Int)) n
  | [], pre, h, hp => by
    simp at h
    subst h
    exact ⟨out, Ev.step (fun k => by rw [seq3, if_neg (by simp)]) (Ev.now _), hz hp⟩
  | x :: suf, pre, h, hp => by
    have hlen : l.length = pre.length + (suf.length + 1) := by rw [h]; simp
    have hx : rd_T34 (l.map t34) (pre.length : Int) = t34 x := by rw [rd34, h, rd30]
    have hwx := hw x (by rw [h]; simp)
    have hxT : x.f0 ∈ tos l := by rw [h]; simp [tos]
    have e2 : ((pre ++ [x]).length : Int) = ((pre.length + 1 : Nat) : Int) := by simp
    cases hf : mval mF x.f0 with
    | some f =>
      refine EvL.step (fun k => ?_) (hc x.f0 hxT f hf)
      rw [seq3, if_pos (by simp; omega), if_pos (by omega), hx, f34, if_pos (show wf64 x.f0 = true from hwx.1), if_pos (by omega), hf, if_pos (by simp)]
      rfl
    | none =>
      refine EvL.step (fun k => ?_) (scan mF mN out ho n hz hc suf (pre ++ [x]) (by simp [h]) ?_)
      · rw [seq3, if_pos (by simp; omega), if_pos (by omega), hx, f34, if_pos (show wf64 x.f0 = true from hwx.1), if_pos (by omega), hf, if_neg (by simp), w1 (by omega), e2]
      · intro t ht
        simp only [tos, List.map_append, List.map_cons, List.map_nil, List.mem_append, List.mem_singleton] at ht
        rcases ht with ht | ht
        · exact hp t (by simpa [tos] using ht)
        · rw [ht]; exact hf

/-- One circle, begun at c in the map F; what is left is G. -/
theorem circ (F : PF) (hB : PB (tos l) F) (c : Int) (mN : Mp)
    (hk : ∀ (mF : Mp) (out : List S34), PB (tos l) (mval mF) → mu (tos l) (mval mF) < mu (tos l) F → mF.length + mu (tos l) (mval mF) ≤ 200 → out.length + 2 * mu (tos l) (mval mF) ≤ 400 →
      EvL (fun k => seq2 k (l.map t34) sc mF mN [] out) (out.length + mu (tos l) (mval mF) + lam (tos l) (mval mF))) :
    ∀ (n : Nat) (mG : Mp) (out : List S34) (tt fr : Int) (N : Nat), out.length + n + lam (tos l) F = N + 1 → mu (tos l) (mval mG) = n → n ≤ mu (tos l) F → mG.length + n ≤ 200 → out.length + 2 * n ≤ 401 →
      (∀ x, mval mG x = none ∨ mval mG x = F x) → mval mG tt = some fr → (∀ d e, F d = some e → mval mG d = none → mval mG e = none ∨ e = tt) → (mval mG c = none ∨ c = tt) →
      (∀ d e, F d = some e → (mval mG d = none ∨ d = tt) → Reach F c d) → (∀ d e, F d = some e → (mval mG d = none ∨ d = tt) → d ≠ c → ∃ p, F p = some d ∧ mval mG p = none) →
      EvL (fun k => seq4 k (l.map t34) sc mG mN out c tt fr) N := by
  intro n
  induction n with
  | zero =>
    intro mG out tt fr N hN hmu hle hmb hob h1 h2 h3 h4 h5 h6
    have hF : F tt = some fr := by
      rcases h1 tt with e | e
      · rw [e] at h2; cases h2
      · rw [← e]; exact h2
    have := mu_less hn (hB.dom tt fr hF) h2 (mval_less mG tt)
    omega
  | succ n ih =>
    intro mG out tt fr N hN hmu hle hmb hob h1 h2 h3 h4 h5 h6
    have hF : F tt = some fr := by
      rcases h1 tt with e | e
      · rw [e] at h2; cases h2
      · rw [← e]; exact h2
    have hL := mval_less mG tt
    have hmu' := mu_less hn (hB.dom tt fr hF) h2 hL
    have hwt := hB.wf tt fr hF
    have hG' : ∀ x, mval ((tt, none) :: mG) x = none ∨ mval ((tt, none) :: mG) x = F x := by
      intro x
      by_cases e : x = tt
      · left; rw [e]; exact hL.at
      · rw [hL.ne e]; exact h1 x
    have hml : ((tt, none) :: mG : Mp).length = mG.length + 1 := by simp
    by_cases c0 : fr = c
    · -- the circle is closed
      have hcl : ∀ d, Reach F c d → mval ((tt, none) :: mG) d = none := by
        rintro d ⟨j, hj⟩
        induction j generalizing d with
        | zero =>
          simp only [it, Option.some.injEq] at hj
          subst hj
          rcases h4 with e | e
          · by_cases e' : c = tt
            · rw [e']; exact hL.at
            · rw [hL.ne e']; exact e
          · rw [e]; exact hL.at
        | succ j ihj =>
          obtain ⟨d', hd1, hd2⟩ := it_prev hj
          have hd' := ihj d' hd1
          by_cases e : d' = tt
          · subst e
            rw [hF] at hd2
            obtain rfl := Option.some.inj hd2
            rw [c0]
            rcases h4 with e | e
            · by_cases e' : c = d'
              · rw [e']; exact hL.at
              · rw [hL.ne e']; exact e
            · rw [e]; exact hL.at
          · rw [hL.ne e] at hd'
            rcases h3 d' d hd2 hd' with e' | e'
            · by_cases e'' : d = tt
              · rw [e'']; exact hL.at
              · rw [hL.ne e'']; exact e'
            · rw [e']; exact hL.at
      obtain ⟨j, hj⟩ := h5 tt fr hF (.inr rfl)
      have hc : it F (j + 1) c = some c := it_next hj (by rw [hF, c0])
      have hnr : ∀ d, ¬ Reach F c d → mval ((tt, none) :: mG) d = F d := by
        intro d hd
        rcases hG' d with e | e
        · rw [e]
          cases hFd : F d with
          | none => rfl
          | some e' =>
            exfalso
            refine hd (h5 d e' hFd ?_)
            exact hL.none e
        · exact e
      have hlam := lam_circle hn hB.dom hB.inj hc hcl hnr
      have hsub : ∀ t x, mval ((tt, none) :: mG) t = some x → F t = some x ∧ ¬ Reach F c t := by
        intro t x e
        have hnR : ¬ Reach F c t := fun h => by rw [hcl t h] at e; cases e
        exact ⟨by rw [← hnr t hnR]; exact e, hnR⟩
      have hB' : PB (tos l) (mval ((tt, none) :: mG)) := by
        refine ⟨fun t y e => hB.dom t y (hsub t y e).1, fun a b x ha hb => hB.inj a b x (hsub a x ha).1 (hsub b x hb).1, fun t x e => ?_, fun t x e => hB.wf t x (hsub t x e).1⟩
        obtain ⟨e1, e2⟩ := hsub t x e
        obtain ⟨y, hy⟩ := hB.cl t x e1
        refine ⟨y, ?_⟩
        rw [hnr x (fun hr => e2 (reach_pred hc hB.inj e1 hr))]
        exact hy
      refine EvL.step (fun k => ?_) ((hk ((tt, none) :: mG) (out ++ [⟨tt, sc⟩]) hB' (by omega) (by omega) (by simp; omega)).eq ?_)
      · rw [seq4, if_pos (show wf64 tt = true from hwt.1), if_pos (show wf64 fr = true from hwt.2), if_pos (by omega), if_pos (by omega), if_pos c0]
      · simp only [List.length_append, List.length_singleton]
        omega
    · -- on to the next place
      have hfr : ∃ f', F fr = some f' ∧ mval ((tt, none) :: mG) fr = some f' := by
        obtain ⟨f', hf'⟩ := hB.cl tt fr hF
        refine ⟨f', hf', ?_⟩
        rcases hG' fr with e | e
        · exfalso
          obtain ⟨p, hp, hp'⟩ := h6 fr f' hf' (hL.none e) c0
          rw [hB.inj p tt fr hp hF] at hp'
          rw [hp'] at h2
          cases h2
        · rw [e]; exact hf'
      obtain ⟨f', hf', hgf⟩ := hfr
      refine EvL.step (fun k => ?_) (ih ((tt, none) :: mG) (out ++ [⟨tt, fr⟩]) fr f' N (by simp; omega) (by omega) (by omega) (by omega) (by simp; omega) hG' hgf ?_ ?_ ?_ ?_)
      · rw [seq4, if_pos (show wf64 tt = true from hwt.1), if_pos (show wf64 fr = true from hwt.2), if_pos (by omega), if_pos (by omega), if_neg c0, hgf]
        rfl
      · intro d e hd hd'
        rcases hL.none hd' with q | q
        · left
          rcases h3 d e hd q with q' | q'
          · by_cases u : e = tt
            · rw [u]; exact hL.at
            · rw [hL.ne u]; exact q'
          · rw [q']; exact hL.at
        · subst q
          rw [hF] at hd
          exact .inr (Option.some.inj hd).symm
      · left
        rcases h4 with q | q
        · by_cases u : c = tt
          · rw [u]; exact hL.at
          · rw [hL.ne u]; exact q
        · rw [q]; exact hL.at
      · intro d e hd hd'
        rcases hd' with q | q
        · exact h5 d e hd (hL.none q)
        · subst q
          obtain ⟨j, hj⟩ := h5 tt d hF (.inr rfl)
          exact ⟨j + 1, it_next hj hF⟩
      · intro d e hd hd' hdc
        rcases hd' with q | q
        · obtain ⟨p, hp, hp'⟩ := h6 d e hd (hL.none q) hdc
          refine ⟨p, hp, ?_⟩
          by_cases u : p = tt
          · rw [u]; exact hL.at
          · rw [hL.ne u]; exact hp'
        · subst q
          exact ⟨tt, hF, hL.at⟩

theorem circles : ∀ (n : Nat) (mF mN : Mp) (out : List S34), mu (tos l) (mval mF) = n → PB (tos l) (mval mF) → mF.length + n ≤ 200 → out.length + 2 * n ≤ 400 →
    EvL (fun k => seq3 k (l.map t34) sc mF mN out 0) (out.length + n + lam (tos l) (mval mF)) := by
  intro n
  induction n using Nat.strongRecOn with
  | ind n ih =>
    intro mF mN out hmu hB hmb hob
    refine scan l sc hl hw hn mF mN out (by omega) _ (fun hz => ?_) (fun c hc f hf => ?_) l [] rfl (by simp [tos])
    · rw [lam_zero hz, ← hmu, mu_zero hz]
      rfl
    · exact circ l sc hl hw hn (mval mF) hB c mN (fun mF' out' hB' hlt hb1 hb2 => by
          have := ih _ (by omega) mF' mN out' rfl hB' hb1 hb2
          exact EvL.step (fun k => by rw [seq2, if_neg (by simp)]) this) n mF (out ++ [⟨sc, c⟩]) c f (out.length + n + lam (tos l) (mval mF)) (by simp; omega) hmu (by omega) (by omega) (by simp; omega) (fun x => .inr rfl) hf
        (fun d e hd hd' => by rw [hd] at hd'; cases hd') (.inr rfl) (fun d e hd hd' => by
          rcases hd' with q | q
          · rw [hd] at q; cases q
          · subst q; exact ⟨0, rfl⟩) (fun d e hd hd' hdc => by
          rcases hd' with q | q
          · rw [hd] at q; cases q
          · exact absurd q hdc)

/-- What is left, how many need each place, and what nothing waits for. -/
structure PA (T : List Int) (F : PF) (N : Int → Int) (ready : List Int) : Prop where
  dom : ∀ t y, F t = some y → t ∈ T
  wf : ∀ t x, F t = some x → (Lit.int .i64 t).wf = true ∧ (Lit.int .i64 x).wf = true
  cnt : ∀ x, N x = (cnt T F x : Int)
  nd : ready.Nodup
  r1 : ∀ t ∈ ready, (∃ y, F t = some y) ∧ Mv.cnt T F t = 0
  r2 : ∀ t y, F t = some y → Mv.cnt T F t = 0 → t ∈ ready
omit hl hw hn in
theorem cnt_le (T : List Int) (F : PF) (x : Int) : Mv.cnt T F x ≤ T.length := List.countP_le_length

theorem pops : ∀ (n : Nat) (mF mN : Mp) (ready : List Int) (out : List S34), mu (tos l) (mval mF) = n → PA (tos l) (mval mF) (fun x => (mval mN x).getD 0) ready → mF.length + n ≤ 200 → mN.length + n ≤ 200 → out.length + 2 * n ≤ 400 → ready.length ≤ 60 →
    EvL (fun k => seq2 k (l.map t34) sc mF mN ready out) (out.length + n + lam (tos l) (mval mF)) := by
  have hTl : (tos l).length ≤ 60 := by simp [tos, hl]
  intro n
  induction n using Nat.strongRecOn with
  | ind n ih =>
    intro mF mN ready out hmu hA hb1 hb2 hob hrl
    cases hr : ready with
    | nil =>
      subst hr
      obtain ⟨hi, hcl⟩ := closed hn hA.dom (fun t y e h0 => by have := hA.r2 t y e h0; simp at this)
      exact EvL.step (fun k => by rw [seq2, if_neg (by simp)]) (circles l sc hl hw hn n mF mN out hmu ⟨hA.dom, hi, hcl, hA.wf⟩ hb1 hob)
    | cons a rest =>
      subst hr
      obtain ⟨⟨f, hf⟩, h0⟩ := hA.r1 a (by simp)
      have hL := mval_less mF a
      have haT := hA.dom a f hf
      have hmu' := mu_less hn haT hf hL
      have hlam := lam_pop hA.dom h0 hL
      have hwa := hA.wf a f hf
      have hnd := List.nodup_cons.mp hA.nd
      have hfa : f ≠ a := fun e => by subst e; exact cnt_zero h0 haT hf
      have hcf := cnt_less hn haT hf hL f
      rw [if_pos rfl] at hcf
      have hNf : (mval mN f).getD 0 = ((Mv.cnt (tos l) (mval ((a, none) :: mF)) f + 1 : Nat) : Int) := by rw [← hcf]; exact hA.cnt f
      have hle := cnt_le (tos l) (mval ((a, none) :: mF)) f
      have hw1 : wrap64 ((mval mN f).getD 0 - 1) = (Mv.cnt (tos l) (mval ((a, none) :: mF)) f : Int) := by
        rw [hNf]
        unfold wrap64
        omega
      have hr0 : rd (a :: rest) 0 = a := rfl
      have hrl' : rest.length + 1 ≤ 60 := by simpa using hrl
      -- what holds behind the step, whatever is ready
      have hA' : ∀ ready' : List Int, ready'.Nodup → (∀ t ∈ ready', (∃ y, mval ((a, none) :: mF) t = some y) ∧ Mv.cnt (tos l) (mval ((a, none) :: mF)) t = 0) → (∀ t y, mval ((a, none) :: mF) t = some y → Mv.cnt (tos l) (mval ((a, none) :: mF)) t = 0 → t ∈ ready') →
          PA (tos l) (mval ((a, none) :: mF)) (fun x => (mval ((f, some (wrap64 ((mval mN f).getD 0 - 1))) :: mN) x).getD 0) ready' := by
        intro ready' q1 q2 q3
        refine ⟨fun t y e => hA.dom t y (hL.some e).1, fun t x e => hA.wf t x (hL.some e).1, fun x => ?_, q1, q2, q3⟩
        show (mval ((f, some (wrap64 ((mval mN f).getD 0 - 1))) :: mN) x).getD 0 = _
        rw [mval]
        by_cases e : f = x
        · subst e
          rw [if_pos rfl]
          exact hw1
        · rw [if_neg e]
          have hc := cnt_less hn haT hf hL x
          rw [if_neg e] at hc
          rw [Nat.add_zero] at hc
          rw [← hc]
          exact hA.cnt x
      have hrest : ∀ t ∈ rest, t ≠ a ∧ (∃ y, mval ((a, none) :: mF) t = some y) ∧ Mv.cnt (tos l) (mval ((a, none) :: mF)) t = 0 := by
        intro t ht
        obtain ⟨⟨y, hy⟩, h0t⟩ := hA.r1 t (by simp [ht])
        have hta : t ≠ a := fun e => hnd.1 (e ▸ ht)
        refine ⟨hta, ⟨y, by rw [hL.ne hta]; exact hy⟩, ?_⟩
        have hc := cnt_less hn haT hf hL t
        omega
      have hall : ∀ t y, mval ((a, none) :: mF) t = some y → Mv.cnt (tos l) (mval ((a, none) :: mF)) t = 0 → t ∈ rest ∨ t = f := by
        intro t y e h0t
        obtain ⟨e1, e2⟩ := hL.some e
        by_cases u : f = t
        · exact .inr u.symm
        · left
          have hc := cnt_less hn haT hf hL t
          rw [if_neg u, h0t] at hc
          rcases List.mem_cons.mp (hA.r2 t y e1 hc) with q | q
          · exact absurd q e2
          · exact q
      have hfr : f ∉ rest := by
        intro h
        have := (hA.r1 f (by simp [h])).2
        omega
      by_cases c0 : (mval ((a, none) :: mF) f).isSome = true ∧ wrap64 ((mval mN f).getD 0 - 1) = 0
      · have hc0 : Mv.cnt (tos l) (mval ((a, none) :: mF)) f = 0 := by
          have := c0.2
          rw [hw1] at this
          omega
        have hp := hA' (rest ++ [f]) (by
            rw [List.nodup_append]
            refine ⟨hnd.2, by simp, ?_⟩
            intro x hx y hy e
            simp at hy
            exact hfr (by rw [← hy, ← e]; exact hx)) (by
            intro t ht
            rcases List.mem_append.mp ht with q | q
            · exact (hrest t q).2
            · simp at q
              subst q
              exact ⟨Option.isSome_iff_exists.mp c0.1, hc0⟩) (by
            intro t y e h0t
            rcases hall t y e h0t with q | q
            · simp [q]
            · simp [q])
        refine EvL.step (fun k => ?_) ((ih (n - 1) (by omega) ((a, none) :: mF) ((f, some (wrap64 ((mval mN f).getD 0 - 1))) :: mN) (rest ++ [f]) (out ++ [⟨a, f⟩]) (by omega) hp (by simp; omega) (by simp; omega) (by simp; omega) (by simp; omega)).eq ?_)
        · rw [seq2, if_pos (by simp), hr0, if_pos (show wf64 a = true from hwa.1), if_pos (by omega), if_pos (by omega), if_pos (by omega), if_pos (by simp; omega), hf, Option.getD_some, if_pos c0]
          try rfl
        · rw [hlam]
          simp only [List.length_append, List.length_singleton]
          omega
      · have hp := hA' rest hnd.2 (fun t ht => (hrest t ht).2) (by
            intro t y e h0t
            rcases hall t y e h0t with q | q
            · exact q
            · subst q
              refine absurd ⟨by rw [e]; rfl, ?_⟩ c0
              rw [hw1, h0t]
              rfl)
        refine EvL.step (fun k => ?_) ((ih (n - 1) (by omega) ((a, none) :: mF) ((f, some (wrap64 ((mval mN f).getD 0 - 1))) :: mN) rest (out ++ [⟨a, f⟩]) (by omega) hp (by simp; omega) (by simp; omega) (by simp; omega) (by omega)).eq ?_)
        · rw [seq2, if_pos (by simp), hr0, if_pos (show wf64 a = true from hwa.1), if_pos (by omega), if_pos (by omega), if_pos (by omega), if_pos (by simp; omega), hf, Option.getD_some, if_neg c0]
          try rfl
        · rw [hlam]
          simp only [List.length_append, List.length_singleton]
          omega

/-- How many moves of a list need a place. -/
def need (x : Int) : List S30 → Nat
  | [] => 0
  | y :: l => (if y.f0 ≠ y.f1 ∧ y.f1 = x then 1 else 0) + need x l
omit hl hw hn in
theorem need_snoc (x : Int) (y : S30) : ∀ p : List S30, need x (p ++ [y]) = need x p + (if y.f0 ≠ y.f1 ∧ y.f1 = x then 1 else 0)
  | [] => by simp [need]
  | z :: p => by
    simp only [List.cons_append, need]
    rw [need_snoc x y p]
    omega
omit hl hw hn in
theorem need_le (x : Int) : ∀ p : List S30, need x p ≤ p.length
  | [] => Nat.le_refl _
  | z :: p => by
    have := need_le x p
    simp only [need, List.length_cons]
    split <;> omega
omit hl hw hn in
theorem src_at : ∀ {l : List S30}, (tos l).Nodup → ∀ y ∈ l, src l y.f0 = if y.f0 = y.f1 then none else some y.f1
  | [], _, y, hy => by simp at hy
  | z :: l, hn, y, hy => by
    have hn' := List.nodup_cons.mp (show (z.f0 :: tos l).Nodup from hn)
    rw [src]
    rcases List.mem_cons.mp hy with e | e
    · subst e
      by_cases c : y.f0 = y.f1
      · rw [if_pos c, if_neg (fun h => h.2 c.symm)]
        exact src_none _ _ hn'.1
      · rw [if_neg c, if_pos ⟨rfl, fun h => c h.symm⟩]
    · have hz : z.f0 ≠ y.f0 := fun q => hn'.1 (q ▸ List.mem_map.mpr ⟨y, e, rfl⟩)
      rw [if_neg (fun h => hz h.1)]
      exact src_at hn'.2 y e
omit hl hw hn in
theorem need_cnt (F : PF) (x : Int) : ∀ p : List S30, (∀ y ∈ p, F y.f0 = if y.f0 = y.f1 then none else some y.f1) → Mv.cnt (tos p) F x = need x p
  | [], _ => rfl
  | y :: p, h => by
    have ih := need_cnt F x p (fun z hz => h z (by simp [hz]))
    unfold Mv.cnt at ih ⊢
    rw [show tos (y :: p) = y.f0 :: tos p from rfl, List.countP_cons, ih, need, h y (by simp)]
    by_cases c : y.f0 = y.f1
    · simp [c]
    · simp [c]
      omega
omit hl hw hn in
theorem cost_count {T : List Int} (F : PF) (hdom : ∀ t y, F t = some y → t ∈ T) : ∀ p : List S30, (∀ y ∈ p, F y.f0 = if y.f0 = y.f1 then none else some y.f1) → cost F T.length p = mu (tos p) F + lam (tos p) F
  | [], _ => rfl
  | y :: p, h => by
    have ih := cost_count F hdom p (fun z hz => h z (by simp [hz]))
    have hy := h y (by simp)
    rw [cost, ih]
    unfold mu lam
    rw [show tos (y :: p) = y.f0 :: tos p from rfl, List.countP_cons, List.countP_cons, hy]
    by_cases c : y.f0 = y.f1
    · have : ¬ Lead F y.f0 := fun hl => by
        obtain ⟨z, hz⟩ := hl.some
        rw [hy, if_pos c] at hz
        cases hz
      rw [if_pos c, if_pos c, @decide_eq_false _ (Classical.propDecidable _) this]
      simp
    · rw [if_neg c] at hy
      have hb := back_lead hdom hy
      rw [if_neg c, if_neg c]
      by_cases hb' : back F y.f0 T.length y.f0 y.f1 = true
      · rw [if_pos hb', @decide_eq_true _ (Classical.propDecidable _) (hb.mp hb')]
        simp
        omega
      · rw [if_neg hb', @decide_eq_false _ (Classical.propDecidable _) (fun h => hb' (hb.mpr h))]
        simp
        omega

theorem seq1_is (mF mN : Mp) (hF : ∀ t, mval mF t = src l t) (hN : ∀ x, (mval mN x).getD 0 = (need x l : Int)) (hb1 : mF.length ≤ 60) (hb2 : mN.length ≤ 60) : ∀ (suf pre : List S30), l = pre ++ suf →
    EvL (fun k => seq1 k (l.map t34) sc mF mN ((tos pre).filter (fun t => (src l t).isSome && decide (need t l = 0))) (pre.length : Int)) (cost (src l) l.length l)
  | [], pre, h => by
    have hpl : pre = l := by simpa using h.symm
    rw [hpl]
    have hTl : (tos l).length = l.length := by simp [tos]
    have hdom : ∀ t y, src l t = some y → t ∈ tos l := by
      intro t y e
      obtain ⟨x, hx, e1, _⟩ := src_in e
      exact List.mem_map.mpr ⟨x, hx, e1⟩
    have hFe : mval mF = src l := funext hF
    have hat := src_at hn
    have hmle : mu (tos l) (src l) ≤ 60 := by
      have : mu (tos l) (src l) ≤ (tos l).length := List.countP_le_length
      omega
    have hA : PA (tos l) (mval mF) (fun x => (mval mN x).getD 0) ((tos l).filter (fun t => (src l t).isSome && decide (need t l = 0))) := by
      rw [hFe]
      refine ⟨hdom, fun t x e => ?_, fun x => by rw [need_cnt _ x l hat]; exact hN x, List.Nodup.sublist List.filter_sublist hn, fun t ht => ?_, fun t y e h0 => ?_⟩
      · obtain ⟨y, hy, e1, e2, _⟩ := src_in e
        have := hw y hy
        rw [e1, e2] at this
        exact this
      · obtain ⟨_, ht2⟩ := List.mem_filter.mp ht
        rw [Bool.and_eq_true] at ht2
        refine ⟨Option.isSome_iff_exists.mp ht2.1, ?_⟩
        rw [need_cnt _ t l hat]
        exact of_decide_eq_true ht2.2
      · rw [need_cnt _ t l hat] at h0
        rw [List.mem_filter, Bool.and_eq_true]
        exact ⟨hdom t y e, by rw [e]; rfl, decide_eq_true h0⟩
    have hfl : ((tos l).filter (fun t => (src l t).isSome && decide (need t l = 0))).length ≤ 60 := by
      have := List.length_filter_le (fun t => (src l t).isSome && decide (need t l = 0)) (tos l)
      omega
    have hcc := cost_count (T := tos l) (src l) hdom l hat
    rw [hTl] at hcc
    have hp := pops l sc hl hw hn (mu (tos l) (src l)) mF mN _ [] (by rw [hFe]) hA (by omega) (by omega) (by simp; omega) hfl
    rw [hFe] at hp
    refine EvL.step (fun k => ?_) (hp.eq ?_)
    · rw [seq1, if_neg (by simp)]
    · rw [hcc]
      simp
  | x :: suf, pre, h => by
    have hlen : l.length = pre.length + (suf.length + 1) := by rw [h]; simp
    have hx : rd_T34 (l.map t34) (pre.length : Int) = t34 x := by rw [rd34, h, rd30]
    have hwx := hw x (by rw [h]; simp)
    have e2 : ((pre ++ [x]).length : Int) = ((pre.length + 1 : Nat) : Int) := by simp
    have hfl : ((tos pre).filter (fun t => (src l t).isSome && decide (need t l = 0))).length < 1000000 := by
      have := List.length_filter_le (fun t => (src l t).isSome && decide (need t l = 0)) (tos pre)
      simp only [tos, List.length_map] at this ⊢
      omega
    refine EvL.step (fun k => ?_) (seq1_is mF mN hF hN hb1 hb2 suf (pre ++ [x]) (by simp [h]))
    rw [seq1, if_pos (by simp; omega), if_pos (by omega), hx, f34, if_pos (show wf64 x.f0 = true from hwx.1), if_pos hfl, hF, hN, w1 (by omega), e2]
    rw [show tos (pre ++ [x]) = tos pre ++ [x.f0] by simp [tos], List.filter_append]
    by_cases c0 : (src l x.f0).isSome = true
    · rw [if_pos c0]
      by_cases c1 : need x.f0 l = 0
      · rw [if_pos (by omega)]
        simp [c0, c1]
      · rw [if_neg (by omega)]
        simp [c1]
    · rw [if_neg c0]
      simp at c0
      simp [c0]
theorem seq0_is : ∀ (suf pre : List S30) (mF mN : Mp), l = pre ++ suf → (∀ t, mval mF t = src pre t) → (∀ x, (mval mN x).getD 0 = (need x pre : Int)) → mF.length ≤ pre.length → mN.length ≤ pre.length →
    EvL (fun k => seq0 k (l.map t34) sc mF mN (pre.length : Int)) (cost (src l) l.length l)
  | [], pre, mF, mN, h, hF, hN, hb1, hb2 => by
    have hpl : pre = l := by simpa using h.symm
    rw [hpl] at hF hN hb1 hb2 ⊢
    have := seq1_is l sc hl hw hn mF mN hF hN (by omega) (by omega) l [] rfl
    refine EvL.step (fun k => ?_) this
    rw [seq0, if_neg (by simp)]
    rfl
  | x :: suf, pre, mF, mN, h, hF, hN, hb1, hb2 => by
    have hlen : l.length = pre.length + (suf.length + 1) := by rw [h]; simp
    have hx : rd_T34 (l.map t34) (pre.length : Int) = t34 x := by rw [rd34, h, rd30]
    have hwx := hw x (by rw [h]; simp)
    have e2 : ((pre ++ [x]).length : Int) = ((pre.length + 1 : Nat) : Int) := by simp
    have hnx : x.f0 ∉ tos pre := nodup_snoc (h ▸ hn)
    by_cases c0 : x.f0 = x.f1
    · refine EvL.step (fun k => ?_) (seq0_is suf (pre ++ [x]) mF mN (by simp [h]) (fun t => by rw [src_same c0]; exact hF t) (fun y => by rw [need_snoc, if_neg (fun h => h.1 c0)]; exact hN y) (by simp; omega) (by simp; omega))
      rw [seq0, if_pos (by simp; omega), if_pos (by omega), hx, f34, g34, if_pos (show wf64 x.f0 = true from hwx.1), if_pos (show wf64 x.f1 = true from hwx.2), if_pos (by omega), if_pos (by omega), if_pos c0, w1 (by omega), e2]
    · have hnl := need_le x.f1 pre
      refine EvL.step (fun k => ?_) (seq0_is suf (pre ++ [x]) ((x.f0, some x.f1) :: mF) ((x.f1, some (wrap64 ((mval mN x.f1).getD 0 + 1))) :: mN) (by simp [h]) (fun t => mval_snoc hnx hF c0 t) (fun y => ?_) (by simp; omega) (by simp; omega))
      · rw [seq0, if_pos (by simp; omega), if_pos (by omega), hx, f34, g34, if_pos (show wf64 x.f0 = true from hwx.1), if_pos (show wf64 x.f1 = true from hwx.2), if_pos (by omega), if_pos (by omega), if_neg c0, w1 (by omega), e2]
      · rw [need_snoc, mval]
        by_cases e : x.f1 = y
        · rw [if_pos e, if_pos ⟨c0, e⟩, Option.getD_some, hN, w1 (by omega), e]
        · rw [if_neg e, if_neg (fun h => e h.2), hN]
          rfl
end

/-! ### Sequence as a whole -/
def hit (l : List S30) (sc : Int) : Bool := l.any (fun x => decide (x.f0 = sc) || decide (x.f1 = sc))
theorem ix_is (l : List S30) (hl : l.length ≤ 60) (sc : Int) : ∀ suf pre : List S30, l = pre ++ suf → ∃ ix : Int, Ev (fun k => ix_l0 k (l.map t34) sc (pre.length : Int)) ix ∧ (ix ≥ 0 ↔ hit suf sc = true)
  | [], pre, h => by
    simp at h
    subst h
    exact ⟨-1, Ev.step (fun k => by rw [ix_l0, if_neg (by simp)]) (Ev.now _), by simp [hit]⟩
  | x :: suf, pre, h => by
    have hlen : l.length = pre.length + (suf.length + 1) := by rw [h]; simp
    have hx : rd_T34 (l.map t34) (pre.length : Int) = t34 x := by rw [rd34, h, rd30]
    have e2 : ((pre ++ [x]).length : Int) = ((pre.length + 1 : Nat) : Int) := by simp
    have hh : hitM (t34 x) sc = (decide (x.f0 = sc) || decide (x.f1 = sc)) := rfl
    by_cases c0 : hitM (t34 x) sc = true
    · refine ⟨(pre.length : Int), Ev.step (fun k => by rw [ix_l0, if_pos (by simp; omega), if_pos (by omega), hx, if_pos c0]) (Ev.now _), ?_⟩
      rw [hh] at c0
      simp only [hit, List.any_cons, c0, Bool.true_or]
      simp
    · obtain ⟨ix, h1, h2⟩ := ix_is l hl sc suf (pre ++ [x]) (by simp [h])
      refine ⟨ix, Ev.step (fun k => by rw [ix_l0, if_pos (by simp; omega), if_pos (by omega), hx, if_neg c0, w1 (by omega), ← e2]) h1, ?_⟩
      rw [h2]
      rw [hh, Bool.not_eq_true] at c0
      simp only [hit, List.any_cons, c0, Bool.false_or]
theorem sequence_is (l : List S30) (hl : l.length ≤ 60) (hw : Wf l) (sc : Int) : EvL (fun k => moves_Sequence.f k (l.map t34) sc) (if may l = true ∧ hit l sc = false then cost (src l) l.length l else 0) := by
  by_cases c0 : may l = true
  · obtain ⟨ix, h1', h2⟩ := ix_is l hl sc l [] rfl
    have h1 : Ev (fun k => ix_l0 k (l.map t34) sc 0) ix := h1'
    clear h1'
    by_cases c1 : hit l sc = true
    · rw [if_neg (fun h => by rw [c1] at h; simp at h)]
      refine ⟨[], Ev.congr (fun k => rfl) (Ev.bind (may_is l hl hw) (Ev.congr (fun k => by rw [if_pos c0]) (Ev.bind h1 (Ev.congr (fun k => by rw [if_pos (h2.mpr c1)]) (Ev.now _))))), rfl⟩
    · rw [if_pos ⟨c0, by simpa using c1⟩]
      obtain ⟨r, hr', hlr⟩ := seq0_is l sc hl hw (of_decide_eq_true c0) l [] [] [] rfl (fun t => rfl) (fun x => rfl) (by simp) (by simp)
      have hr : Ev (fun k => seq0 k (l.map t34) sc [] [] 0) r := hr'
      clear hr'
      exact ⟨r, Ev.congr (fun k => rfl) (Ev.bind (may_is l hl hw) (Ev.congr (fun k => by rw [if_pos c0]) (Ev.bind h1 (Ev.congr (fun k => by rw [if_neg (fun h => c1 (h2.mp h))]) hr)))), hlr⟩
  · rw [if_neg (fun h => c0 h.1)]
    exact ⟨[], Ev.congr (fun k => rfl) (Ev.bind (may_is l hl hw) (Ev.congr (fun k => by rw [if_neg c0]) (Ev.now _))), rfl⟩

/-! ### MovesRefuse -/
theorem refuse_l0 (l : List S30) (hl : l.length ≤ 60) (hw : Wf l) (sc : Int) : ∀ (suf pre : List S30) (b : Bool), l = pre ++ suf → b = (!may l || hit pre sc) → Ev (fun k => ratlinelaw19_MovesRefuse.l0 k l sc (l.map t34) (l.map t35) b (pre.length : Int)) true
  | [], pre, b, h, hb => by
    have hpl : pre = l := by simpa using h.symm
    rw [hpl] at hb ⊢
    obtain ⟨r, hr, hlr⟩ := sequence_is l hl hw sc
    refine Ev.step (fun k => by rw [ratlinelaw19_MovesRefuse.l0, if_neg (by simp)]) (Ev.bind hr ?_)
    by_cases c0 : b = true
    · have : ¬ (may l = true ∧ hit l sc = false) := by
        rintro ⟨h1, h2⟩
        rw [hb, h1, h2] at c0
        simp at c0
      rw [if_neg this] at hlr
      refine Ev.congr (fun k => by rw [if_pos c0, if_pos (by omega)]) (Ev.bind awakeIs (Ev.now _))
    · have hm : may l = true ∧ hit l sc = false := by
        rw [hb] at c0
        simpa using c0
      rw [if_pos hm] at hlr
      refine Ev.congr (fun k => by rw [if_neg c0]) (Ev.bind (rcost_is l hl) ?_)
      refine Ev.congr (fun k => by rw [if_pos (by omega)]) (Ev.bind awakeIs (Ev.now _))
  | x :: suf, pre, b, h, hb => by
    have hlen : l.length = pre.length + (suf.length + 1) := by rw [h]; simp
    have hx : rd_T30 l (pre.length : Int) = x := by rw [h, rd30]
    have e2 : ((pre ++ [x]).length : Int) = ((pre.length + 1 : Nat) : Int) := by simp
    have hs : hit (pre ++ [x]) sc = (hit pre sc || (decide (x.f0 = sc) || decide (x.f1 = sc))) := by simp [hit]
    by_cases c0 : b = true
    · refine Ev.step (fun k => by rw [ratlinelaw19_MovesRefuse.l0, if_pos (by omega), if_pos c0, w1 (by omega), ← e2]) (refuse_l0 l hl hw sc suf (pre ++ [x]) true (by simp [h]) ?_)
      rw [hs, ← Bool.or_assoc, ← hb, c0]
      rfl
    · have hbf : (!may l || hit pre sc) = false := by rw [← hb]; simpa using c0
      by_cases c1 : x.f0 = sc
      · refine Ev.step (fun k => by rw [ratlinelaw19_MovesRefuse.l0, if_pos (by omega), if_neg c0, if_pos (by omega), hx, if_pos c1, w1 (by omega), ← e2]) (refuse_l0 l hl hw sc suf (pre ++ [x]) true (by simp [h]) ?_)
        rw [hs, ← Bool.or_assoc, hbf]
        simp [c1]
      · refine Ev.step (fun k => by rw [ratlinelaw19_MovesRefuse.l0, if_pos (by omega), if_neg c0, if_pos (by omega), hx, if_neg c1, w1 (by omega), ← e2]) (refuse_l0 l hl hw sc suf (pre ++ [x]) (x.f1 == sc) (by simp [h]) ?_)
        rw [hs, ← Bool.or_assoc, hbf]
        simp [c1]
        rfl
theorem refuse (l : List S30) (hw : Wf l) (sc : Int) : Ev (fun k => ratlinelaw19_MovesRefuse.f k l sc) true := by
  by_cases c0 : l.length ≤ 60
  · refine Ev.congr (fun k => by rw [ratlinelaw19_MovesRefuse.f, if_neg (by omega)]) ?_
    refine Ev.bind (rows l c0) (Ev.bind (rmay_is l c0) ?_)
    exact refuse_l0 l c0 hw sc l [] _ rfl (by simp [hit])
  · exact Ev.congr (fun k => by rw [ratlinelaw19_MovesRefuse.f, if_pos (by omega)]) (Ev.bind awakeIs (Ev.now _))
end Go.Proofs.Ytcfomfcalpnbcaa.Mv
