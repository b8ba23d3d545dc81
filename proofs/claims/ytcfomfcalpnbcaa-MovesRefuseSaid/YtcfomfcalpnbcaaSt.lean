/- What moves.Sequence holds between its statements: two maps, the struct of the work, what is written, what is ready; and how each statement turns it. -/
import Derived.Test.YtcfomfcalpnbcaaMapi
namespace Go.Proofs.Ytcfomfcalpnbcaa.PG
open Go.RowKit Go.Proofs.YtcfomfcalpnbcaaW.PrintWords Go.Proofs.YtcfomfcalpnbcaaW.PrintLast Go.Proofs.YtcfomfcalpnbcaaW.PrintMore
set_option linter.unusedVariables false
set_option linter.unusedSimpArgs false
/-- The struct of the moves that are left: both maps and what was written. -/
def WorkAt (w : World) (g bF bN : Nat) (v : Value) : Prop := w.heap[g]? = some (.cells #[.map (some bF), .map (some bN), v] 49 (0, 0))
theorem MapI.obj {w : World} {b : Nat} {m : List (Int × Option Int)} (h : MapI w b m) : ∃ es c, w.heap[b]? = some (.map es c) := by
  obtain ⟨n, D, _, ⟨es, c, h2, _⟩, _⟩ := h
  exact ⟨es, c, h2⟩
theorem MapI.same {w w' : World} {b : Nat} {m : List (Int × Option Int)} (h : MapI w b m) (e : w'.heap[b]? = w.heap[b]?) : MapI w' b m := by
  obtain ⟨n, D, h1, ⟨es, c, h2, h2'⟩, h3⟩ := h
  exact ⟨n, D, h1, ⟨es, c, e.trans h2, h2'⟩, h3⟩
structure St (w0 W : World) (p g bF bN : Nat) (sc : Int) (vO vR : Value) (mF mN : List (Int × Option Int)) (out : List S34) (ready : List Int) : Prop where
  box : W.heap[p]? = some (.cells #[.int .i64 sc] 3 (0, 0))
  wk : WorkAt W g bF bN vO
  hF : MapI W bF mF
  hN : MapI W bN mN
  ne : bF ≠ bN
  hO : Kd.R k34 34 W w0.heap.size (fun _ => True) vO out
  hR : Kd.Q (Kd.int .i64) 3 W w0.heap.size (fun k => k ≠ p) vR ready
  below : Below w0.heap.size w0 W
  bg : w0.heap.size ≤ g
  bbF : w0.heap.size ≤ bF
  bbN : w0.heap.size ≤ bN
variable {w0 W W2 : World} {p g bF bN : Nat} {sc : Int} {vO vR : Value} {mF mN m' : List (Int × Option Int)} {out : List S34} {ready : List Int}
theorem St.alloc (h : St w0 W p g bF bN sc vO vR mF mN out ready) (o : Obj) : St w0 (W.alloc o) p g bF bN sc vO vR mF mN out ready :=
  ⟨blk_alloc h.box o, blk_alloc h.wk o, h.hF.kept (World.grownBy_alloc W o none) (by simp), h.hN.kept (World.grownBy_alloc W o none) (by simp), h.ne, Kd.R_alloc h.hO o, Kd.Q_alloc h.hR o, below_alloc h.below o, h.bg, h.bbF, h.bbN⟩
theorem St.drew (h : St w0 W p g bF bN sc vO vR mF mN out ready) (n : Nat) : St w0 (W.drewN n) p g bF bN sc vO vR mF mN out ready :=
  ⟨blk_drewN h.box n, blk_drewN h.wk n, h.hF.same rfl, h.hN.same rfl, h.ne, Kd.R_drewN h.hO n, Kd.Q_drewN h.hR n, pw_below_drewN h.below n, h.bg, h.bbF, h.bbN⟩
theorem St.drew1 (h : St w0 W p g bF bN sc vO vR mF mN out ready) : St w0 W.drew p g bF bN sc vO vR mF mN out ready :=
  ⟨blk_drew h.box, blk_drew h.wk, h.hF.same rfl, h.hN.same rfl, h.ne, Kd.R_drew h.hO, Kd.Q_drew h.hR, below_drew1 h.below, h.bg, h.bbF, h.bbN⟩
theorem cells_ne_map {w : World} {a b : Nat} {cs : Array Value} {t : TypeId} {es : Array MapEntry} {c : Nat} (h : w.heap[a]? = some (.cells cs t (0, 0))) (k : w.heap[b]? = some (.map es c)) : a ≠ b := by
  rintro rfl
  rw [h] at k
  cases k
theorem St.putF (h : St w0 W p g bF bN sc vO vR mF mN out ready) (hg : W.grownBy W2 (some bF)) (hm : MapI W2 bF m') : St w0 W2 p g bF bN sc vO vR m' mN out ready := by
  obtain ⟨es, c, hb⟩ := h.hF.obj
  refine ⟨blk_grown h.box hg (fun e => cells_ne_map h.box hb (Option.some.inj e)), blk_grown h.wk hg (fun e => cells_ne_map h.wk hb (Option.some.inj e)), hm, h.hN.kept hg (fun e => h.ne (Option.some.inj e).symm), h.ne,
    Kd.R_mono (Kd.R_grown (Kd.R_bound h.hO) hg (fun k hk e => ?_)) (fun _ _ => trivial), Kd.Q_mono (Kd.Q_grown (Kd.Q_bound h.hR) hg (fun k hk e => ?_)) (fun _ hk => hk.1), h.below.grown hg h.below.size (fun j hj => by cases hj; exact h.bbF), h.bg, h.bbF, h.bbN⟩
  · obtain ⟨_, _, _, q, _, cells, hc⟩ := hk
    exact cells_ne_map hc hb (Option.some.inj e)
  · obtain ⟨_, _, _, q, _, cells, hc⟩ := hk
    exact cells_ne_map hc hb (Option.some.inj e)
theorem St.putN (h : St w0 W p g bF bN sc vO vR mF mN out ready) (hg : W.grownBy W2 (some bN)) (hm : MapI W2 bN m') : St w0 W2 p g bF bN sc vO vR mF m' out ready := by
  obtain ⟨es, c, hb⟩ := h.hN.obj
  refine ⟨blk_grown h.box hg (fun e => cells_ne_map h.box hb (Option.some.inj e)), blk_grown h.wk hg (fun e => cells_ne_map h.wk hb (Option.some.inj e)), h.hF.kept hg (fun e => h.ne (Option.some.inj e)), hm, h.ne,
    Kd.R_mono (Kd.R_grown (Kd.R_bound h.hO) hg (fun k hk e => ?_)) (fun _ _ => trivial), Kd.Q_mono (Kd.Q_grown (Kd.Q_bound h.hR) hg (fun k hk e => ?_)) (fun _ hk => hk.1), h.below.grown hg h.below.size (fun j hj => by cases hj; exact h.bbN), h.bg, h.bbF, h.bbN⟩
  · obtain ⟨_, _, _, q, _, cells, hc⟩ := hk
    exact cells_ne_map hc hb (Option.some.inj e)
  · obtain ⟨_, _, _, q, _, cells, hc⟩ := hk
    exact cells_ne_map hc hb (Option.some.inj e)
theorem St.done (h : St w0 W p g bF bN sc vO vR mF mN out ready) {v' : Value} {out' : List S34} (hg : W.grownBy W2 vO.ownBlock) (hO' : Kd.R k34 34 W2 w0.heap.size (fun _ => True) v' out') (hB : Below w0.heap.size w0 W2) : St w0 (W2.setCell ⟨g, 2, none⟩ v') p g bF bN sc v' vR mF mN out' ready := by
  have hty := Kd.R_typed h.hO
  have neP : some p ≠ vO.ownBlock := fun e => by
    obtain ⟨cells, hc⟩ := hty p e.symm
    exact blk_ne hc h.box (by decide) rfl
  have neG : some g ≠ vO.ownBlock := fun e => by
    obtain ⟨cells, hc⟩ := hty g e.symm
    exact blk_ne hc h.wk (by decide) rfl
  have neF : some bF ≠ vO.ownBlock := fun e => by
    obtain ⟨cells, hc⟩ := hty bF e.symm
    obtain ⟨es, c, hb⟩ := h.hF.obj
    exact cells_ne_map hc hb rfl
  have neN : some bN ≠ vO.ownBlock := fun e => by
    obtain ⟨cells, hc⟩ := hty bN e.symm
    obtain ⟨es, c, hb⟩ := h.hN.obj
    exact cells_ne_map hc hb rfl
  have hw2 : W2.heap[g]? = some (.cells #[.map (some bF), .map (some bN), vO] 49 (0, 0)) := blk_grown h.wk hg neG
  have hp2 := blk_grown h.box hg neP
  obtain ⟨esF, cF, hbF⟩ := h.hF.obj
  obtain ⟨esN, cN, hbN⟩ := h.hN.obj
  have pg : p ≠ g := blk_ne h.box h.wk (by decide)
  refine ⟨(Below.heap_setCell W2 ⟨g, 2, none⟩ v' p pg).trans hp2, blk_put hw2 2 v' rfl, (h.hF.kept hg neF).same (Below.heap_setCell W2 ⟨g, 2, none⟩ v' bF (cells_ne_map h.wk hbF).symm), (h.hN.kept hg neN).same (Below.heap_setCell W2 ⟨g, 2, none⟩ v' bN (cells_ne_map h.wk hbN).symm), h.ne,
    Kd.R_set hO' hw2 (by decide) 2 v', Kd.Q_set (Kd.Q_over' h.hR hty (by decide) hg) hw2 (by decide) 2 v', below_set hB h.bg, h.bg, h.bbF, h.bbN⟩
theorem St.push (h : St w0 W p g bF bN sc vO vR mF mN out ready) {v' : Value} {ready' : List Int} (hg : W.grownBy W2 vR.ownBlock) (hR' : Kd.Q (Kd.int .i64) 3 W2 w0.heap.size (fun k => k ≠ p) v' ready') (hB : Below w0.heap.size w0 W2) : St w0 W2 p g bF bN sc vO v' mF mN out ready' := by
  have hty := Kd.Q_typed h.hR
  have neP : some p ≠ vR.ownBlock := Kd.Q_away h.hR (fun k hk => hk)
  have neG : some g ≠ vR.ownBlock := fun e => by
    obtain ⟨cells, hc⟩ := hty g e.symm
    exact blk_ne hc h.wk (by decide) rfl
  have neF : some bF ≠ vR.ownBlock := fun e => by
    obtain ⟨cells, hc⟩ := hty bF e.symm
    obtain ⟨es, c, hb⟩ := h.hF.obj
    exact cells_ne_map hc hb rfl
  have neN : some bN ≠ vR.ownBlock := fun e => by
    obtain ⟨cells, hc⟩ := hty bN e.symm
    obtain ⟨es, c, hb⟩ := h.hN.obj
    exact cells_ne_map hc hb rfl
  exact ⟨blk_grown h.box hg neP, blk_grown h.wk hg neG, h.hF.kept hg neF, h.hN.kept hg neN, h.ne, Kd.R_over' h.hO hty (by decide) hg, hR', hB, h.bg, h.bbF, h.bbN⟩
theorem St.swap (h : St w0 W p g bF bN sc vO vR mF mN out ready) {v' : Value} {ready' : List Int} (hR' : Kd.Q (Kd.int .i64) 3 W w0.heap.size (fun k => k ≠ p) v' ready') : St w0 W p g bF bN sc vO v' mF mN out ready' :=
  ⟨h.box, h.wk, h.hF, h.hN, h.ne, h.hO, hR', h.below, h.bg, h.bbF, h.bbN⟩
end Go.Proofs.Ytcfomfcalpnbcaa.PG
