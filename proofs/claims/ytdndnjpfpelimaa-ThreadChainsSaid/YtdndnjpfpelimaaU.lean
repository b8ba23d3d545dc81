/- Words for the hand texts: worlds told by what stands in them. -/
import Derived.Test.YtdndnjpfpelimaaPGx0
namespace Go.Proofs.Ytdndnjpfpelimaa.PG
open Go.RowKit Go.Proofs.YtdndnjpfpelimaaW.PrintWords Go.Proofs.YtdndnjpfpelimaaW.PrintLast Go.Proofs.YtdndnjpfpelimaaW.PrintMore
set_option linter.unusedVariables false
set_option linter.unusedSimpArgs false
theorem run_store_complex {P : Program} {w : World} {a : Addr} {m : Mode} (k : FloatKind) (x y : Nat) : (store a (.complex k x y) m).run P w = stored P w a (.complex k x y) m := run_store P w a _ m rfl
theorem new1 (w : World) (a : Obj) : (w.alloc a).heap[w.heap.size]? = some a := heap_alloc_new w a
theorem new2 (w : World) (a b : Obj) : ((w.alloc a).alloc b).heap[w.heap.size + 1]? = some b := by
  have := heap_alloc_new (w.alloc a) b
  rwa [World.size_alloc] at this
theorem new3 (w : World) (a b c : Obj) : (((w.alloc a).alloc b).alloc c).heap[w.heap.size + 2]? = some c := by
  have := heap_alloc_new ((w.alloc a).alloc b) c
  rwa [World.size_alloc, World.size_alloc] at this
theorem new12 (w : World) (a b : Obj) : ((w.alloc a).alloc b).heap[w.heap.size]? = some a := blk_alloc (new1 w a) b
theorem take_len_le {α : Type} (l : List α) (n : Nat) : (l.take n).length ≤ l.length := by simp [List.length_take]; omega
theorem wrapS {j : Int} {n : Nat} (h0 : 0 ≤ j) (h1 : j < n) (h2 : n < 1000000) : wrap64 (j + 1) = j + 1 := by unfold wrap64; omega
theorem bcell {W w1 : World} (hb : Below W.heap.size W w1) : (∀ b o, b < W.heap.size → w1.cell? ⟨b, o, none⟩ = W.cell? ⟨b, o, none⟩) ∧ (∀ b o, b < W.heap.size → w1.frozen? ⟨b, o, none⟩ = W.frozen? ⟨b, o, none⟩) :=
  ⟨fun b o h => hb.cell (p := ⟨b, o, none⟩) h, fun b o h => hb.frozen (p := ⟨b, o, none⟩) h⟩
theorem rebase {P : World → Prop} {W : World} (F : World → Prop) (hF : F W) (h : ∀ w, F w → P w) : P W := h W hF
theorem info_parts {P : Program} {t : TypeId} {z : Value} {size bytes : Nat} (hinfo : (P.info? t).map (fun i => (i.zero, i.size, i.bytes)) = some (some z, size, bytes)) : ∃ i, P.info? t = some i ∧ i.zero = some z ∧ i.size = size ∧ i.bytes = bytes := by
  obtain ⟨i0, hi, hzz⟩ := Option.map_eq_some_iff.1 hinfo
  simp only [Prod.mk.injEq] at hzz
  exact ⟨i0, hi, hzz.1, hzz.2.1, hzz.2.2⟩
theorem clip_to {P : Program} (t e : TypeId) (kh km : IntKind) {i : TypeInfo} (ht : P.underlying t = some (.slice e)) (hi : P.info? e = some i) (A : Option Addr) (n c : Nat) (hc : n ≤ c) :
    ∀ W : World, (Instr.slice t (.slice A n c) none (some (.int kh (n : Int))) (some (.int km (n : Int)))).run P W = .ok (.slice A n n) W := by
  intro W
  have hel : P.elem t = e := by simp [Program.elem, ht]
  have hu : P.underlying t = some (.slice (P.elem t)) := by rw [hel]; exact ht
  have ha : (A.map fun x => x.add 0) = A := by cases A <;> simp [Addr.add]
  rw [run_slice_hm W t A n c hu kh km (n : Int) (n : Int) (by omega) (by omega) (by omega), hel]
  simp [sizeOf, typeInfo, hi, sliced, Result.andThen, ha]
/-- One block was written anew; all else stays. -/
structure Upd (W W1 : World) (g : Nat) (cs : Array Value) (t : TypeId) : Prop where
  blk : W1.heap[g]? = some (.cells cs t (0, 0))
  size : W1.heap.size = W.heap.size
  far : ∀ k, k ≠ g → W1.heap[k]? = W.heap[k]?
  below : ∀ {B : Nat} {w0 : World}, Below B w0 W → B ≤ g → Below B w0 W1
theorem setRow_upd {W : World} {g : Nat} {old cs : Array Value} {t : TypeId} (hg : W.heap[g]? = some (.cells old t (0, 0))) : Upd W (W.setRow g cs) g cs t where
  blk := by simp [World.setRow, Array.getElem?_modify, hg]
  size := by simp [World.setRow]
  far := fun k hk => by simp [World.setRow, Array.getElem?_modify, Ne.symm hk]
  below := fun h hB => below_setRow_of h hB cs
where below_setRow_of {B g : Nat} {w0 w : World} (hb : Below B w0 w) (hBg : B ≤ g) (cs : Array Value) : Below B w0 (w.setRow g cs) :=
  ⟨hb.os, hb.tape, hb.output, by simpa [World.setRow] using hb.size, fun k hk => by
    have : g ≠ k := by omega
    simpa [World.setRow, Array.getElem?_modify, this] using hb.block k hk⟩
theorem setCell_upd {W : World} {g i : Nat} {old cs : Array Value} {t : TypeId} {u : Value} (hg : W.heap[g]? = some (.cells old t (0, 0))) (e : old.setIfInBounds i u = cs) : Upd W (W.setCell ⟨g, i, none⟩ u) g cs t where
  blk := blk_put hg i u e
  size := by simp [World.setCell]
  far := fun k hk => Below.heap_setCell W ⟨g, i, none⟩ u k hk
  below := fun h hB => h.setCell hB _
theorem Upd.trans {W W1 W2 : World} {g : Nat} {cs cs' : Array Value} {t t' : TypeId} (h : Upd W W1 g cs t) (k : Upd W1 W2 g cs' t') : Upd W W2 g cs' t' where
  blk := k.blk
  size := k.size.trans h.size
  far := fun j hj => (k.far j hj).trans (h.far j hj)
  below := fun hb hB => k.below (h.below hb hB) hB
theorem Upd.other {W W1 : World} {g j : Nat} {cs : Array Value} {t : TypeId} {o : Obj} (h : Upd W W1 g cs t) (hj : W.heap[j]? = some o) (hne : j ≠ g) : W1.heap[j]? = some o := (h.far j hne).trans hj
theorem Upd.keep {W W1 : World} {g : Nat} {cs : Array Value} {t : TypeId} (h : Upd W W1 g cs t) : KeepBut W W1 g none := ⟨Nat.le_of_eq h.size.symm, fun i _ hi _ => h.far i hi⟩
theorem Upd.refl {W : World} {g : Nat} {cs : Array Value} {t : TypeId} (hg : W.heap[g]? = some (.cells cs t (0, 0))) : Upd W W g cs t := ⟨hg, rfl, fun _ _ => rfl, fun h _ => h⟩
/-- Cells one behind the other, written from a place on. -/
def putSeg (old : Array Value) : Nat → List Value → Array Value
  | _, [] => old
  | o, v :: r => putSeg (old.setIfInBounds o v) (o + 1) r
theorem putSeg_size : ∀ (seg : List Value) (old : Array Value) (o : Nat), (putSeg old o seg).size = old.size
  | [], _, _ => rfl
  | v :: r, old, o => by rw [putSeg, putSeg_size r]; simp
theorem putSeg_at : ∀ (seg : List Value) (old : Array Value) (o : Nat), o + seg.length ≤ old.size → ∀ i, (putSeg old o seg)[i]? = if o ≤ i ∧ i < o + seg.length then seg[i - o]? else old[i]?
  | [], old, o, _, i => by
    rw [if_neg (by simp)]
    rfl
  | v :: r, old, o, h, i => by
    have h' : o + 1 + r.length ≤ (old.setIfInBounds o v).size := by simp at h ⊢; omega
    rw [putSeg, putSeg_at r _ _ h' i]
    simp only [List.length_cons] at h ⊢
    by_cases h1 : o + 1 ≤ i ∧ i < o + 1 + r.length
    · rw [if_pos h1, if_pos (by omega), show i - o = (i - (o + 1)) + 1 by omega, List.getElem?_cons_succ]
    · rw [if_neg h1]
      by_cases h2 : i = o
      · subst h2
        rw [if_pos (by omega), Nat.sub_self, List.getElem?_cons_zero, Array.getElem?_setIfInBounds_self_of_lt (by omega)]
      · rw [if_neg (by omega), Array.getElem?_setIfInBounds_ne (by omega)]
theorem setCells_upd {g : Nat} {t : TypeId} : ∀ (seg : List Value) (W : World) (old : Array Value) (o : Nat), W.heap[g]? = some (.cells old t (0, 0)) → Upd W (W.setCells g o seg) g (putSeg old o seg) t
  | [], W, old, o, h => Upd.refl h
  | v :: r, W, old, o, h => (setCell_upd h rfl).trans (setCells_upd r _ _ (o + 1) (blk_set h o v))
section
variable {P : Program} {ops : Array Oper} {rest : List Oper} {o : Oper} {a : Act} {Q : Exit → Act → World → Prop}
/-- A value stored into a part of a block. -/
theorem wpList_seg {W : World} (hgd : o.guard = none) (ty : TypeId) (p : Tmp) (y : Operand) (ho : o.op = .store ty (.tmp p) y) (hd : o.dst = none)
    (g i : Nat) (v : Value) (seg : List Value) (hx : a.eval (.tmp p) = .pointer (some ⟨g, i, none⟩)) (hy : a.eval y = v) (hv : v.cells.toList = seg)
    (t : TypeId) (old : Array Value) (hg : W.heap[g]? = some (.cells old t (0, 0))) (hi : (P.info? ty).map (·.size) = some seg.length)
    (hfit : i + seg.length ≤ old.size) (h1 : seg.all (·.oneCell') = true)
    (h : ∀ W1, Upd W W1 g (putSeg old i seg) t → wpList P ops Q rest a W1) : wpList P ops Q (o :: rest) a W := by
  refine store_event hgd ho hd (w1 := W.setCells g i seg) ?_ (fun W' e => by subst e; exact h _ (setCells_upd seg W old i hg))
  have hrun := run_store_run (P := P) ty v seg hg hv hi hfit (List.all_eq_true.mp h1)
  simp [execOp, ho, hx, hy, hrun]
/-- The same, the cells told. -/
theorem wpList_cells {W : World} (hgd : o.guard = none) (ty : TypeId) (p : Tmp) (y : Operand) (ho : o.op = .store ty (.tmp p) y) (hd : o.dst = none)
    (g i : Nat) (v : Value) (seg : List Value) (hx : a.eval (.tmp p) = .pointer (some ⟨g, i, none⟩)) (hy : a.eval y = v) (hv : v.cells.toList = seg)
    (t : TypeId) (old : Array Value) (hg : W.heap[g]? = some (.cells old t (0, 0))) (hi : (P.info? ty).map (·.size) = some seg.length)
    (hfit : i + seg.length ≤ old.size) (h1 : seg.all (·.oneCell') = true)
    (h : ∀ W1, W1 = W.setCells g i seg → wpList P ops Q rest a W1) : wpList P ops Q (o :: rest) a W := by
  refine store_event hgd ho hd (w1 := W.setCells g i seg) ?_ h
  have hrun := run_store_run (P := P) ty v seg hg hv hi hfit (List.all_eq_true.mp h1)
  simp [execOp, ho, hx, hy, hrun]
/-- A whole struct stored into a block of its own size. -/
theorem wpList_upd {W : World} (hgd : o.guard = none) (ty : TypeId) (p : Tmp) (y : Operand) (ho : o.op = .store ty (.tmp p) y) (hd : o.dst = none)
    (g : Nat) (cells : Array Value) (hx : a.eval (.tmp p) = .pointer (some ⟨g, 0, none⟩)) (hy : a.eval y = .agg cells)
    (t : TypeId) (old : Array Value) (hg : W.heap[g]? = some (.cells old t (0, 0))) (hi : (P.info? ty).map (·.size) = some cells.size)
    (hold : old.size = cells.size) (h1 : cells.toList.all (·.oneCell') = true)
    (h : ∀ W1, Upd W W1 g cells t → wpList P ops Q rest a W1) : wpList P ops Q (o :: rest) a W := by
  refine wpList_store_row hgd ty (.tmp p) y ho g cells hx hy t old hg hi hold (by rwa [Array.all_toList] at h1) ?_
  rw [hd]
  exact h _ (setRow_upd hg)
end
theorem box5 {W : World} {g t : Nat} {a0 a1 a2 a3 a4 : Value} (h : W.heap[g]? = some (.cells #[a0, a1, a2, a3, a4] t (0, 0))) : W.cell? ⟨g, 0, none⟩ = some a0 ∧ W.cell? ⟨g, 1, none⟩ = some a1 ∧ W.cell? ⟨g, 2, none⟩ = some a2 ∧ W.cell? ⟨g, 3, none⟩ = some a3 ∧ W.cell? ⟨g, 4, none⟩ = some a4 :=
  ⟨blk_cell h 0, blk_cell h 1, blk_cell h 2, blk_cell h 3, blk_cell h 4⟩
theorem box4 {W : World} {g t : Nat} {a0 a1 a2 a3 : Value} (h : W.heap[g]? = some (.cells #[a0, a1, a2, a3] t (0, 0))) : W.cell? ⟨g, 0, none⟩ = some a0 ∧ W.cell? ⟨g, 1, none⟩ = some a1 ∧ W.cell? ⟨g, 2, none⟩ = some a2 ∧ W.cell? ⟨g, 3, none⟩ = some a3 :=
  ⟨blk_cell h 0, blk_cell h 1, blk_cell h 2, blk_cell h 3⟩
theorem box12 {W : World} {g t : Nat} {a0 a1 a2 a3 a4 a5 a6 a7 a8 a9 a10 a11 : Value} (h : W.heap[g]? = some (.cells #[a0, a1, a2, a3, a4, a5, a6, a7, a8, a9, a10, a11] t (0, 0))) :
    W.cell? ⟨g, 0, none⟩ = some a0 ∧ W.cell? ⟨g, 1, none⟩ = some a1 ∧ W.cell? ⟨g, 2, none⟩ = some a2 ∧ W.cell? ⟨g, 3, none⟩ = some a3 ∧ W.cell? ⟨g, 4, none⟩ = some a4 ∧ W.cell? ⟨g, 5, none⟩ = some a5 ∧ W.cell? ⟨g, 6, none⟩ = some a6 ∧ W.cell? ⟨g, 7, none⟩ = some a7 ∧ W.cell? ⟨g, 8, none⟩ = some a8 ∧ W.cell? ⟨g, 9, none⟩ = some a9 ∧ W.cell? ⟨g, 10, none⟩ = some a10 ∧ W.cell? ⟨g, 11, none⟩ = some a11 :=
  ⟨blk_cell h 0, blk_cell h 1, blk_cell h 2, blk_cell h 3, blk_cell h 4, blk_cell h 5, blk_cell h 6, blk_cell h 7, blk_cell h 8, blk_cell h 9, blk_cell h 10, blk_cell h 11⟩
end Go.Proofs.Ytdndnjpfpelimaa.PG
