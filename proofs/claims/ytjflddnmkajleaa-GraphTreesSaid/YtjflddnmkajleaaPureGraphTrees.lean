/- Plain law: what GraphTrees' code computes is true of every list. -/
import Derived.Test.YtjflddnmkajleaaHr
import Derived.Test.YtjflddnmkajleaaPGx43
namespace Go.Proofs.Ytjflddnmkajleaa.Pure
set_option linter.unusedVariables false
set_option linter.unusedSimpArgs false
open Go.RowKit Go.Proofs.Ytjflddnmkajleaa.PG Go.Proofs.YtjflddnmkajleaaW.PrintWords Go.Proofs.YtjflddnmkajleaaW.PrintLast Go.Proofs.Ytjflddnmkajleaa.Norm Go.Proofs.Ytjflddnmkajleaa.Dm

theorem awakeIs : Ev (fun k => ratlinelaw10_awake.f k) true :=
  Ev.of (fun k => ratlinelaw10_awake.mono k) (k := 100) (by decide +kernel)
/-- A mask by 65535 lies between nought and 65535. -/
theorem andLt (a : Int) : 0 ≤ Go.bits .and .i64 a 65535 ∧ Go.bits .and .i64 a 65535 ≤ 65535 := by
  have h : (BitVec.ofInt 64 a &&& BitVec.ofInt 64 65535).toNat ≤ 65535 := by
    rw [BitVec.toNat_and]
    exact Nat.le_trans Nat.and_le_right (by decide)
  show 0 ≤ IntKind.i64.wrap ((BitVec.ofInt 64 a &&& BitVec.ofInt 64 65535).toNat : Int) ∧ IntKind.i64.wrap ((BitVec.ofInt 64 a &&& BitVec.ofInt 64 65535).toNat : Int) ≤ 65535
  rw [IntKind.wrap_i64]
  omega
/-- The point that leads to one. -/
def up (l : List Int) (v : Nat) : Nat := (Int.tmod (Go.bits .and .i64 (rd l (wrap64 ((v : Int) - 1))) 65535) (v : Int)).toNat
theorem up_is (l : List Int) (v : Nat) (h : 1 ≤ v) : Int.tmod (Go.bits .and .i64 (rd l (wrap64 ((v : Int) - 1))) 65535) (v : Int) = (up l v : Int) ∧ up l v < v := by
  unfold up
  obtain ⟨h0, _⟩ := andLt (rd l (wrap64 ((v : Int) - 1)))
  rw [Int.tmod_eq_emod_of_nonneg h0]
  have h1 := Int.emod_nonneg (Go.bits .and .i64 (rd l (wrap64 ((v : Int) - 1))) 65535) (b := (v : Int)) (by omega)
  have h2 := Int.emod_lt_of_pos (Go.bits .and .i64 (rd l (wrap64 ((v : Int) - 1))) 65535) (b := (v : Int)) (by omega)
  omega
def rowT (u : Nat → Nat) (i x : Nat) : List Int := ((List.range i).filter fun v : Nat => decide (1 ≤ v ∧ u v = x)).map fun v : Nat => (v : Int)
def treeG (u : Nat → Nat) (n i : Nat) : List (List Int) := (List.range n).map (rowT u i)
def upL (u : Nat → Nat) (n i : Nat) : List Int := (List.range n).map fun v : Nat => if v = 0 then (-1 : Int) else if v < i then (u v : Int) else 0
theorem rowT_succ (u : Nat → Nat) (i x : Nat) (h : 1 ≤ i) : rowT u (i + 1) x = if u i = x then rowT u i x ++ [(i : Int)] else rowT u i x := by
  unfold rowT
  rw [List.range_succ, List.filter_append]
  by_cases c : u i = x
  · simp [c, h]
  · simp [c]
theorem treeG_len (u : Nat → Nat) (n i : Nat) : (treeG u n i).length = n := by simp [treeG]
theorem upL_len (u : Nat → Nat) (n i : Nat) : (upL u n i).length = n := by simp [upL]
theorem treeG_row (u : Nat → Nat) (n i x : Nat) (h : x < n) : rd_L1 (treeG u n i) (x : Int) = rowT u i x := by
  simp [rd_L1, treeG, h]
theorem treeG_succ (u : Nat → Nat) (n i : Nat) (h : 1 ≤ i) (hu : u i < n) : treeG u n (i + 1) = (treeG u n i).set (u i) (rd_L1 (treeG u n i) (u i : Int) ++ [(i : Int)]) := by
  rw [treeG_row u n i _ hu]
  refine List.ext_getElem (by simp [treeG]) ?_
  intro k h1 h2
  have hk : k < n := by simpa [treeG] using h1
  rw [List.getElem_set]
  simp only [treeG, List.getElem_map, List.getElem_range]
  rw [rowT_succ u i k h]
  by_cases c : u i = k
  · subst c; simp
  · simp [c]
theorem upL_succ (u : Nat → Nat) (n i : Nat) (h : 1 ≤ i) : upL u n (i + 1) = (upL u n i).set i (u i : Int) := by
  refine List.ext_getElem (by simp [upL]) ?_
  intro k h1 h2
  rw [List.getElem_set]
  simp only [upL, List.getElem_map, List.getElem_range]
  by_cases c : i = k
  · subst c
    have : ¬ i = 0 := by omega
    simp [this]
  · by_cases c2 : k = 0
    · simp [c, c2]; omega
    · by_cases c3 : k < i
      · have : k < i + 1 := by omega
        simp [c, c2, c3, this]
      · have : ¬ k < i + 1 := by omega
        simp [c, c2, c3, this]
theorem rowT_len (u : Nat → Nat) (i x : Nat) : (rowT u i x).length ≤ i := by
  unfold rowT
  rw [List.length_map]
  exact Nat.le_trans (List.length_filter_le _ _) (by simp)
theorem rowT_short (u : Nat → Nat) (i x : Nat) (h : 1 ≤ i) : (rowT u i x).length ≤ i - 1 := by
  obtain ⟨i, rfl⟩ : ∃ j, i = j + 1 := ⟨i - 1, by omega⟩
  unfold rowT
  rw [List.length_map, List.range_succ_eq_map, List.filter_cons]
  simp
  refine Nat.le_trans (List.length_filter_le _ _) ?_
  simp
theorem build (l : List Int) (n : Nat) (hn : n ≤ 61) (hl : n ≤ l.length + 1) (r : Bool) (hk : Ev (fun k => ((graph_Doms.f k (treeG (up l) n n)).bind fun t639 => ((graph_Order.f k (treeG (up l) n n)).bind fun t642 => ((ratlineref11_SameInts.f k t639 (upL (up l) n n)).bind fun t645 => (if t645 = true then (if (t642.length : Int) = (n : Int) then ((graph_Loops.f k (treeG (up l) n n)).bind fun t646 => (if (t646.length : Int) = 0 then ((graph_Cyclic.f k (treeG (up l) n n) ([] : List Bool)).bind fun t649 => (ratlinelaw10_GraphTrees.j1 k n (upL (up l) n n) t639 t642 t649)) else (ratlinelaw10_GraphTrees.j1 k n (upL (up l) n n) t639 t642 true))) else (ratlinelaw10_GraphTrees.j1 k n (upL (up l) n n) t639 t642 true)) else (ratlinelaw10_GraphTrees.j1 k n (upL (up l) n n) t639 t642 true)))))) r) :
    ∀ (m j : Nat), j + m = n → 1 ≤ j → Ev (fun k => ratlinelaw10_GraphTrees.l0 k l n (treeG (up l) n j) (upL (up l) n j) (j : Int)) r
  | 0, j, h, h1 => by
    have : j = n := by omega
    subst this
    refine Ev.step (fun k => ?_) hk
    rw [ratlinelaw10_GraphTrees.l0, if_neg (by omega)]
  | m + 1, j, h, h1 => by
    have ih := build l n hn hl r hk m (j + 1) (by omega) (by omega)
    obtain ⟨u1, u2⟩ := up_is l j h1
    have hw : wrap64 ((j : Int) - 1) = ((j - 1 : Nat) : Int) := by unfold wrap64; omega
    have hrl := rowT_len (up l) j (up l j)
    have h1l := treeG_len (up l) n j
    have h2l := upL_len (up l) n j
    have hr := treeG_row (up l) n j (up l j) (by omega)
    rw [treeG_succ (up l) n j h1 (by omega), upL_succ (up l) n j h1] at ih
    refine Ev.step (fun k => ?_) ih
    rw [ratlinelaw10_GraphTrees.l0, if_pos (by omega), u1, hw, if_pos (by omega), if_pos (by omega), if_neg (by omega), if_pos (by omega), if_pos (by omega), if_pos (by omega), if_pos (by omega), if_pos (by rw [hr]; omega), w1 (by omega)]
    simp
theorem tree_small (u : Nat → Nat) (n : Nat) (hn : n ≤ 61) (h1 : 1 ≤ n) : Small (treeG u n n) := by
  refine ⟨by rw [treeG_len]; omega, ?_⟩
  intro l hl
  obtain ⟨x, _, rfl⟩ := List.mem_map.mp hl
  have := rowT_short u n x h1
  omega
theorem tree_is (u : Nat → Nat) (n : Nat) (h1 : 1 ≤ n) (hu : ∀ v, 1 ≤ v → v < n → u v < v) : Tree (treeG u n n).length u (Eg (norm (treeG u n n))) := by
  rw [treeG_len]
  refine ⟨h1, hu, fun x v => ?_⟩
  rw [eg_norm, treeG_len]
  by_cases hx : x < n
  · rw [treeG_row u n n x hx]
    unfold rowT
    rw [List.mem_map]
    constructor
    · rintro ⟨⟨v', h2, h3⟩, h4⟩
      obtain ⟨h5, h6⟩ := List.mem_filter.mp h2
      simp at h6
      have : v' = v := by omega
      subst this
      exact ⟨h6.1, h4, h6.2.symm⟩
    · rintro ⟨h2, h3, h4⟩
      exact ⟨⟨v, List.mem_filter.mpr ⟨by simpa using h3, by simp [h2, h4]⟩, rfl⟩, h3⟩
  · have e : rd_L1 (treeG u n n) (x : Int) = [] := by simp [rd_L1, treeG, hx]
    rw [e]
    constructor
    · rintro ⟨h, _⟩; cases h
    · rintro ⟨h2, h3, h4⟩
      have := hu v h2 h3
      omega
theorem places {n : Nat} (hn : n ≤ 61) (U Y o : List Int) (hol : o.length = n) (hop : ∀ q ∈ o, 0 ≤ q ∧ q < (n : Int)) (hnd : o.Nodup) (r : Bool)
    (hk : ∀ A : List Int, A.length = n → (∀ i : Nat, i < n → rd A (rd o (i : Int)) = (i : Int)) → Ev (fun k => ratlinelaw10_GraphTrees.l2 k n U Y A 1) r) : ∀ (m j : Nat) (A : List Int), j + m = n → A.length = n → (∀ i : Nat, i < j → rd A (rd o (i : Int)) = (i : Int)) → Ev (fun k => ratlinelaw10_GraphTrees.l1 k n U Y o A (j : Int)) r
  | 0, j, A, h, hA, hj => by
    have : j = n := by omega
    subst this
    refine Ev.step (fun k => ?_) (hk A hA hj)
    rw [ratlinelaw10_GraphTrees.l1, if_neg (by omega)]
  | m + 1, j, A, h, hA, hj => by
    have hget : ∀ i : Nat, i < n → ∃ hi : i < o.length, rd o (i : Int) = o[i] := fun i hi => ⟨by omega, by rw [rdNat, List.getD_eq_getElem?_getD, List.getElem?_eq_getElem (by omega)]; rfl⟩
    have hpt : ∀ i : Nat, i < n → 0 ≤ rd o (i : Int) ∧ rd o (i : Int) < (n : Int) := fun i hi => by
      obtain ⟨h1, h2⟩ := hget i hi
      rw [h2]
      exact hop _ (List.getElem_mem h1)
    obtain ⟨p0, p1⟩ := hpt j (by omega)
    have ih := places hn U Y o hol hop hnd r hk m (j + 1) (A.set (rd o (j : Int)).toNat (j : Int)) (by omega) (by simpa using hA) (by
      intro i hi
      obtain ⟨q0, q1⟩ := hpt i (by omega)
      rw [rdSetI A (rd o (j : Int)) (rd o (i : Int)) (j : Int) p0 q0 (by omega)]
      by_cases e : rd o (i : Int) = rd o (j : Int)
      · rw [if_pos e]
        obtain ⟨a1, a2⟩ := hget i (by omega)
        obtain ⟨b1, b2⟩ := hget j (by omega)
        rw [a2, b2] at e
        have := (List.getElem_inj hnd).mp e
        omega
      · rw [if_neg e]
        refine hj i ?_
        have : i ≠ j := by rintro rfl; exact e rfl
        omega)
    refine Ev.step (fun k => ?_) ih
    rw [ratlinelaw10_GraphTrees.l1, if_pos (by omega), if_pos (by omega), if_pos (by omega), if_neg (by omega), if_neg (by omega), if_pos p0, if_pos (by omega), w1 (by omega)]
open Classical in
theorem over {n : Nat} {u : Nat → Nat} {E : Nat → Nat → Prop} {o : List Nat} (hn : n ≤ 61) (L : Tree n u E) (O : Ord n E o) (Y : List Int) (hY : Y.length = n) (T : True_ n E o (fn Y)) (U : List Int) (hU : U.length = n) (hUv : ∀ v : Nat, v < n → v ≠ 0 → rd U (v : Int) = (u v : Int)) (A : List Int) (hA : A.length = n) (hAv : ∀ v : Nat, v < n → v ≠ 0 → rd A (u v : Int) < rd A (v : Int)) :
    ∀ (m j : Nat), j + m = n → 1 ≤ j → Ev (fun k => ratlinelaw10_GraphTrees.l2 k n U Y A (j : Int)) true
  | 0, j, h, h1 => by
    have ew : Ev (fun k => (ratlinelaw10_awake.f k).bind fun t462 => some t462) true := Ev.bind (f := fun _ u => some u) awakeIs (Ev.now _)
    refine Ev.step (fun k => ?_) ew
    rw [ratlinelaw10_GraphTrees.l2, if_neg (by omega)]
  | m + 1, j, h, h1 => by
    have ih := over hn L O Y hY T U hU hUv A hA hAv m (j + 1) (by omega) (by omega)
    have hlt := L.lt j h1 (by omega)
    have hu := hUv j (by omega) (by omega)
    have ha := hAv j (by omega) (by omega)
    have d1 := dominates_is O (by omega) hY T (tree_in L O (u j) (by omega)) (tree_in L O j (by omega))
    have d2 := dominates_is O (by omega) hY T (tree_in L O 0 (by omega)) (tree_in L O j (by omega))
    have d3 := dominates_is O (by omega) hY T (tree_in L O j (by omega)) (tree_in L O 0 (by omega))
    have f1 : decide (Dom E o (u j) j) = true := decide_eq_true (tree_dom L O j (by omega) (by omega))
    have f2 : decide (Dom E o 0 j) = true := decide_eq_true (zero_dom O (tree_in L O j (by omega)))
    have f3 : decide (Dom E o j 0) = false := decide_eq_false (fun h => by have := dom_zero h; omega)
    rw [f1] at d1
    rw [f2] at d2
    rw [f3] at d3
    have e3 := Ev.bind (f := fun k t664 => (if t664 = true then (some false) else (ratlinelaw10_GraphTrees.l2 k n U Y A (wrap64 ((j : Int) + 1))))) d3 (r := true) (by
      rw [w1 (by omega)]
      simpa using ih)
    have e2 := Ev.bind (f := fun k t663 => (if t663 = true then ((graph_Dominates.f k Y (j : Int) 0).bind fun t664 => (if t664 = true then (some false) else (ratlinelaw10_GraphTrees.l2 k n U Y A (wrap64 ((j : Int) + 1))))) else (some false))) d2 (r := true) (by simpa using e3)
    have e1 := Ev.bind (f := fun k t662 => (if t662 = true then ((graph_Dominates.f k Y 0 (j : Int)).bind fun t663 => (if t663 = true then ((graph_Dominates.f k Y (j : Int) 0).bind fun t664 => (if t664 = true then (some false) else (ratlinelaw10_GraphTrees.l2 k n U Y A (wrap64 ((j : Int) + 1))))) else (some false))) else (some false))) d1 (r := true) (by simpa using e2)
    refine Ev.step (fun k => ?_) e1
    rw [ratlinelaw10_GraphTrees.l2, if_pos (by omega), if_pos (by omega), if_pos (by omega), hu, if_pos (by omega), if_pos (by omega), if_pos (by omega), if_neg (by omega)]
theorem trees (l : List Int) (n : Nat) (hn : n ≤ 61) (h1 : 1 ≤ n) (hl : n ≤ l.length + 1) : Ev (fun k => ratlinelaw10_GraphTrees.l0 k l n (treeG (up l) n 1) (upL (up l) n 1) 1) true := by
  have hg := tree_small (up l) n hn h1
  have L := tree_is (up l) n h1 (fun v h _ => (up_is l v h).2)
  have hlen := treeG_len (up l) n n
  obtain ⟨Y, y1, y2, y3⟩ := Doms (treeG (up l) n n) hg
  obtain ⟨O1, T1⟩ : ∃ o, Ord (treeG (up l) n n).length (Eg (norm (treeG (up l) n n))) o ∧ True_ (treeG (up l) n n).length (Eg (norm (treeG (up l) n n))) o (fn Y) := y3 (by omega)
  obtain ⟨O, T⟩ := T1
  obtain ⟨q, q1, q2⟩ := OrderP (treeG (up l) n n) hg
  obtain ⟨Q, q3⟩ := ord_is (neat _ hg) (by rw [norm_length]; omega) q1
  rw [norm_length] at Q q3
  have hql : q.length = n := by
    have := tree_len L Q
    rw [List.length_map, hlen] at this
    exact this
  have hqn : q.Nodup := by
    have := List.nodup_iff_pairwise_ne.mp Q.nodup
    rw [List.pairwise_map] at this
    rw [List.nodup_iff_pairwise_ne]
    exact this.imp (fun h e => h (by rw [e]))
  have hU : upL (up l) n n = Y := by
    refine List.ext_getElem (by rw [upL_len, y1, hlen]) ?_
    intro v h2 h3
    have hv : v < n := by rw [upL_len] at h2; exact h2
    have e := true_one O T (tree_true L O) v (by omega)
    have e2 : fn Y v = Y[v] := by
      unfold fn
      rw [rdNat, List.getD_eq_getElem?_getD, List.getElem?_eq_getElem h3]
      rfl
    rw [← e2, e]
    simp only [upL, List.getElem_map, List.getElem_range]
    unfold wantT
    by_cases c : v = 0
    · simp [c]
    · simp [c, hv]
  have hsame := same (upL (up l) n n) (by rw [upL_len]; omega)
  have hY : Y.length = n := by rw [y1, hlen]
  have hUl := upL_len (up l) n n
  rw [hlen] at L O T Q
  have hpl := places (n := n) hn (upL (up l) n n) Y q hql (by rw [hlen] at q3; exact q3) hqn true (by
    intro A hA hAv
    have hidx : ∀ v : Nat, v < n → rd A (v : Int) = (((q.map Int.toNat).idxOf v : Nat) : Int) := by
      intro v hv
      have hm := tree_in L Q v hv
      have hi := List.idxOf_lt_length_iff.mpr hm
      have hi2 : (q.map Int.toNat).idxOf v < q.length := by simpa using hi
      have := hAv ((q.map Int.toNat).idxOf v) (by omega)
      have e : rd q (((q.map Int.toNat).idxOf v : Nat) : Int) = (v : Int) := by
        rw [rdNat, List.getD_eq_getElem?_getD, List.getElem?_eq_getElem hi2]
        have e3 := List.getElem_idxOf hi
        rw [List.getElem_map] at e3
        have := (q3 _ (List.getElem_mem hi2)).1
        simp only [Option.getD_some]
        omega
      rw [e] at this
      exact this
    refine over hn L O Y hY T (upL (up l) n n) hUl ?_ A hA ?_ (n - 1) 1 (by omega) (by omega)
    · intro v hv h0
      rw [rdNat, List.getD_eq_getElem?_getD]
      simp [upL, hv, h0]
    · intro v hv h0
      have := L.lt v (by omega) hv
      rw [hidx v hv, hidx (up l v) (by omega)]
      have := tree_idx L Q v hv h0
      omega) n 0 (List.replicate n 0) (by omega) (by simp) (by intro i hi; omega)
  have e1 : Ev (fun k => ratlinelaw10_GraphTrees.j1 k n (upL (up l) n n) Y q false) true := by
    refine Ev.step (fun k => ?_) hpl
    rw [ratlinelaw10_GraphTrees.j1, if_neg (by simp), if_pos (by omega), if_pos (by omega)]
    rfl
  have e2 := Ev.bind (f := fun k t649 => ratlinelaw10_GraphTrees.j1 k n (upL (up l) n n) Y q t649) (tree_cyc hg (by rw [hlen]; exact L)) e1
  have e3 := Ev.bind (f := fun k (t646 : List S37) => (if (t646.length : Int) = 0 then ((graph_Cyclic.f k (treeG (up l) n n) ([] : List Bool)).bind fun t649 => (ratlinelaw10_GraphTrees.j1 k n (upL (up l) n n) Y q t649)) else (ratlinelaw10_GraphTrees.j1 k n (upL (up l) n n) Y q true))) (tree_loops hg (u := up l) (by rw [hlen]; exact L)) (r := true) (by simpa using e2)
  have hsame' : Ev (fun k => ratlineref11_SameInts.f k Y (upL (up l) n n)) true := by rw [hU] at hsame ⊢; exact hsame
  have e4 := Ev.bind (f := fun k t645 => (if t645 = true then (if (q.length : Int) = (n : Int) then ((graph_Loops.f k (treeG (up l) n n)).bind fun t646 => (if (t646.length : Int) = 0 then ((graph_Cyclic.f k (treeG (up l) n n) ([] : List Bool)).bind fun t649 => (ratlinelaw10_GraphTrees.j1 k n (upL (up l) n n) Y q t649)) else (ratlinelaw10_GraphTrees.j1 k n (upL (up l) n n) Y q true))) else (ratlinelaw10_GraphTrees.j1 k n (upL (up l) n n) Y q true)) else (ratlinelaw10_GraphTrees.j1 k n (upL (up l) n n) Y q true))) hsame' (r := true) (by
    refine Ev.congr (fun k => ?_) e3
    rw [if_pos rfl, if_pos (by omega)])
  have e5 := Ev.bind (f := fun k (t642 : List Int) => ((ratlineref11_SameInts.f k Y (upL (up l) n n)).bind fun t645 => (if t645 = true then (if (t642.length : Int) = (n : Int) then ((graph_Loops.f k (treeG (up l) n n)).bind fun t646 => (if (t646.length : Int) = 0 then ((graph_Cyclic.f k (treeG (up l) n n) ([] : List Bool)).bind fun t649 => (ratlinelaw10_GraphTrees.j1 k n (upL (up l) n n) Y t642 t649)) else (ratlinelaw10_GraphTrees.j1 k n (upL (up l) n n) Y t642 true))) else (ratlinelaw10_GraphTrees.j1 k n (upL (up l) n n) Y t642 true)) else (ratlinelaw10_GraphTrees.j1 k n (upL (up l) n n) Y t642 true)))) q2 e4
  have e6 := Ev.bind (f := fun k t639 => ((graph_Order.f k (treeG (up l) n n)).bind fun t642 => ((ratlineref11_SameInts.f k t639 (upL (up l) n n)).bind fun t645 => (if t645 = true then (if (t642.length : Int) = (n : Int) then ((graph_Loops.f k (treeG (up l) n n)).bind fun t646 => (if (t646.length : Int) = 0 then ((graph_Cyclic.f k (treeG (up l) n n) ([] : List Bool)).bind fun t649 => (ratlinelaw10_GraphTrees.j1 k n (upL (up l) n n) t639 t642 t649)) else (ratlinelaw10_GraphTrees.j1 k n (upL (up l) n n) t639 t642 true))) else (ratlinelaw10_GraphTrees.j1 k n (upL (up l) n n) t639 t642 true)) else (ratlinelaw10_GraphTrees.j1 k n (upL (up l) n n) t639 t642 true))))) y2 e5
  exact build l n hn hl true e6 (n - 1) 1 (by omega) (by omega)
theorem GraphTrees : ratlinelaw10_GraphTrees.Pure := by
  intro l _ _ _
  refine Ev.rounds (g := fun k => ratlinelaw10_GraphTrees.f k l) ?_
  obtain ⟨n, hn, h1, h2, h3⟩ : ∃ n : Nat, mn (l.length : Int) 60 + 1 = (n : Int) ∧ n ≤ 61 ∧ 1 ≤ n ∧ n ≤ l.length + 1 := by
    unfold mn
    by_cases c : (60 : Int) < (l.length : Int)
    · exact ⟨61, by (repeat' split) <;> omega, by omega, by omega, by omega⟩
    · exact ⟨l.length + 1, by (repeat' split) <;> omega, by omega, by omega, by omega⟩
  have key := trees l n h1 h2 h3
  simp only [ratlinelaw10_GraphTrees.f]
  rw [hn]
  refine Ev.congr (fun k => ?_) key
  rw [if_pos (by omega), if_pos (by omega), if_pos (by omega)]
  simp only [Option.bind_some, Int.toNat_natCast]
  rw [if_pos (by simp; omega)]
  have g1 : List.replicate n ([] : List Int) = treeG (up l) n 1 := by
    refine List.ext_getElem (by simp [treeG]) ?_
    intro k h4 h5
    simp [treeG, rowT, List.range_succ]
  have g2 : (List.replicate n (0 : Int)).set (0 : Int).toNat (-1) = upL (up l) n 1 := by
    refine List.ext_getElem (by simp [upL]) ?_
    intro k h4 h5
    simp only [upL, List.getElem_map, List.getElem_range]
    rw [List.getElem_set]
    by_cases c : k = 0
    · subst c; simp
    · have : ¬ k < 1 := by omega
      have e : ¬ (0 : Int).toNat = k := by simp; omega
      simp [c, this]
      omega
  rw [g1, g2]
end Go.Proofs.Ytjflddnmkajleaa.Pure
