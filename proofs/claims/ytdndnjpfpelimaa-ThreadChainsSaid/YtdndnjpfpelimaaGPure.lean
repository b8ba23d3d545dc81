/- Plain law: of a function whose ends are one jump or a return, what leads where, and what is come to from a first block that leads to an end. -/
import Derived.Test.YtdndnjpfpelimaaReach1
import Derived.Test.YtdndnjpfpelimaaPGx36
namespace Go.Proofs.Ytdndnjpfpelimaa.PG
open Go.RowKit Go.Proofs.YtdndnjpfpelimaaW.PrintWords Go.Proofs.YtdndnjpfpelimaaW.PrintLast Go.Proofs.YtdndnjpfpelimaaW.PrintMore
set_option linter.unusedVariables false
set_option linter.unusedSimpArgs false
/-- Where an end leads. -/
def rowOf (b : S37) : List Int := if b.f1.f0 = 1 then [b.f1.f2] else []
theorem rd37_lt (bs : List S37) (i : Nat) (h : i < bs.length) : rd_T37 bs (i : Int) = bs[i] := by
  simp [rd_T37, List.getD_eq_getElem?_getD, List.getElem?_eq_getElem h]
theorem wrapN {i n : Nat} (h : i < n) (h2 : n < 1000000) : wrap64 ((i : Int) + 1) = ((i + 1 : Nat) : Int) := by unfold wrap64; omega
/-- The rows so far. -/
theorem graph_loop (bs : List S37) (hk : ∀ b ∈ bs, b.f1.f0 ≠ 2) (hn : bs.length < 1000) : ∀ (d i k : Nat), i + d = bs.length → d < k →
    sim_Graph.l0 k ((bs.take i).map rowOf ++ List.replicate d []) bs (bs.length : Int) (i : Int) = some (bs.map rowOf)
  | 0, i, k, h, hkk => by
    obtain ⟨k, rfl⟩ : ∃ m, k = m + 1 := ⟨k - 1, by omega⟩
    simp only [sim_Graph.l0]
    rw [if_neg (by omega), List.take_of_length_le (by omega)]
    simp
  | d + 1, i, k, h, hkk => by
    obtain ⟨k, rfl⟩ : ∃ m, k = m + 1 := ⟨k - 1, by omega⟩
    have hi : i < bs.length := by omega
    have hl : ((bs.take i).map rowOf).length = i := by simp; omega
    have hw := wrapN hi (by omega)
    have hs : ∀ r, (((bs.take i).map rowOf ++ List.replicate (d + 1) ([] : List Int)).set i r) = (bs.take i).map rowOf ++ r :: List.replicate d [] := by
      intro r
      rw [List.set_append_right _ _ (by omega), hl, Nat.sub_self, List.replicate_succ, List.set_cons_zero]
    have ht : (bs.take (i + 1)).map rowOf = (bs.take i).map rowOf ++ [rowOf bs[i]] := by
      rw [List.take_succ_eq_append_getElem hi, List.map_append]; rfl
    have ih := graph_loop bs hk hn d (i + 1) k (by omega) (by omega)
    simp only [sim_Graph.l0]
    rw [if_pos (by omega), if_pos (by omega), if_pos (by omega), rd37_lt bs i hi, hw]
    by_cases h1 : bs[i].f1.f0 = 1
    · rw [if_pos h1, if_pos (by simp; omega), Int.toNat_natCast, hs]
      rw [ht, show rowOf bs[i] = [bs[i].f1.f2] by simp [rowOf, h1], List.append_assoc] at ih
      exact ih
    · have h2 := hk _ (List.getElem_mem hi)
      rw [if_neg h1, if_neg h2]
      rw [ht, show rowOf bs[i] = [] by simp [rowOf, h1], List.append_assoc] at ih
      exact ih
theorem graph_eval (bs : List S37) (nm : ByteArray) (p q : Int) (hk : ∀ b ∈ bs, b.f1.f0 ≠ 2) (hn : bs.length < 1000) (k : Nat) (hkk : bs.length < k) : sim_Graph.f k nm p q bs = some (bs.map rowOf) := by
  unfold sim_Graph.f
  rw [if_pos (by omega), if_pos (by omega)]
  have := graph_loop bs hk hn bs.length 0 k (by omega) hkk
  simpa using this
theorem rdL7_at (R : List (List Int)) (i : Nat) (h : i < R.length) : rd_L7 R (i : Int) = R[i] := by
  simp [rd_L7, List.getD_eq_getElem?_getD, List.getElem?_eq_getElem h]
theorem rd_le_set (x4 : List Int) (v c m : Int) (h : ∀ j : Int, 0 ≤ j → j < x4.length → rd x4 j ≤ m) (hv : 0 ≤ v) (hc : c ≤ m + 1) : ∀ j : Int, 0 ≤ j → j < x4.length → rd (x4.set v.toNat c) j ≤ m + 1 := by
  intro j h0 h1
  have hj : j.toNat < x4.length := by omega
  unfold rd
  rw [List.getD_eq_getElem?_getD, List.getElem?_set]
  split
  · rw [if_pos (by omega)]; simpa using hc
  · have := h j h0 h1
    unfold rd at this
    rw [List.getD_eq_getElem?_getD] at this
    omega
/-- Rows of one place or none are left as they are. -/
theorem clean_loop (R : List (List Int)) (hR : ∀ r ∈ R, r = [] ∨ ∃ v : Int, r = [v] ∧ 0 ≤ v ∧ v < R.length) (hn : R.length < 1000) : ∀ (d i k : Nat) (x4 : List Int), i + d = R.length → 3 * d < k → x4.length = R.length → (∀ j : Int, 0 ≤ j → j < x4.length → rd x4 j ≤ i) →
    graph_clean.l0 k R (R.take i ++ List.replicate d []) x4 R (R.length : Int) (i : Int) = some R
  | 0, i, k, x4, h, hkk, _, _ => by
    obtain ⟨k, rfl⟩ : ∃ m, k = m + 1 := ⟨k - 1, by omega⟩
    simp only [graph_clean.l0]
    rw [if_neg (by omega), List.take_of_length_le (by omega)]
    simp
  | d + 1, i, k, x4, h, hkk, hl4, h4 => by
    obtain ⟨k, rfl⟩ : ∃ m, k = m + 3 := ⟨k - 3, by omega⟩
    have hi : i < R.length := by omega
    have hl : (R.take i).length = i := by simp; omega
    have hw := wrapN hi (by omega)
    have hs : ∀ r, ((R.take i ++ List.replicate (d + 1) ([] : List Int)).set i r) = R.take i ++ r :: List.replicate d [] := by
      intro r
      rw [List.set_append_right _ _ (by omega), hl, Nat.sub_self, List.replicate_succ, List.set_cons_zero]
    have hrd : rd_L7 (R.take i ++ List.replicate (d + 1) ([] : List Int)) (i : Int) = [] := by
      rw [rdL7_at _ _ (by simp; omega), List.getElem_append_right (by omega)]
      simp
    have ht : R.take (i + 1) = R.take i ++ [R[i]] := by
      rw [List.take_succ_eq_append_getElem hi]
    have hlen : ((R.take i ++ List.replicate (d + 1) ([] : List Int)).length : Int) = R.length := by simp; omega
    simp only [graph_clean.l0]
    rw [if_pos (by omega), if_pos (by omega), if_pos (by omega), rdL7_at R i hi]
    rcases hR _ (List.getElem_mem hi) with he | ⟨v, he, hv0, hv1⟩
    · have ih := clean_loop R hR hn d (i + 1) (k + 1) x4 (by omega) (by omega) hl4 (fun j a b => by have := h4 j a b; omega)
      rw [he]
      simp only [graph_clean.l1]
      rw [if_neg (by simp), hw]
      rw [ht, he, List.append_assoc] at ih
      exact ih
    · have ih := clean_loop R hR hn d (i + 1) k (x4.set v.toNat (((i + 1 : Nat) : Int))) (by omega) (by omega) (by rw [List.length_set]; exact hl4) (by
        intro j a b
        rw [List.length_set] at b
        have := rd_le_set x4 v ((i + 1 : Nat) : Int) i h4 hv0 (by omega) j a b
        omega)
      have hlv : ¬ rd x4 v = ((i + 1 : Nat) : Int) := by
        have := h4 v hv0 (by omega)
        omega
      rw [he]
      simp only [graph_clean.l1]
      have e0 : rd ([v] : List Int) 0 = v := rfl
      rw [if_pos (by simp), if_pos (by omega), if_pos (by simp), e0, if_pos (by omega), if_pos (by omega), if_pos (by omega), if_pos (by omega), hw, if_neg hlv, if_pos (by omega), if_pos (by omega), hrd, if_pos (by simp)]
      rw [if_neg (by simp [wrap64])]
      rw [Int.toNat_natCast, hs]
      rw [ht, he, List.append_assoc] at ih
      exact ih
theorem clean_eval (R : List (List Int)) (hR : ∀ r ∈ R, r = [] ∨ ∃ v : Int, r = [v] ∧ 0 ≤ v ∧ v < R.length) (hn : R.length < 1000) (k : Nat) (hk : 3 * R.length < k) : graph_clean.f k R = some R := by
  unfold graph_clean.f
  rw [if_pos (by omega), if_pos (by omega), if_pos (by omega)]
  have := clean_loop R hR hn R.length 0 k (List.replicate R.length 0) (by omega) hk (by simp) (by
    intro j h0 h1
    unfold rd
    rw [List.getD_eq_getElem?_getD, List.getElem?_replicate]
    split <;> simp)
  simpa using this
def seenOf (n : Nat) (e : Int) : List Bool := ((List.replicate n false).set 0 true).set e.toNat true
theorem reach_tail (R : List (List Int)) (e : Int) (x7 : List Bool) (he0 : 0 < e) (he1 : e < R.length) (h1 : rd_L7 R e = []) (k : Nat) : graph_reach.l0 (k + 3) R (-1) x7 [e] = some x7 := by
  have hwe : wrap64 (((([e] : List Int).length : Nat) : Int) - 1) = 0 := by simp [wrap64]
  have ee : rd ([e] : List Int) 0 = e := rfl
  have hl : graph_reach.l1 (k + 2) R (-1) x7 [] [] (([] : List Int).length : Int) 0 = some x7 := by
    simp only [graph_reach.l1]
    rw [if_neg (by simp)]
    simp only [graph_reach.l0]
    rw [if_neg (by simp)]
  simp only [graph_reach.l0]
  rw [if_pos (by simp), hwe, ee, if_pos (by omega), if_pos (by simp), if_pos (by simp), if_pos (by omega), if_pos (by omega), h1]
  exact hl
theorem reach_eval (R : List (List Int)) (e : Int) (he0 : 0 < e) (he1 : e < R.length) (hn : R.length < 1000) (h0 : rd_L7 R 0 = [e]) (h1 : rd_L7 R e = []) (k : Nat) : graph_reach.f (k + 8) R 0 (-1) = some (seenOf R.length e) := by
  have hw0 : wrap64 (((([0] : List Int).length : Nat) : Int) - 1) = 0 := by simp [wrap64]
  have e0 : rd ([0] : List Int) 0 = 0 := rfl
  have ee : rd ([e] : List Int) 0 = e := rfl
  have hns : rdOf false ((List.replicate R.length false).set 0 true) e = false := by
    unfold rdOf
    rw [List.getD_eq_getElem?_getD, List.getElem?_set_ne (by omega), List.getElem?_replicate]
    split <;> rfl
  have hb : ((0 : Int) == -1) = false := rfl
  have hl2 : graph_reach.l1 (k + 5) R (-1) (seenOf R.length e) [e] [e] (([e] : List Int).length : Int) (wrap64 (0 + 1)) = some (seenOf R.length e) := by
    simp only [graph_reach.l1]
    rw [if_neg (by simp [wrap64])]
    exact reach_tail R e _ he0 he1 h1 (k + 1)
  have hl1 : graph_reach.l1 (k + 6) R (-1) ((List.replicate R.length false).set 0 true) [] [e] (([e] : List Int).length : Int) 0 = some (seenOf R.length e) := by
    simp only [graph_reach.l1]
    rw [if_pos (by simp), if_pos (by omega), if_pos (by simp), ee, if_pos (by omega), if_pos (by simp; omega), if_neg (by rw [hns]; simp), if_neg (by omega), if_pos (by simp)]
    exact hl2
  have hl0 : graph_reach.l0 (k + 7) R (-1) ((List.replicate R.length false).set 0 true) [0] = some (seenOf R.length e) := by
    simp only [graph_reach.l0]
    rw [if_pos (by simp), hw0, e0, if_pos (by omega), if_pos (by simp), if_pos (by simp), if_pos (by omega), if_pos (by omega), h0]
    exact hl1
  unfold graph_reach.f
  rw [if_pos (by omega), if_pos (by omega)]
  simp only [Option.bind_some]
  rw [if_neg (by omega), hb]
  simp only [graph_reach.j0]
  rw [if_neg (by simp), if_pos (by omega), if_pos (by simp; omega)]
  rw [Int.toNat_natCast]
  exact hl0
theorem Reach_eval (R : List (List Int)) (e : Int) (hR : ∀ r ∈ R, r = [] ∨ ∃ v : Int, r = [v] ∧ 0 ≤ v ∧ v < R.length) (he0 : 0 < e) (he1 : e < R.length) (hn : R.length < 1000) (h0 : rd_L7 R 0 = [e]) (h1 : rd_L7 R e = []) : graph_Reach.f (3 * R.length + 8) R = some (seenOf R.length e) := by
  unfold graph_Reach.f
  rw [clean_eval R hR hn _ (by omega)]
  simp only [Option.bind_some]
  rw [reach_eval R e he0 he1 hn h0 h1 (3 * R.length)]
  rfl
end Go.Proofs.Ytdndnjpfpelimaa.PG
