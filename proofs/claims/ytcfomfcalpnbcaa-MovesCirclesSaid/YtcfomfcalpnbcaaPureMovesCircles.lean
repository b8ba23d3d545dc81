/- Plain law: what MovesCircles' code computes is true at every length and at any number of places beside the circle. -/
import Derived.Test.YtcfomfcalpnbcaaMCa
import Derived.Test.YtcfomfcalpnbcaaMCb
import Derived.Test.YtcfomfcalpnbcaaMCc
namespace Go.Proofs.Ytcfomfcalpnbcaa.Pure
open Go.RowKit Go.Proofs.Ytcfomfcalpnbcaa.PG Go.Proofs.YtcfomfcalpnbcaaW.PrintWords Go.Proofs.YtcfomfcalpnbcaaW.PrintLast

/-- A mask by 65535 lies between nought and 65535. -/
theorem andLt (a : Int) : 0 ≤ Go.bits .and .i64 a 65535 ∧ Go.bits .and .i64 a 65535 ≤ 65535 := by
  have h : (BitVec.ofInt 64 a &&& BitVec.ofInt 64 65535).toNat ≤ 65535 := by
    rw [BitVec.toNat_and]
    exact Nat.le_trans Nat.and_le_right (by decide)
  show 0 ≤ IntKind.i64.wrap ((BitVec.ofInt 64 a &&& BitVec.ofInt 64 65535).toNat : Int) ∧ IntKind.i64.wrap ((BitVec.ofInt 64 a &&& BitVec.ofInt 64 65535).toNat : Int) ≤ 65535
  rw [IntKind.wrap_i64]
  omega
/-- A mask by 7 lies between nought and 7. -/
theorem andSeven (a : Int) : 0 ≤ Go.bits .and .i64 a 7 ∧ Go.bits .and .i64 a 7 ≤ 7 := by
  have h : (BitVec.ofInt 64 a &&& BitVec.ofInt 64 7).toNat ≤ 7 := by
    rw [BitVec.toNat_and]
    exact Nat.le_trans Nat.and_le_right (by decide)
  show 0 ≤ IntKind.i64.wrap ((BitVec.ofInt 64 a &&& BitVec.ofInt 64 7).toNat : Int) ∧ IntKind.i64.wrap ((BitVec.ofInt 64 a &&& BitVec.ofInt 64 7).toNat : Int) ≤ 7
  rw [IntKind.wrap_i64]
  omega
/-- The law's own moves have 29 times 8 shapes: each is computed. -/
theorem circles (n : Nat) (h0 : 2 ≤ n) (h1 : n ≤ 30) (m : Fin 8) : ratlinelaw19_MovesCircles.l0 2000 (n : Int) ((m.val : Nat) : Int) [] 0 = some true := by
  rcases (show n = 2 ∨ n = 3 ∨ n = 4 ∨ n = 5 ∨ n = 6 ∨ n = 7 ∨ n = 8 ∨ n = 9 ∨ n = 10 ∨ n = 11 ∨ n = 12 ∨ n = 13 ∨ n = 14 ∨ n = 15 ∨ n = 16 ∨ n = 17 ∨ n = 18 ∨ n = 19 ∨ n = 20 ∨ n = 21 ∨ n = 22 ∨ n = 23 ∨ n = 24 ∨ n = 25 ∨ n = 26 ∨ n = 27 ∨ n = 28 ∨ n = 29 ∨ n = 30 by omega) with h | h | h | h | h | h | h | h | h | h | h | h | h | h | h | h | h | h | h | h | h | h | h | h | h | h | h | h | h
  · rw [h]; exact c2 m
  · rw [h]; exact c3 m
  · rw [h]; exact c4 m
  · rw [h]; exact c5 m
  · rw [h]; exact c6 m
  · rw [h]; exact c7 m
  · rw [h]; exact c8 m
  · rw [h]; exact c9 m
  · rw [h]; exact c10 m
  · rw [h]; exact c11 m
  · rw [h]; exact c12 m
  · rw [h]; exact c13 m
  · rw [h]; exact c14 m
  · rw [h]; exact c15 m
  · rw [h]; exact c16 m
  · rw [h]; exact c17 m
  · rw [h]; exact c18 m
  · rw [h]; exact c19 m
  · rw [h]; exact c20 m
  · rw [h]; exact c21 m
  · rw [h]; exact c22 m
  · rw [h]; exact c23 m
  · rw [h]; exact c24 m
  · rw [h]; exact c25 m
  · rw [h]; exact c26 m
  · rw [h]; exact c27 m
  · rw [h]; exact c28 m
  · rw [h]; exact c29 m
  · rw [h]; exact c30 m
theorem MovesCircles : ratlinelaw19_MovesCircles.Pure := by
  intro a0 a1 _ _
  obtain ⟨h0, _⟩ := andLt a0
  obtain ⟨h1, h2⟩ := andSeven a1
  refine ⟨2000, ?_⟩
  unfold ratlinelaw19_MovesCircles.f
  generalize Go.bits .and .i64 a0 65535 = b at h0 ⊢
  generalize Go.bits .and .i64 a1 7 = c at h1 h2 ⊢
  have e : Int.tmod b 29 = b % 29 := Int.tmod_eq_emod_of_nonneg h0
  rw [e]
  have hn : wrap64 (b % 29 + 2) = (((b % 29).toNat + 2 : Nat) : Int) := by unfold wrap64; omega
  have hm : c.toNat < 8 := by omega
  have hj : ((c.toNat : Nat) : Int) = c := by omega
  have := circles ((b % 29).toNat + 2) (by omega) (by omega) ⟨c.toNat, hm⟩
  simp only [hj] at this
  rw [hn]
  exact this

end Go.Proofs.Ytcfomfcalpnbcaa.Pure
