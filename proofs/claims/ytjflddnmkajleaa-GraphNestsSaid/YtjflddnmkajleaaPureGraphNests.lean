import Derived.Test.YtjflddnmkajleaaPGx42
namespace Go.Proofs.Ytjflddnmkajleaa.Pure
open Go.RowKit Go.Proofs.Ytjflddnmkajleaa.PG Go.Proofs.YtjflddnmkajleaaW.PrintWords Go.Proofs.YtjflddnmkajleaaW.PrintLast

/-- A mask by 65535 lies between nought and 65535. -/
theorem andLt (a : Int) : 0 ≤ Go.bits .and .i64 a 65535 ∧ Go.bits .and .i64 a 65535 ≤ 65535 := by
  have h : (BitVec.ofInt 64 a &&& BitVec.ofInt 64 65535).toNat ≤ 65535 := by
    rw [BitVec.toNat_and]
    exact Nat.le_trans Nat.and_le_right (by decide)
  show 0 ≤ IntKind.i64.wrap ((BitVec.ofInt 64 a &&& BitVec.ofInt 64 65535).toNat : Int) ∧ IntKind.i64.wrap ((BitVec.ofInt 64 a &&& BitVec.ofInt 64 65535).toNat : Int) ≤ 65535
  rw [IntKind.wrap_i64]
  omega

/-- The law's own graph has at most twelve shapes: each is computed. -/
theorem nests : ∀ n : Fin 12, ratlinelaw10_GraphNests.l0 320 (wrap64 (((n.val : Nat) : Int) + 1)) [] 0 = some true := by decide +kernel

theorem GraphNests : ratlinelaw10_GraphNests.Pure := by
  intro a0 _
  obtain ⟨h0, h1⟩ := andLt a0
  refine ⟨320, ?_⟩
  unfold ratlinelaw10_GraphNests.f
  generalize Go.bits .and .i64 a0 65535 = b at h0 h1 ⊢
  have e : Int.tmod b 12 = b % 12 := Int.tmod_eq_emod_of_nonneg h0
  rw [e]
  have hn : (b % 12).toNat < 12 := by omega
  have hi : (((b % 12).toNat : Nat) : Int) = b % 12 := by omega
  have := nests ⟨(b % 12).toNat, hn⟩
  simp only [hi] at this
  exact this

end Go.Proofs.Ytjflddnmkajleaa.Pure
