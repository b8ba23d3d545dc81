/- The law MovesCircles at the lengths 2 to 17: each shape is computed. -/
import Derived.Test.YtcfomfcalpnbcaaPGx10
namespace Go.Proofs.Ytcfomfcalpnbcaa.Pure
open Go.RowKit Go.Proofs.Ytcfomfcalpnbcaa.PG Go.Proofs.YtcfomfcalpnbcaaW.PrintWords Go.Proofs.YtcfomfcalpnbcaaW.PrintLast
theorem c2 : ∀ m : Fin 8, ratlinelaw19_MovesCircles.l0 2000 ((2 : Nat) : Int) ((m.val : Nat) : Int) [] 0 = some true := by decide +kernel
theorem c3 : ∀ m : Fin 8, ratlinelaw19_MovesCircles.l0 2000 ((3 : Nat) : Int) ((m.val : Nat) : Int) [] 0 = some true := by decide +kernel
theorem c4 : ∀ m : Fin 8, ratlinelaw19_MovesCircles.l0 2000 ((4 : Nat) : Int) ((m.val : Nat) : Int) [] 0 = some true := by decide +kernel
theorem c5 : ∀ m : Fin 8, ratlinelaw19_MovesCircles.l0 2000 ((5 : Nat) : Int) ((m.val : Nat) : Int) [] 0 = some true := by decide +kernel
theorem c6 : ∀ m : Fin 8, ratlinelaw19_MovesCircles.l0 2000 ((6 : Nat) : Int) ((m.val : Nat) : Int) [] 0 = some true := by decide +kernel
theorem c7 : ∀ m : Fin 8, ratlinelaw19_MovesCircles.l0 2000 ((7 : Nat) : Int) ((m.val : Nat) : Int) [] 0 = some true := by decide +kernel
theorem c8 : ∀ m : Fin 8, ratlinelaw19_MovesCircles.l0 2000 ((8 : Nat) : Int) ((m.val : Nat) : Int) [] 0 = some true := by decide +kernel
theorem c9 : ∀ m : Fin 8, ratlinelaw19_MovesCircles.l0 2000 ((9 : Nat) : Int) ((m.val : Nat) : Int) [] 0 = some true := by decide +kernel
theorem c10 : ∀ m : Fin 8, ratlinelaw19_MovesCircles.l0 2000 ((10 : Nat) : Int) ((m.val : Nat) : Int) [] 0 = some true := by decide +kernel
theorem c11 : ∀ m : Fin 8, ratlinelaw19_MovesCircles.l0 2000 ((11 : Nat) : Int) ((m.val : Nat) : Int) [] 0 = some true := by decide +kernel
theorem c12 : ∀ m : Fin 8, ratlinelaw19_MovesCircles.l0 2000 ((12 : Nat) : Int) ((m.val : Nat) : Int) [] 0 = some true := by decide +kernel
theorem c13 : ∀ m : Fin 8, ratlinelaw19_MovesCircles.l0 2000 ((13 : Nat) : Int) ((m.val : Nat) : Int) [] 0 = some true := by decide +kernel
theorem c14 : ∀ m : Fin 8, ratlinelaw19_MovesCircles.l0 2000 ((14 : Nat) : Int) ((m.val : Nat) : Int) [] 0 = some true := by decide +kernel
theorem c15 : ∀ m : Fin 8, ratlinelaw19_MovesCircles.l0 2000 ((15 : Nat) : Int) ((m.val : Nat) : Int) [] 0 = some true := by decide +kernel
theorem c16 : ∀ m : Fin 8, ratlinelaw19_MovesCircles.l0 2000 ((16 : Nat) : Int) ((m.val : Nat) : Int) [] 0 = some true := by decide +kernel
theorem c17 : ∀ m : Fin 8, ratlinelaw19_MovesCircles.l0 2000 ((17 : Nat) : Int) ((m.val : Nat) : Int) [] 0 = some true := by decide +kernel
end Go.Proofs.Ytcfomfcalpnbcaa.Pure
