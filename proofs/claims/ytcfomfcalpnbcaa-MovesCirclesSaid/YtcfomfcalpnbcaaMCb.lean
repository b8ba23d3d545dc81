/- The law MovesCircles at the lengths 18 to 24: each shape is computed. -/
import Derived.Test.YtcfomfcalpnbcaaPGx10
namespace Go.Proofs.Ytcfomfcalpnbcaa.Pure
open Go.RowKit Go.Proofs.Ytcfomfcalpnbcaa.PG Go.Proofs.YtcfomfcalpnbcaaW.PrintWords Go.Proofs.YtcfomfcalpnbcaaW.PrintLast
theorem c18 : ∀ m : Fin 8, ratlinelaw19_MovesCircles.l0 2000 ((18 : Nat) : Int) ((m.val : Nat) : Int) [] 0 = some true := by decide +kernel
theorem c19 : ∀ m : Fin 8, ratlinelaw19_MovesCircles.l0 2000 ((19 : Nat) : Int) ((m.val : Nat) : Int) [] 0 = some true := by decide +kernel
theorem c20 : ∀ m : Fin 8, ratlinelaw19_MovesCircles.l0 2000 ((20 : Nat) : Int) ((m.val : Nat) : Int) [] 0 = some true := by decide +kernel
theorem c21 : ∀ m : Fin 8, ratlinelaw19_MovesCircles.l0 2000 ((21 : Nat) : Int) ((m.val : Nat) : Int) [] 0 = some true := by decide +kernel
theorem c22 : ∀ m : Fin 8, ratlinelaw19_MovesCircles.l0 2000 ((22 : Nat) : Int) ((m.val : Nat) : Int) [] 0 = some true := by decide +kernel
theorem c23 : ∀ m : Fin 8, ratlinelaw19_MovesCircles.l0 2000 ((23 : Nat) : Int) ((m.val : Nat) : Int) [] 0 = some true := by decide +kernel
theorem c24 : ∀ m : Fin 8, ratlinelaw19_MovesCircles.l0 2000 ((24 : Nat) : Int) ((m.val : Nat) : Int) [] 0 = some true := by decide +kernel
end Go.Proofs.Ytcfomfcalpnbcaa.Pure
