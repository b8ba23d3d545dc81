/- The law MovesCircles at the lengths 25 to 30: each shape is computed. -/
import Derived.Test.YtcfomfcalpnbcaaPGx10
namespace Go.Proofs.Ytcfomfcalpnbcaa.Pure
open Go.RowKit Go.Proofs.Ytcfomfcalpnbcaa.PG Go.Proofs.YtcfomfcalpnbcaaW.PrintWords Go.Proofs.YtcfomfcalpnbcaaW.PrintLast
theorem c25 : ∀ m : Fin 8, ratlinelaw19_MovesCircles.l0 2000 ((25 : Nat) : Int) ((m.val : Nat) : Int) [] 0 = some true := by decide +kernel
theorem c26 : ∀ m : Fin 8, ratlinelaw19_MovesCircles.l0 2000 ((26 : Nat) : Int) ((m.val : Nat) : Int) [] 0 = some true := by decide +kernel
theorem c27 : ∀ m : Fin 8, ratlinelaw19_MovesCircles.l0 2000 ((27 : Nat) : Int) ((m.val : Nat) : Int) [] 0 = some true := by decide +kernel
theorem c28 : ∀ m : Fin 8, ratlinelaw19_MovesCircles.l0 2000 ((28 : Nat) : Int) ((m.val : Nat) : Int) [] 0 = some true := by decide +kernel
theorem c29 : ∀ m : Fin 8, ratlinelaw19_MovesCircles.l0 2000 ((29 : Nat) : Int) ((m.val : Nat) : Int) [] 0 = some true := by decide +kernel
theorem c30 : ∀ m : Fin 8, ratlinelaw19_MovesCircles.l0 2000 ((30 : Nat) : Int) ((m.val : Nat) : Int) [] 0 = some true := by decide +kernel
end Go.Proofs.Ytcfomfcalpnbcaa.Pure
