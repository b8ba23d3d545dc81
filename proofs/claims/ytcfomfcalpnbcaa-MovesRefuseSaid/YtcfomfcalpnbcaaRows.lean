/-
  No cell of these rows narrows 'for every input' (looked for: loops, veiled, ifaces, maps, wideKeys, modest, calm, conditions, laid).
  DERIVED. THE GIVEN ROWS OF THIS SEAT. 3 by the template 'for every input the law returns true; each argument reads behind the call as it read before'; 0 by the template 'total and deterministic' (their statements: YtcfomfcalpnbcaaTotals.lean).
  GIVEN WITH THE SEED: the statements are not yours to turn. If you find one false, say at which input.
  Laid BY PROGRAM, IN A SANDBOX (cutbox-rows.mjs): the forced cells as the released guide's own fill.sh prints them over the translation 1fa769c6a5de58cf… (all of the seat's roots in one cut). By AI agents, Wed Nov 11 2026. No macro, syntax, notation, axiom, sorry.
-/
import Derived.Test.YtcfomfcalpnbcaaChecked
import GoSem.Claim
import GoSem.ClaimJoined
import GoSem.ClaimMapViews
import Derived.JoinedTies
import Derived.KernelRfl
namespace Go.Proofs.Ytcfomfcalpnbcaa
/- THE CELL 'sum', in the pinned program and in every row, IS THE sha256 OF THE DUMP (.gsa) THAT YtcfomfcalpnbcaaProg.lean LOADS. Nothing in Lean hashes anything: it is a label: what it is worth is what the hold of that sum in a sandbox is worth. -/
noncomputable def Try.pinned : Pinned := { name := "ytcfomfcalpnbcaa", sum := "1fa769c6a5de58cf89b43d21b40339aa2bb6b1bdfe2dc9e12f5396e5fcdb5627", checked := Try.checked }
namespace Rows
def none {H : Type} : Left H := { results := [], args := [] }

/-- 'ratlinelaw19.MovesRefuse': WHATEVER THE INPUT: true; the input reads as it did. -/
def movesRefuseSpec : ChangeSpec := { name := "movesRefuse", fn := fun _ => fun
  | [d1, d2] => { results := [.lit (.bool true)], args := [d1, d2] }
  | _ => none }
def movesRefuseRow : OpenClaim := { program := "ytcfomfcalpnbcaa", sum := "1fa769c6a5de58cf89b43d21b40339aa2bb6b1bdfe2dc9e12f5396e5fcdb5627", func := "ratline/ratlinelaw19.MovesRefuse", spec := "movesRefuse", unfollowed := true, recurses := true, apart := false }
def MovesRefuseSaid : Prop := movesRefuseRow.holds Try.pinned (OpenSpec.ofChange movesRefuseSpec)

/-- ITS FALSE NEIGHBOUR: 'it returns false'. Refute it at one input. -/
def movesRefuseWrong : ChangeSpec := { name := "movesRefuse", fn := fun _ => fun
  | [d1, d2] => { results := [.lit (.bool false)], args := [d1, d2] }
  | _ => none }
def MovesRefuseWrongFalsely : Prop := movesRefuseRow.holds Try.pinned (OpenSpec.ofChange movesRefuseWrong)

/-- 'ratlinelaw19.MovesCircles': WHATEVER THE INPUT: true; the input reads as it did. -/
def movesCirclesSpec : ChangeSpec := { name := "movesCircles", fn := fun _ => fun
  | [d1, d2] => { results := [.lit (.bool true)], args := [d1, d2] }
  | _ => none }
def movesCirclesRow : OpenClaim := { program := "ytcfomfcalpnbcaa", sum := "1fa769c6a5de58cf89b43d21b40339aa2bb6b1bdfe2dc9e12f5396e5fcdb5627", func := "ratline/ratlinelaw19.MovesCircles", spec := "movesCircles", unfollowed := true, recurses := true, apart := false }
def MovesCirclesSaid : Prop := movesCirclesRow.holds Try.pinned (OpenSpec.ofChange movesCirclesSpec)

/-- ITS FALSE NEIGHBOUR: 'it returns false'. Refute it at one input. -/
def movesCirclesWrong : ChangeSpec := { name := "movesCircles", fn := fun _ => fun
  | [d1, d2] => { results := [.lit (.bool false)], args := [d1, d2] }
  | _ => none }
def MovesCirclesWrongFalsely : Prop := movesCirclesRow.holds Try.pinned (OpenSpec.ofChange movesCirclesWrong)

/-- 'ratlinelaw19.MovesTell': WHATEVER THE INPUT: true; the input reads as it did. -/
def movesTellSpec : ChangeSpec := { name := "movesTell", fn := fun _ => fun
  | [d1, d2] => { results := [.lit (.bool true)], args := [d1, d2] }
  | _ => none }
def movesTellRow : OpenClaim := { program := "ytcfomfcalpnbcaa", sum := "1fa769c6a5de58cf89b43d21b40339aa2bb6b1bdfe2dc9e12f5396e5fcdb5627", func := "ratline/ratlinelaw19.MovesTell", spec := "movesTell", unfollowed := true, recurses := true, apart := false }
def MovesTellSaid : Prop := movesTellRow.holds Try.pinned (OpenSpec.ofChange movesTellSpec)

/-- ITS FALSE NEIGHBOUR: 'it returns false'. Refute it at one input. -/
def movesTellWrong : ChangeSpec := { name := "movesTell", fn := fun _ => fun
  | [d1, d2] => { results := [.lit (.bool false)], args := [d1, d2] }
  | _ => none }
def MovesTellWrongFalsely : Prop := movesTellRow.holds Try.pinned (OpenSpec.ofChange movesTellWrong)

/- THE SECOND FORM. 'bulk': how many values and letters a reading holds, each counted each time it is reached (what is shared counts as often as it is met; a slice's spare places count too). A statement '..UptoSaid' is the law's where the arguments, and the package variables that the reading takes, are together of bulk at most 1048576: NARROWER than '..Said'. Prove '..Said' where nothing that the law and all that it calls make is longer than what came in: it says more and counts as full. Else prove '..UptoSaid'. A law counts once. -/
mutual
def uptoBulk {H : Type} : DataW H → Nat
  | .lit (.string bytes) => bytes.length + 1
  | .lit _ => 1
  | .nil => 1
  | .ptr d => uptoBulk d + 1
  | .slice elems spare => uptoBulkAll elems + uptoBulkAll spare + 1
  | .agg parts => uptoBulkAll parts + 1
  | .iface _ d => uptoBulk d + 1
  | .map entries => uptoBulkEntries entries + 1
  | .held _ => 1
def uptoBulkAll {H : Type} : List (DataW H) → Nat
  | [] => 0
  | d :: r => uptoBulk d + uptoBulkAll r
def uptoBulkEntries {H : Type} : List (Lit × DataW H) → Nat
  | [] => 0
  | x :: r => uptoBulkEntry x + uptoBulkEntries r
def uptoBulkEntry {H : Type} : Lit × DataW H → Nat
  | (.string bytes, d) => bytes.length + uptoBulk d + 1
  | (_, d) => uptoBulk d + 1
 end
def uptoSmall : (H : Type) → List (DataW H) → Bool := fun _ ds => decide (uptoBulkAll ds ≤ 1048576)
def OpenSpec.upto (s : _root_.Go.ChangeSpec) : _root_.Go.OpenSpec := { _root_.Go.OpenSpec.ofChange s with cond := some uptoSmall }

/-- 'ratlinelaw19.MovesRefuse', WHERE WHAT IT READS IS OF BULK AT MOST 1048576: true; the input reads as it did. -/
def movesRefuseUptoRow : OpenClaim := { program := "ytcfomfcalpnbcaa", sum := "1fa769c6a5de58cf89b43d21b40339aa2bb6b1bdfe2dc9e12f5396e5fcdb5627", func := "ratline/ratlinelaw19.MovesRefuse", spec := "movesRefuse", unfollowed := true, recurses := true, apart := false, narrowed := true }
def MovesRefuseUptoSaid : Prop := movesRefuseUptoRow.holds Try.pinned (OpenSpec.upto movesRefuseSpec)

/-- 'ratlinelaw19.MovesCircles', WHERE WHAT IT READS IS OF BULK AT MOST 1048576: true; the input reads as it did. -/
def movesCirclesUptoRow : OpenClaim := { program := "ytcfomfcalpnbcaa", sum := "1fa769c6a5de58cf89b43d21b40339aa2bb6b1bdfe2dc9e12f5396e5fcdb5627", func := "ratline/ratlinelaw19.MovesCircles", spec := "movesCircles", unfollowed := true, recurses := true, apart := false, narrowed := true }
def MovesCirclesUptoSaid : Prop := movesCirclesUptoRow.holds Try.pinned (OpenSpec.upto movesCirclesSpec)

/-- 'ratlinelaw19.MovesTell', WHERE WHAT IT READS IS OF BULK AT MOST 1048576: true; the input reads as it did. -/
def movesTellUptoRow : OpenClaim := { program := "ytcfomfcalpnbcaa", sum := "1fa769c6a5de58cf89b43d21b40339aa2bb6b1bdfe2dc9e12f5396e5fcdb5627", func := "ratline/ratlinelaw19.MovesTell", spec := "movesTell", unfollowed := true, recurses := true, apart := false, narrowed := true }
def MovesTellUptoSaid : Prop := movesTellUptoRow.holds Try.pinned (OpenSpec.upto movesTellSpec)

end Rows
end Go.Proofs.Ytcfomfcalpnbcaa
