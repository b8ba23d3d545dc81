/-
  No cell of these rows narrows 'for every input' (looked for: loops, veiled, ifaces, maps, wideKeys, modest, calm, conditions, laid).
  DERIVED. THE GIVEN ROWS OF THIS SEAT. 6 by the template 'for every input the law returns true; each argument reads behind the call as it read before'; 0 by the template 'total and deterministic' (their statements: YtjflddnmkajleaaTotals.lean).
  GIVEN WITH THE SEED: the statements are not yours to turn. If you find one false, say at which input.
  Laid BY PROGRAM, IN A SANDBOX (cutbox-rows.mjs): the forced cells as the released guide's own fill.sh prints them over the translation a69b84710cbf1e5a… (all of the seat's roots in one cut). By AI agents, Wed Nov 11 2026. No macro, syntax, notation, axiom, sorry.
-/
import Derived.Test.YtjflddnmkajleaaChecked
import GoSem.Claim
import GoSem.ClaimJoined
import GoSem.ClaimMapViews
import Derived.JoinedTies
import Derived.KernelRfl
namespace Go.Proofs.Ytjflddnmkajleaa
/- THE CELL 'sum', in the pinned program and in every row, IS THE sha256 OF THE DUMP (.gsa) THAT YtjflddnmkajleaaProg.lean LOADS. Nothing in Lean hashes anything: it is a label: what it is worth is what the hold of that sum in a sandbox is worth. -/
noncomputable def Try.pinned : Pinned := { name := "ytjflddnmkajleaa", sum := "a69b84710cbf1e5a805d06348e2c7c451c0f41fc9520ed3343fc77a73da22a8b", checked := Try.checked }
namespace Rows
def none {H : Type} : Left H := { results := [], args := [] }

/-- 'ratlinelaw10.GraphDoms': WHATEVER THE INPUT: true; the input reads as it did. -/
def graphDomsSpec : ChangeSpec := { name := "graphDoms", fn := fun _ => fun
  | [d1, d2, d3] => { results := [.lit (.bool true)], args := [d1, d2, d3] }
  | _ => none }
def graphDomsRow : OpenClaim := { program := "ytjflddnmkajleaa", sum := "a69b84710cbf1e5a805d06348e2c7c451c0f41fc9520ed3343fc77a73da22a8b", func := "ratline/ratlinelaw10.GraphDoms", spec := "graphDoms", apart := false }
def GraphDomsSaid : Prop := graphDomsRow.holds Try.pinned (OpenSpec.ofChange graphDomsSpec)

/-- ITS FALSE NEIGHBOUR: 'it returns false'. Refute it at one input. -/
def graphDomsWrong : ChangeSpec := { name := "graphDoms", fn := fun _ => fun
  | [d1, d2, d3] => { results := [.lit (.bool false)], args := [d1, d2, d3] }
  | _ => none }
def GraphDomsWrongFalsely : Prop := graphDomsRow.holds Try.pinned (OpenSpec.ofChange graphDomsWrong)

/-- 'ratlinelaw10.GraphNests': WHATEVER THE INPUT: true; the input reads as it did. -/
def graphNestsSpec : ChangeSpec := { name := "graphNests", fn := fun _ => fun
  | [d] => { results := [.lit (.bool true)], args := [d] }
  | _ => none }
def graphNestsRow : OpenClaim := { program := "ytjflddnmkajleaa", sum := "a69b84710cbf1e5a805d06348e2c7c451c0f41fc9520ed3343fc77a73da22a8b", func := "ratline/ratlinelaw10.GraphNests", spec := "graphNests", apart := false }
def GraphNestsSaid : Prop := graphNestsRow.holds Try.pinned (OpenSpec.ofChange graphNestsSpec)

/-- ITS FALSE NEIGHBOUR: 'it returns false'. Refute it at one input. -/
def graphNestsWrong : ChangeSpec := { name := "graphNests", fn := fun _ => fun
  | [d] => { results := [.lit (.bool false)], args := [d] }
  | _ => none }
def GraphNestsWrongFalsely : Prop := graphNestsRow.holds Try.pinned (OpenSpec.ofChange graphNestsWrong)

/-- 'ratlinelaw10.GraphWays': WHATEVER THE INPUT: true; the input reads as it did. -/
def graphWaysSpec : ChangeSpec := { name := "graphWays", fn := fun _ => fun
  | [d] => { results := [.lit (.bool true)], args := [d] }
  | _ => none }
def graphWaysRow : OpenClaim := { program := "ytjflddnmkajleaa", sum := "a69b84710cbf1e5a805d06348e2c7c451c0f41fc9520ed3343fc77a73da22a8b", func := "ratline/ratlinelaw10.GraphWays", spec := "graphWays", recurses := true, apart := false }
def GraphWaysSaid : Prop := graphWaysRow.holds Try.pinned (OpenSpec.ofChange graphWaysSpec)

/-- ITS FALSE NEIGHBOUR: 'it returns false'. Refute it at one input. -/
def graphWaysWrong : ChangeSpec := { name := "graphWays", fn := fun _ => fun
  | [d] => { results := [.lit (.bool false)], args := [d] }
  | _ => none }
def GraphWaysWrongFalsely : Prop := graphWaysRow.holds Try.pinned (OpenSpec.ofChange graphWaysWrong)

/-- 'ratlinelaw10.GraphCircles': WHATEVER THE INPUT: true; the input reads as it did. -/
def graphCirclesSpec : ChangeSpec := { name := "graphCircles", fn := fun _ => fun
  | [d1, d2] => { results := [.lit (.bool true)], args := [d1, d2] }
  | _ => none }
def graphCirclesRow : OpenClaim := { program := "ytjflddnmkajleaa", sum := "a69b84710cbf1e5a805d06348e2c7c451c0f41fc9520ed3343fc77a73da22a8b", func := "ratline/ratlinelaw10.GraphCircles", spec := "graphCircles", unfollowed := true, recurses := true, apart := false }
def GraphCirclesSaid : Prop := graphCirclesRow.holds Try.pinned (OpenSpec.ofChange graphCirclesSpec)

/-- ITS FALSE NEIGHBOUR: 'it returns false'. Refute it at one input. -/
def graphCirclesWrong : ChangeSpec := { name := "graphCircles", fn := fun _ => fun
  | [d1, d2] => { results := [.lit (.bool false)], args := [d1, d2] }
  | _ => none }
def GraphCirclesWrongFalsely : Prop := graphCirclesRow.holds Try.pinned (OpenSpec.ofChange graphCirclesWrong)

/-- 'ratlinelaw10.GraphTrees': WHATEVER THE INPUT: true; the input reads as it did. -/
def graphTreesSpec : ChangeSpec := { name := "graphTrees", fn := fun _ => fun
  | [d] => { results := [.lit (.bool true)], args := [d] }
  | _ => none }
def graphTreesRow : OpenClaim := { program := "ytjflddnmkajleaa", sum := "a69b84710cbf1e5a805d06348e2c7c451c0f41fc9520ed3343fc77a73da22a8b", func := "ratline/ratlinelaw10.GraphTrees", spec := "graphTrees", unfollowed := true, recurses := true, apart := false }
def GraphTreesSaid : Prop := graphTreesRow.holds Try.pinned (OpenSpec.ofChange graphTreesSpec)

/-- ITS FALSE NEIGHBOUR: 'it returns false'. Refute it at one input. -/
def graphTreesWrong : ChangeSpec := { name := "graphTrees", fn := fun _ => fun
  | [d] => { results := [.lit (.bool false)], args := [d] }
  | _ => none }
def GraphTreesWrongFalsely : Prop := graphTreesRow.holds Try.pinned (OpenSpec.ofChange graphTreesWrong)

/-- 'ratlinelaw10.GraphLines': WHATEVER THE INPUT: true; the input reads as it did. -/
def graphLinesSpec : ChangeSpec := { name := "graphLines", fn := fun _ => fun
  | [d1, d2, d3] => { results := [.lit (.bool true)], args := [d1, d2, d3] }
  | _ => none }
def graphLinesRow : OpenClaim := { program := "ytjflddnmkajleaa", sum := "a69b84710cbf1e5a805d06348e2c7c451c0f41fc9520ed3343fc77a73da22a8b", func := "ratline/ratlinelaw10.GraphLines", spec := "graphLines", unfollowed := true, recurses := true, apart := false }
def GraphLinesSaid : Prop := graphLinesRow.holds Try.pinned (OpenSpec.ofChange graphLinesSpec)

/-- ITS FALSE NEIGHBOUR: 'it returns false'. Refute it at one input. -/
def graphLinesWrong : ChangeSpec := { name := "graphLines", fn := fun _ => fun
  | [d1, d2, d3] => { results := [.lit (.bool false)], args := [d1, d2, d3] }
  | _ => none }
def GraphLinesWrongFalsely : Prop := graphLinesRow.holds Try.pinned (OpenSpec.ofChange graphLinesWrong)

/- THE SECOND FORM. 'bulk': how many values and letters a reading holds, each counted each time it is reached (what is shared counts as often as it is met; a slice's spare places count too). A statement '..UptoSaid' is the law's where the arguments, and the package variables that the reading takes, are together of bulk at most 1048576: NARROWER than '..Said'. Prove '..Said' where nothing that the law and all that it calls make is longer than what came in: it says more and counts as full. Else prove '..UptoSaid'. A law counts once. -/
mutual
def uptoBulk {H : Type} : DataW H → Nat
  | .lit (.string bytes) => bytes.length + 1
  | .lit _ => 1
  | .nil => 1
  | .ptr d => uptoBulk d + 1
  | .slice elems spare => uptoBulkAll elems + uptoBulkAll spare + 1
  | .agg parts => uptoBulkAll parts + 1
  | .iface _ d => uptoBulk d + 1
  | .map entries => uptoBulkEntries entries + 1
  | .held _ => 1
def uptoBulkAll {H : Type} : List (DataW H) → Nat
  | [] => 0
  | d :: r => uptoBulk d + uptoBulkAll r
def uptoBulkEntries {H : Type} : List (Lit × DataW H) → Nat
  | [] => 0
  | x :: r => uptoBulkEntry x + uptoBulkEntries r
def uptoBulkEntry {H : Type} : Lit × DataW H → Nat
  | (.string bytes, d) => bytes.length + uptoBulk d + 1
  | (_, d) => uptoBulk d + 1
 end
def uptoSmall : (H : Type) → List (DataW H) → Bool := fun _ ds => decide (uptoBulkAll ds ≤ 1048576)
def OpenSpec.upto (s : _root_.Go.ChangeSpec) : _root_.Go.OpenSpec := { _root_.Go.OpenSpec.ofChange s with cond := some uptoSmall }

/-- 'ratlinelaw10.GraphDoms', WHERE WHAT IT READS IS OF BULK AT MOST 1048576: true; the input reads as it did. -/
def graphDomsUptoRow : OpenClaim := { program := "ytjflddnmkajleaa", sum := "a69b84710cbf1e5a805d06348e2c7c451c0f41fc9520ed3343fc77a73da22a8b", func := "ratline/ratlinelaw10.GraphDoms", spec := "graphDoms", apart := false, narrowed := true }
def GraphDomsUptoSaid : Prop := graphDomsUptoRow.holds Try.pinned (OpenSpec.upto graphDomsSpec)

/-- 'ratlinelaw10.GraphNests', WHERE WHAT IT READS IS OF BULK AT MOST 1048576: true; the input reads as it did. -/
def graphNestsUptoRow : OpenClaim := { program := "ytjflddnmkajleaa", sum := "a69b84710cbf1e5a805d06348e2c7c451c0f41fc9520ed3343fc77a73da22a8b", func := "ratline/ratlinelaw10.GraphNests", spec := "graphNests", apart := false, narrowed := true }
def GraphNestsUptoSaid : Prop := graphNestsUptoRow.holds Try.pinned (OpenSpec.upto graphNestsSpec)

/-- 'ratlinelaw10.GraphWays', WHERE WHAT IT READS IS OF BULK AT MOST 1048576: true; the input reads as it did. -/
def graphWaysUptoRow : OpenClaim := { program := "ytjflddnmkajleaa", sum := "a69b84710cbf1e5a805d06348e2c7c451c0f41fc9520ed3343fc77a73da22a8b", func := "ratline/ratlinelaw10.GraphWays", spec := "graphWays", recurses := true, apart := false, narrowed := true }
def GraphWaysUptoSaid : Prop := graphWaysUptoRow.holds Try.pinned (OpenSpec.upto graphWaysSpec)

/-- 'ratlinelaw10.GraphCircles', WHERE WHAT IT READS IS OF BULK AT MOST 1048576: true; the input reads as it did. -/
def graphCirclesUptoRow : OpenClaim := { program := "ytjflddnmkajleaa", sum := "a69b84710cbf1e5a805d06348e2c7c451c0f41fc9520ed3343fc77a73da22a8b", func := "ratline/ratlinelaw10.GraphCircles", spec := "graphCircles", unfollowed := true, recurses := true, apart := false, narrowed := true }
def GraphCirclesUptoSaid : Prop := graphCirclesUptoRow.holds Try.pinned (OpenSpec.upto graphCirclesSpec)

/-- 'ratlinelaw10.GraphTrees', WHERE WHAT IT READS IS OF BULK AT MOST 1048576: true; the input reads as it did. -/
def graphTreesUptoRow : OpenClaim := { program := "ytjflddnmkajleaa", sum := "a69b84710cbf1e5a805d06348e2c7c451c0f41fc9520ed3343fc77a73da22a8b", func := "ratline/ratlinelaw10.GraphTrees", spec := "graphTrees", unfollowed := true, recurses := true, apart := false, narrowed := true }
def GraphTreesUptoSaid : Prop := graphTreesUptoRow.holds Try.pinned (OpenSpec.upto graphTreesSpec)

/-- 'ratlinelaw10.GraphLines', WHERE WHAT IT READS IS OF BULK AT MOST 1048576: true; the input reads as it did. -/
def graphLinesUptoRow : OpenClaim := { program := "ytjflddnmkajleaa", sum := "a69b84710cbf1e5a805d06348e2c7c451c0f41fc9520ed3343fc77a73da22a8b", func := "ratline/ratlinelaw10.GraphLines", spec := "graphLines", unfollowed := true, recurses := true, apart := false, narrowed := true }
def GraphLinesUptoSaid : Prop := graphLinesUptoRow.holds Try.pinned (OpenSpec.upto graphLinesSpec)

end Rows
end Go.Proofs.Ytjflddnmkajleaa
