/- Plain law: MovesRefuse is true at every moves and every scratch place. -/
import Derived.Test.YtcfomfcalpnbcaaMy
namespace Go.Proofs.Ytcfomfcalpnbcaa.Pure
open Go.RowKit Go.Proofs.Ytcfomfcalpnbcaa.PG Go.Proofs.YtcfomfcalpnbcaaW.PrintWords Go.Proofs.YtcfomfcalpnbcaaW.PrintLast
theorem MovesRefuse (l : List S30) (hw : ∀ y ∈ l, (Lit.int .i64 y.f0).wf = true ∧ (Lit.int .i64 y.f1).wf = true) (sc : Int) (_ : (Lit.int .i64 sc).wf = true) : ∃ k, ratlinelaw19_MovesRefuse.f k l sc = some true := (Mv.refuse l hw sc).rounds
end Go.Proofs.Ytcfomfcalpnbcaa.Pure
