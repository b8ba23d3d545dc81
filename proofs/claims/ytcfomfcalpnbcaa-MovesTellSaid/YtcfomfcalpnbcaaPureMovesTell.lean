/- Plain law: MovesTell is true at every moves and places. -/
import Derived.Test.YtcfomfcalpnbcaaMu
namespace Go.Proofs.Ytcfomfcalpnbcaa.Pure
open Go.RowKit Go.Proofs.Ytcfomfcalpnbcaa.PG Go.Proofs.YtcfomfcalpnbcaaW.PrintWords Go.Proofs.YtcfomfcalpnbcaaW.PrintLast
theorem MovesTell (l : List S30) (hw : ∀ y ∈ l, (Lit.int .i64 y.f0).wf = true ∧ (Lit.int .i64 y.f1).wf = true) (at_ : List Int) : ∃ k, ratlinelaw19_MovesTell.f k l at_ = some true := (Mv.tell l hw at_).rounds
end Go.Proofs.Ytcfomfcalpnbcaa.Pure
