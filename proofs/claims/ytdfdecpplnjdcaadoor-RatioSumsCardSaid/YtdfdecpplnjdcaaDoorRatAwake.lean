/- The ratio chapter's own examples hold. -/
import Derived.Test.YtdfdecpplnjdcaaDoorHx8
import Derived.Test.YtdfdecpplnjdcaaDoorBase
namespace Go.Proofs.YtdfdecpplnjdcaaDoor.Rat
open Go.RowKit Go.Proofs.YtdfdecpplnjdcaaDoor.Hp Go.Proofs.YtdfdecpplnjdcaaDoorW.PrintWords Go.Proofs.YtdfdecpplnjdcaaDoorW.PrintLast Go.Proofs.YtdfdecpplnjdcaaDoorW.PrintMore
open Go.Proofs.YtdfdecpplnjdcaaDoor.Base

theorem awake_ok : ∃ K, ∀ k, K ≤ k → shapesearchlaw01_awake.f k = some true := by
  refine Ev.of (fun k => shapesearchlaw01_awake.mono k) (k := 20) ?_
  decide +kernel

end Go.Proofs.YtdfdecpplnjdcaaDoor.Rat
