/- Plain lemmas on the model: its check at the start, and what its numbers are bounded by. No memory in it. -/
import Derived.Test.YtkoiffkonjpoiaaQC4
namespace Go.Proofs.Ytkoiffkonjpoiaa.Y
open Go.RowKit Go.Proofs.Ytkoiffkonjpoiaa.Q Go.Proofs.YtkoiffkonjpoiaaW.PrintWords Go.Proofs.YtkoiffkonjpoiaaW.PrintLast Go.Proofs.YtkoiffkonjpoiaaW.PrintMore
set_option maxRecDepth 100000 in
theorem Awake18 : boscagelaw18_Awake.f 40 = some true := by kernel_rfl
end Go.Proofs.Ytkoiffkonjpoiaa.Y
