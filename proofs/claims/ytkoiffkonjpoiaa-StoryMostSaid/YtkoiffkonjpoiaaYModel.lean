/- Plain lemmas on the model: its check at the start, and what its numbers are bounded by. No memory in it. -/
import Derived.Test.YtkoiffkonjpoiaaQM2
namespace Go.Proofs.Ytkoiffkonjpoiaa.Y
open Go.RowKit Go.Proofs.Ytkoiffkonjpoiaa.Q Go.Proofs.YtkoiffkonjpoiaaW.PrintWords Go.Proofs.YtkoiffkonjpoiaaW.PrintLast Go.Proofs.YtkoiffkonjpoiaaW.PrintMore
end Go.Proofs.Ytkoiffkonjpoiaa.Y
