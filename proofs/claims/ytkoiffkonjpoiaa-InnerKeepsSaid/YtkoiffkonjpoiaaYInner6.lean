/- Plain lemmas on the inner page: which way a key goes in a part of a page. No memory in it. -/
import Derived.Test.YtkoiffkonjpoiaaYInner2B
namespace Go.Proofs.Ytkoiffkonjpoiaa.Y
open Go.RowKit Go.Proofs.Ytkoiffkonjpoiaa.Q Go.Proofs.YtkoiffkonjpoiaaW.PrintWords Go.Proofs.YtkoiffkonjpoiaaW.PrintLast Go.Proofs.YtkoiffkonjpoiaaW.PrintMore
set_option linter.unusedVariables false
end Go.Proofs.Ytkoiffkonjpoiaa.Y
