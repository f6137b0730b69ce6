import Derived.Test.YtkoiffkonjpoiaaWInv
import Derived.Test.YtkoiffkonjpoiaaWFootNe
namespace Go.Proofs.YtkoiffkonjpoiaaW.PrintWords
open Go.RowKit
end Go.Proofs.YtkoiffkonjpoiaaW.PrintWords
namespace Go.Proofs.YtkoiffkonjpoiaaW.PrintLast
section
variable {ops : Array Oper} {a : Act} {o og : Oper} {g : Nat} {t : Tmp} {u : Bool}
end
end Go.Proofs.YtkoiffkonjpoiaaW.PrintLast
