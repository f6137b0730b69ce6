/- The seat's own types of arguments, each as what it reads as. -/
import Derived.Test.YtkoiffkonjpoiaaXArgs
import Derived.Test.YtkoiffkonjpoiaaQ0
import Derived.KernelRfl
namespace Go.Proofs.Ytkoiffkonjpoiaa.X
open Go.RowKit Go.Proofs.YtkoiffkonjpoiaaX Go.Proofs.YtkoiffkonjpoiaaW.PrintWords Go.Proofs.YtkoiffkonjpoiaaW.PrintMore
abbrev wf (n : Int) : Prop := (Lit.int .i64 n).wf = true
end Go.Proofs.Ytkoiffkonjpoiaa.X
