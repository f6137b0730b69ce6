import Derived.SizedLaws
import Derived.ChangeSlices
namespace Go.Proofs.YtkoiffkonjpoiaaW.PrintWords
open Go.ChangeShapes Go.WideShapes
end Go.Proofs.YtkoiffkonjpoiaaW.PrintWords
