/- The seat's own types of arguments, each as what it reads as. -/
import Derived.Test.YtkoiffkonjpoiaaXArgs
import Derived.Test.YtkoiffkonjpoiaaQ0
import Derived.KernelRfl
namespace Go.Proofs.Ytkoiffkonjpoiaa.X
open Go.RowKit Go.Proofs.YtkoiffkonjpoiaaX Go.Proofs.YtkoiffkonjpoiaaW.PrintWords Go.Proofs.YtkoiffkonjpoiaaW.PrintMore
abbrev wf (n : Int) : Prop := (Lit.int .i64 n).wf = true
abbrev wf8 (n : Int) : Prop := (Lit.int .u8 n).wf = true
def ok40 (x : Q.S40) : Prop := wf x.f0 ∧ wf x.f1
theorem rd2 : Rd Try.prog 2 (Kd.int .i64) wf := Rd.int Try.underlying2
theorem rd4 : Rd Try.prog 4 Kd.bool (fun _ => True) := Rd.bool Try.underlying4
theorem rd40 : Rd Try.prog 40 Q.k40 ok40 :=
  Rd.iso (fun p => ⟨p.1, p.2⟩) (fun _ => rfl) (Rd.struct Try.underlying40 (by kernel_rfl) (RdF.cons rfl (by kernel_rfl) rd2 (RdF.one rfl (by kernel_rfl) rd2)))
end Go.Proofs.Ytkoiffkonjpoiaa.X
