/- The seat's own types of arguments, each as what it reads as. -/
import Derived.Test.YtkoiffkonjpoiaaXArgs
import Derived.Test.YtkoiffkonjpoiaaQ0
import Derived.KernelRfl
namespace Go.Proofs.Ytkoiffkonjpoiaa.X
open Go.RowKit Go.Proofs.YtkoiffkonjpoiaaX Go.Proofs.YtkoiffkonjpoiaaW.PrintWords Go.Proofs.YtkoiffkonjpoiaaW.PrintMore
abbrev wf (n : Int) : Prop := (Lit.int .i64 n).wf = true
abbrev wf8 (n : Int) : Prop := (Lit.int .u8 n).wf = true
def ok78 (x : Q.S78) : Prop := wf8 x.f0 ∧ wf x.f1 ∧ wf x.f2 ∧ wf x.f3
theorem rd2 : Rd Try.prog 2 (Kd.int .i64) wf := Rd.int Try.underlying2
theorem rd76 : Rd Try.prog 76 (Kd.int .u8) wf8 := Rd.int Try.underlying76
theorem rd78 : Rd Try.prog 78 Q.k78 ok78 :=
  Rd.iso (fun p => ⟨p.1, p.2.1, p.2.2.1, p.2.2.2⟩) (fun _ => rfl) (Rd.struct Try.underlying78 (by kernel_rfl) (RdF.cons rfl (by kernel_rfl) rd76 (RdF.cons rfl (by kernel_rfl) rd2 (RdF.cons rfl (by kernel_rfl) rd2 (RdF.one rfl (by kernel_rfl) rd2)))))
end Go.Proofs.Ytkoiffkonjpoiaa.X
