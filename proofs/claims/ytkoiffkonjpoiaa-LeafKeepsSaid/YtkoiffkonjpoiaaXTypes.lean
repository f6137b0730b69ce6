/- The seat's own types of arguments, each as what it reads as. -/
import Derived.Test.YtkoiffkonjpoiaaXArgs
import Derived.Test.YtkoiffkonjpoiaaQ0
import Derived.KernelRfl
namespace Go.Proofs.Ytkoiffkonjpoiaa.X
open Go.RowKit Go.Proofs.YtkoiffkonjpoiaaX Go.Proofs.YtkoiffkonjpoiaaW.PrintWords Go.Proofs.YtkoiffkonjpoiaaW.PrintMore
abbrev wf (n : Int) : Prop := (Lit.int .i64 n).wf = true
abbrev wf8 (n : Int) : Prop := (Lit.int .u8 n).wf = true
def ok40 (x : Q.S40) : Prop := wf x.f0 ∧ wf x.f1
def ok73 (x : Q.S73) : Prop := True ∧ wf x.f1 ∧ wf x.f2
def ok78 (x : Q.S78) : Prop := wf8 x.f0 ∧ wf x.f1 ∧ wf x.f2 ∧ wf x.f3
def ok26 (x : Q.S26) : Prop := (x.f0.length ≤ 9223372036854775807 ∧ ∀ y ∈ x.f0, wf y) ∧ (x.f1.length ≤ 9223372036854775807 ∧ ∀ y ∈ x.f1, wf y)
theorem rd2 : Rd Try.prog 2 (Kd.int .i64) wf := Rd.int Try.underlying2
theorem rd76 : Rd Try.prog 76 (Kd.int .u8) wf8 := Rd.int Try.underlying76
theorem rd47 : Rd Try.prog 47 (Kd.int .i64) wf := Rd.int Try.underlying47
theorem rd4 : Rd Try.prog 4 Kd.bool (fun _ => True) := Rd.bool Try.underlying4
theorem rd40 : Rd Try.prog 40 Q.k40 ok40 :=
  Rd.iso (fun p => ⟨p.1, p.2⟩) (fun _ => rfl) (Rd.struct Try.underlying40 (by kernel_rfl) (RdF.cons rfl (by kernel_rfl) rd2 (RdF.one rfl (by kernel_rfl) rd2)))
theorem rd73 : Rd Try.prog 73 Q.k73 ok73 :=
  Rd.iso (fun p => ⟨p.1, p.2.1, p.2.2⟩) (fun _ => rfl) (Rd.struct Try.underlying73 (by kernel_rfl) (RdF.cons rfl (by kernel_rfl) rd4 (RdF.cons rfl (by kernel_rfl) rd2 (RdF.one rfl (by kernel_rfl) rd2))))
theorem rd78 : Rd Try.prog 78 Q.k78 ok78 :=
  Rd.iso (fun p => ⟨p.1, p.2.1, p.2.2.1, p.2.2.2⟩) (fun _ => rfl) (Rd.struct Try.underlying78 (by kernel_rfl) (RdF.cons rfl (by kernel_rfl) rd76 (RdF.cons rfl (by kernel_rfl) rd2 (RdF.cons rfl (by kernel_rfl) rd2 (RdF.one rfl (by kernel_rfl) rd2)))))
theorem rd26 : Rd Try.prog 26 Q.k26 ok26 :=
  Rd.iso (fun p => ⟨p.1, p.2⟩) (fun _ => rfl) (Rd.struct Try.underlying26 (by kernel_rfl) (RdF.cons rfl (by kernel_rfl) (Rd.slice Try.underlying22 (by kernel_rfl) rd2) (RdF.one rfl (by kernel_rfl) (Rd.slice Try.underlying24 (by kernel_rfl) rd47))))
end Go.Proofs.Ytkoiffkonjpoiaa.X
