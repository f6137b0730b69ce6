/- The answers' type, as what it reads as. -/
import Derived.Test.YtkoiffkonjpoiaaXTypes
namespace Go.Proofs.Ytkoiffkonjpoiaa.X
open Go.RowKit Go.Proofs.YtkoiffkonjpoiaaX Go.Proofs.YtkoiffkonjpoiaaW.PrintWords Go.Proofs.YtkoiffkonjpoiaaW.PrintMore
def ok84 (x : Q.S84) : Prop := wf x.f0 ∧ True ∧ wf x.f2 ∧ wf x.f3 ∧ (x.f4.length ≤ 9223372036854775807 ∧ ∀ y ∈ x.f4, ok40 y) ∧ True
theorem rd82 : Rd Try.prog 82 (Kd.int .i64) wf := Rd.int Try.underlying82
theorem rd84 : Rd Try.prog 84 Q.k84 ok84 :=
  Rd.iso (fun p => ⟨p.1, p.2.1, p.2.2.1, p.2.2.2.1, p.2.2.2.2.1, p.2.2.2.2.2⟩) (fun _ => rfl) (Rd.struct Try.underlying84 (by kernel_rfl) (RdF.cons rfl (by kernel_rfl) rd82 (RdF.cons rfl (by kernel_rfl) rd4 (RdF.cons rfl (by kernel_rfl) rd2 (RdF.cons rfl (by kernel_rfl) rd2 (RdF.cons rfl (by kernel_rfl) (Rd.slice Try.underlying34 (by kernel_rfl) rd40) (RdF.one rfl (by kernel_rfl) rd4)))))))
end Go.Proofs.Ytkoiffkonjpoiaa.X
