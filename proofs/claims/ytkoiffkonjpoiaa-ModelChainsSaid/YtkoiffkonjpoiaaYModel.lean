/- Plain lemmas on the model: its check at the start, and what its numbers are bounded by. No memory in it. -/
import Derived.Test.YtkoiffkonjpoiaaQC4
namespace Go.Proofs.Ytkoiffkonjpoiaa.Y
open Go.RowKit Go.Proofs.Ytkoiffkonjpoiaa.Q Go.Proofs.YtkoiffkonjpoiaaW.PrintWords Go.Proofs.YtkoiffkonjpoiaaW.PrintLast Go.Proofs.YtkoiffkonjpoiaaW.PrintMore
set_option maxRecDepth 100000 in
theorem Awake18 : boscagelaw18_Awake.f 40 = some true := by kernel_rfl
theorem wf_bounds {n : Int} (h : (Lit.int .i64 n).wf = true) : -9223372036854775808 ≤ n ∧ n ≤ 9223372036854775807 := by
  have h' : (decide (IntKind.i64.min ≤ n) && decide (n ≤ IntKind.i64.max)) = true := h
  rw [Bool.and_eq_true, decide_eq_true_iff, decide_eq_true_iff] at h'
  have e1 : IntKind.i64.min = -9223372036854775808 := by decide
  have e2 : IntKind.i64.max = 9223372036854775807 := by decide
  omega
end Go.Proofs.Ytkoiffkonjpoiaa.Y
