/- Plain lemmas on the inner page: the search for a way, the copies, and what a check computes. No memory in it. -/
import Derived.Test.YtkoiffkonjpoiaaQM1
import Derived.Test.YtkoiffkonjpoiaaYBase
namespace Go.Proofs.Ytkoiffkonjpoiaa.Y
open Go.RowKit Go.Proofs.Ytkoiffkonjpoiaa.Q Go.Proofs.YtkoiffkonjpoiaaW.PrintWords Go.Proofs.YtkoiffkonjpoiaaW.PrintLast Go.Proofs.YtkoiffkonjpoiaaW.PrintMore
set_option linter.unusedVariables false
set_option linter.unusedSimpArgs false

theorem up {α : Type} {f : Nat → Option α} (mono : ∀ k, LeO (f k) (f (k + 1))) {k m : Nat} {r : α} (h : k ≤ m) (e : f k = some r) : f m = some r := by
  induction h with
  | refl => exact e
  | step _ ih => exact mono _ r ih
set_option maxRecDepth 100000 in
theorem Awake03_40 : boscagelaw03_Awake.f 40 = some true := by kernel_rfl
theorem Awake03 (k : Nat) (h : 40 ≤ k) : boscagelaw03_Awake.f k = some true := up boscagelaw03_Awake.mono h Awake03_40

end Go.Proofs.Ytkoiffkonjpoiaa.Y
