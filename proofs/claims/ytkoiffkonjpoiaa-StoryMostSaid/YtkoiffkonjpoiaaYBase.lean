/- Plain lemmas on indices and on pairs of numbers. No memory in it. -/
import Derived.Test.YtkoiffkonjpoiaaQ0
namespace Go.Proofs.Ytkoiffkonjpoiaa.Y
open Go.RowKit Go.Proofs.Ytkoiffkonjpoiaa.Q Go.Proofs.YtkoiffkonjpoiaaW.PrintWords
set_option linter.unusedVariables false
set_option linter.unusedSimpArgs false

theorem eq40 (a b : S40) : a = b ↔ a.f0 = b.f0 ∧ a.f1 = b.f1 := by
  obtain ⟨a0, a1⟩ := a
  obtain ⟨b0, b1⟩ := b
  simp
instance : DecidableEq S40 := fun a b => decidable_of_iff (a.f0 = b.f0 ∧ a.f1 = b.f1) (eq40 a b).symm

end Go.Proofs.Ytkoiffkonjpoiaa.Y
