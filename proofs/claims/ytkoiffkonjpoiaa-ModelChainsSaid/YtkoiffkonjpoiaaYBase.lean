/- Plain lemmas on indices and on pairs of numbers. No memory in it. -/
import Derived.Test.YtkoiffkonjpoiaaQ0
namespace Go.Proofs.Ytkoiffkonjpoiaa.Y
open Go.RowKit Go.Proofs.Ytkoiffkonjpoiaa.Q Go.Proofs.YtkoiffkonjpoiaaW.PrintWords
set_option linter.unusedVariables false
set_option linter.unusedSimpArgs false

theorem wrap_succ (n : Nat) (h : n < 9223372036854775807) : wrap64 ((n : Int) + 1) = ((n + 1 : Nat) : Int) := by unfold wrap64; omega
theorem wrap_in (x : Int) (h0 : -9223372036854775808 ≤ x) (h1 : x ≤ 9223372036854775807) : wrap64 x = x := by unfold wrap64; omega
theorem rd_mid (A B : List S40) (p : S40) : rd_T40 (A ++ p :: B) (A.length : Int) = p := by
  simp [rd_T40]
theorem rdi_mid (A B : List Int) (p : Int) : rd (A ++ p :: B) (A.length : Int) = p := by
  simp [rd]
theorem eta40 (p : S40) : (⟨p.f0, p.f1⟩ : S40) = p := rfl

theorem eq40 (a b : S40) : a = b ↔ a.f0 = b.f0 ∧ a.f1 = b.f1 := by
  obtain ⟨a0, a1⟩ := a
  obtain ⟨b0, b1⟩ := b
  simp
instance : DecidableEq S40 := fun a b => decidable_of_iff (a.f0 = b.f0 ∧ a.f1 = b.f1) (eq40 a b).symm

end Go.Proofs.Ytkoiffkonjpoiaa.Y
