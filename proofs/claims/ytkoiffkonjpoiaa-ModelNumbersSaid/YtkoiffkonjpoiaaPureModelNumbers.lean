/- The statement ModelNumbers as plain Lean: what it computes is true for every input. No condition beyond the arguments' own bounds. -/
import Derived.Test.YtkoiffkonjpoiaaQLModelNumbers
import Derived.Test.YtkoiffkonjpoiaaYModel
namespace Go.Proofs.Ytkoiffkonjpoiaa.Pure
open Go.RowKit Go.Proofs.Ytkoiffkonjpoiaa.Q Go.Proofs.YtkoiffkonjpoiaaW.PrintWords Go.Proofs.YtkoiffkonjpoiaaW.PrintLast Go.Proofs.Ytkoiffkonjpoiaa.Y
theorem ModelNumbers (x : S78) (w0 : X.ok78 x) : ∃ k, boscagelaw18_ModelNumbers.f k x.f0 x.f1 x.f2 x.f3 = some true := by
  clear w0
  obtain ⟨a, b, c, d⟩ := x
  show ∃ k, boscagelaw18_ModelNumbers.f k a b c d = some true
  obtain ⟨m, hm⟩ : ∃ m, 40 = m + 3 := ⟨37, rfl⟩
  refine ⟨40, ?_⟩
  unfold boscagelaw18_ModelNumbers.f
  rw [Awake18, hm]
  simp only [Option.bind_some, if_true]
  by_cases h0 : a = 0
  · subst h0; simp [model_Op_Numbers.f, model_Op_Numbers.j0, model_Op_Numbers.j1, boscagelaw18_Many.f, boscagelaw18_Many.j0, boscagelaw18_Many.j1, boscagelaw18_ModelNumbers.j0, rd]
  by_cases h1 : a = 1
  · subst h1; simp [model_Op_Numbers.f, model_Op_Numbers.j0, model_Op_Numbers.j1, boscagelaw18_Many.f, boscagelaw18_Many.j0, boscagelaw18_Many.j1, boscagelaw18_ModelNumbers.j0, rd]
  by_cases h2 : a = 2
  · subst h2; simp [model_Op_Numbers.f, model_Op_Numbers.j0, model_Op_Numbers.j1, boscagelaw18_Many.f, boscagelaw18_Many.j0, boscagelaw18_Many.j1, boscagelaw18_ModelNumbers.j0, rd]
  by_cases h3 : a = 3
  · subst h3; simp [model_Op_Numbers.f, model_Op_Numbers.j0, model_Op_Numbers.j1, boscagelaw18_Many.f, boscagelaw18_Many.j0, boscagelaw18_Many.j1, boscagelaw18_ModelNumbers.j0, rd]
  by_cases h4 : a = 4
  · subst h4; simp [model_Op_Numbers.f, model_Op_Numbers.j0, model_Op_Numbers.j1, boscagelaw18_Many.f, boscagelaw18_Many.j0, boscagelaw18_Many.j1, boscagelaw18_ModelNumbers.j0, rd]
  by_cases h5 : a = 5
  · subst h5; simp [model_Op_Numbers.f, model_Op_Numbers.j0, model_Op_Numbers.j1, boscagelaw18_Many.f, boscagelaw18_Many.j0, boscagelaw18_Many.j1, boscagelaw18_ModelNumbers.j0, rd]
  by_cases h6 : a = 6
  · subst h6; simp [model_Op_Numbers.f, model_Op_Numbers.j0, model_Op_Numbers.j1, boscagelaw18_Many.f, boscagelaw18_Many.j0, boscagelaw18_Many.j1, boscagelaw18_ModelNumbers.j0, rd]
  by_cases h7 : a = 7
  · subst h7; simp [model_Op_Numbers.f, model_Op_Numbers.j0, model_Op_Numbers.j1, boscagelaw18_Many.f, boscagelaw18_Many.j0, boscagelaw18_Many.j1, boscagelaw18_ModelNumbers.j0, rd]
  by_cases h8 : a = 8
  · subst h8; simp [model_Op_Numbers.f, model_Op_Numbers.j0, model_Op_Numbers.j1, boscagelaw18_Many.f, boscagelaw18_Many.j0, boscagelaw18_Many.j1, boscagelaw18_ModelNumbers.j0, rd]
  by_cases h9 : a = 9
  · subst h9; simp [model_Op_Numbers.f, model_Op_Numbers.j0, model_Op_Numbers.j1, boscagelaw18_Many.f, boscagelaw18_Many.j0, boscagelaw18_Many.j1, boscagelaw18_ModelNumbers.j0, rd]
  by_cases h10 : a = 10
  · subst h10; simp [model_Op_Numbers.f, model_Op_Numbers.j0, model_Op_Numbers.j1, boscagelaw18_Many.f, boscagelaw18_Many.j0, boscagelaw18_Many.j1, boscagelaw18_ModelNumbers.j0, rd]
  by_cases h11 : a = 11
  · subst h11; simp [model_Op_Numbers.f, model_Op_Numbers.j0, model_Op_Numbers.j1, boscagelaw18_Many.f, boscagelaw18_Many.j0, boscagelaw18_Many.j1, boscagelaw18_ModelNumbers.j0, rd]
  simp [h0, h1, h2, h3, h4, h5, h6, h7, h8, h9, h10, h11, model_Op_Numbers.f, model_Op_Numbers.j0, model_Op_Numbers.j1, boscagelaw18_Many.f, boscagelaw18_Many.j0, boscagelaw18_Many.j1, boscagelaw18_ModelNumbers.j0, rd]
end Go.Proofs.Ytkoiffkonjpoiaa.Pure
