/- Plain lemmas on the model: what an operation answers, of the pairs that it looks at. No memory in it. -/
import Derived.Test.YtkoiffkonjpoiaaYModel
import Derived.Test.YtkoiffkonjpoiaaYLeaf2
import Derived.Test.YtkoiffkonjpoiaaXTypes
namespace Go.Proofs.Ytkoiffkonjpoiaa.Y
open Go.RowKit Go.Proofs.Ytkoiffkonjpoiaa.Q Go.Proofs.YtkoiffkonjpoiaaW.PrintWords Go.Proofs.YtkoiffkonjpoiaaW.PrintLast Go.Proofs.YtkoiffkonjpoiaaW.PrintMore
set_option linter.unusedVariables false
theorem ap0 {L : List S40} (k : Nat) (hlow : ∀ p ∈ L, -9223372036854775808 ≤ p.f0) (hup : ∀ p ∈ L, p.f0 ≤ 9223372036854775807) (hl : L.length < 1000) (hk : 1000 ≤ k) (hs : srt L) (b : Int) : model_Apply.f k L 0 b 0 0 = some (L, 0, khas L b, 0, valL L b, [], false) := by
  obtain ⟨m, rfl⟩ : ∃ m, k = m + 1 := ⟨k - 1, by omega⟩
  have hsp : model_Op_Span.f (m + 1) 0 b 0 0 = some (0, 0, false) := by simp [model_Op_Span.f, model_Op_Span.j0]
  unfold model_Apply.f
  rw [hsp, Option.bind_some]
  dsimp only
  rw [if_neg (by simp), if_pos rfl, Get_f hs (by omega), Option.bind_some, clone_f _ (by omega), Option.bind_some]
end Go.Proofs.Ytkoiffkonjpoiaa.Y
