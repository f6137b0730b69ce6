/- The statement LeafBetween as plain Lean: what it computes is true for every input. No condition beyond the arguments' own bounds. -/
import Derived.Test.YtkoiffkonjpoiaaQLLeafBetween
import Derived.Test.YtkoiffkonjpoiaaYLeaf2
import Derived.Test.YtkoiffkonjpoiaaXTypes
namespace Go.Proofs.Ytkoiffkonjpoiaa.Pure
open Go.RowKit Go.Proofs.Ytkoiffkonjpoiaa.Q Go.Proofs.YtkoiffkonjpoiaaW.PrintWords Go.Proofs.YtkoiffkonjpoiaaW.PrintLast Go.Proofs.Ytkoiffkonjpoiaa.Y
theorem LeafBetween (l0 : List S40) (a1 a2 : Int) (y0 : l0.length ≤ 9223372036854775807) (w0 : ∀ y ∈ l0, X.ok40 y) (w1 : X.wf a1) (w2 : X.wf a2) : ∃ k, boscagelaw02_LeafBetween.f k l0 a1 a2 = some true := by
  refine ⟨5002, ?_⟩
  unfold boscagelaw02_LeafBetween.f
  rw [Awake02]
  simp only [Option.bind_some, if_true]
  by_cases hl : (l0.length : Int) > 60
  · rw [if_pos hl]
  · have hf := List.length_filter_le (fun p : S40 => decide (a1 ≤ p.f0 ∧ p.f0 ≤ a2)) l0
    rw [if_neg hl, LBetween_f _ _ _ _ (by omega) (by omega), Between_f _ _ _ _ (by omega) (by omega)]
    simp only [Option.bind_some]
    rw [Same_f _ _ _ (by omega) (by omega)]
    simp
end Go.Proofs.Ytkoiffkonjpoiaa.Pure
