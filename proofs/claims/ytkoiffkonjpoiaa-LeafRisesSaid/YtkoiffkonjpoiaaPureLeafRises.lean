/- The statement LeafRises as plain Lean: what it computes is true for every input. No condition beyond the arguments' own bounds. -/
import Derived.Test.YtkoiffkonjpoiaaQLLeafRises
import Derived.Test.YtkoiffkonjpoiaaYLeaf2
import Derived.Test.YtkoiffkonjpoiaaXTypes
namespace Go.Proofs.Ytkoiffkonjpoiaa.Pure
open Go.RowKit Go.Proofs.Ytkoiffkonjpoiaa.Q Go.Proofs.YtkoiffkonjpoiaaW.PrintWords Go.Proofs.YtkoiffkonjpoiaaW.PrintLast Go.Proofs.Ytkoiffkonjpoiaa.Y
theorem LeafRises (l0 : List S40) (y0 : l0.length ≤ 9223372036854775807) (w0 : ∀ y ∈ l0, X.ok40 y) : ∃ k, boscagelaw02_LeafRises.f k l0 = some true := by
  refine ⟨10002, ?_⟩
  unfold boscagelaw02_LeafRises.f
  rw [Awake02]
  simp only [Option.bind_some, if_true]
  by_cases hl : (l0.length : Int) > 60
  · rw [if_pos hl]
  · have hn := rise_length (l0.map (·.f0))
    rw [List.length_map] at hn
    rw [if_neg hl, LRises_f _ _ (by omega) (by omega), Rises_f _ _ (by omega) (by omega), keys_f _ _ (by omega) (by omega)]
    simp only [Option.bind_some, beq_self_eq_true, if_true]
    rw [Rising_f _ _ (by simp; omega) (by omega)]
    simp only [Option.bind_some]
    rw [LRises_f _ _ (by omega) (by omega), decide_eq_true (srt_rise _)]
    rfl
end Go.Proofs.Ytkoiffkonjpoiaa.Pure
