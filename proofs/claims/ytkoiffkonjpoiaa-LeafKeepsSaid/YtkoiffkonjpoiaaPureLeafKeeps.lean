/- The statement LeafKeeps as plain Lean: what it computes is true for every input. No condition beyond the arguments' own bounds. -/
import Derived.Test.YtkoiffkonjpoiaaQLLeafKeeps
import Derived.Test.YtkoiffkonjpoiaaYLeaf2
import Derived.Test.YtkoiffkonjpoiaaXTypes
namespace Go.Proofs.Ytkoiffkonjpoiaa.Pure
open Go.RowKit Go.Proofs.Ytkoiffkonjpoiaa.Q Go.Proofs.YtkoiffkonjpoiaaW.PrintWords Go.Proofs.YtkoiffkonjpoiaaW.PrintLast Go.Proofs.Ytkoiffkonjpoiaa.Y
theorem LeafKeeps (l0 : List Int) (a b : Int) (_y0 : l0.length ≤ 9223372036854775807) (_w0 : ∀ y ∈ l0, X.wf y) (_w1 : X.wf a) (_w2 : X.wf b) : ∃ k, boscagelaw02_LeafKeeps.f k l0 a b = some true := by
  obtain ⟨m, hm⟩ : ∃ m, m = 6000 := ⟨_, rfl⟩
  refine ⟨m, ?_⟩
  unfold boscagelaw02_LeafKeeps.f
  rw [Awake02, Option.bind_some, if_pos rfl]
  by_cases hl : (l0.length : Int) > 40
  · rw [if_pos hl]
  · have hn := rise_length l0
    rw [if_neg hl, Rising_f _ _ (by omega) (by omega), Option.bind_some, if_pos (by omega), LPut_f (srt_rise l0) (by omega), Option.bind_some, LCut_f (srt_rise l0) (by omega), Option.bind_some, Halves_f _ (by omega), Option.bind_some, Join_f _ _ (by omega), Option.bind_some, LBetween_f _ _ _ _ (by omega) (by omega), Option.bind_some, Same_f _ _ _ (by omega) (by omega), decide_eq_true rfl]
end Go.Proofs.Ytkoiffkonjpoiaa.Pure
