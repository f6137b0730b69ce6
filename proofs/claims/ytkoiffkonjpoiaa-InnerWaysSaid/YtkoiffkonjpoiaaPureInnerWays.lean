/- The statement InnerWays as plain Lean: what it computes is true for every input. No condition beyond the arguments' own bounds. -/
import Derived.Test.YtkoiffkonjpoiaaQLInnerWays
import Derived.Test.YtkoiffkonjpoiaaYInner
namespace Go.Proofs.Ytkoiffkonjpoiaa.Pure
open Go.RowKit Go.Proofs.Ytkoiffkonjpoiaa.Q Go.Proofs.YtkoiffkonjpoiaaW.PrintWords Go.Proofs.YtkoiffkonjpoiaaW.PrintLast Go.Proofs.Ytkoiffkonjpoiaa.Y
theorem InnerWays : boscagelaw03_InnerWays.Pure := by
  intro raw x _ _ _ _
  refine ⟨5002, ?_⟩
  unfold boscagelaw03_InnerWays.f
  rw [Awake03 _ (by omega)]
  simp only [Option.bind_some, if_true]
  by_cases hl : (raw.length : Int) > 40
  · rw [if_pos hl]
  · have hn := rise_length raw
    rw [if_neg hl, Of_f raw 1 (by omega) _ (by omega) (by omega)]
    simp only [Option.bind_some]
    rw [Way_f _ _ x _ (keys_rise raw) (by simp; omega) (by simp [wayL_length]) (by omega), WayLaw_f _ _ x _ (by simp; omega) (by omega)]
    simp
end Go.Proofs.Ytkoiffkonjpoiaa.Pure
