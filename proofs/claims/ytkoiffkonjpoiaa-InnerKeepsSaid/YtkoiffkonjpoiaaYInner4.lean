/- More plain lemmas on the inner page: a part cut out, one put instead of some ways. No memory in it. -/
import Derived.Test.YtkoiffkonjpoiaaQM1
import Derived.Test.YtkoiffkonjpoiaaQM2
import Derived.Test.YtkoiffkonjpoiaaYInner3
namespace Go.Proofs.Ytkoiffkonjpoiaa.Y
open Go.RowKit Go.Proofs.Ytkoiffkonjpoiaa.Q Go.Proofs.YtkoiffkonjpoiaaW.PrintWords Go.Proofs.YtkoiffkonjpoiaaW.PrintLast Go.Proofs.YtkoiffkonjpoiaaW.PrintMore
set_option linter.unusedVariables false
set_option linter.unusedSimpArgs false
def inB (K W : List Int) (a : Int) : Bool := rightB K W && (decide (0 ≤ a) && decide (a < (W.length : Int)))
theorem iin_f (K W : List Int) (a : Int) (hK : K.length < 1000000) (hW : W.length < 1000000) : inner_Inner_in.f K W a = some (inB K W a) := by
  unfold inner_Inner_in.f inB
  by_cases h : 0 ≤ a
  · by_cases h1 : a < (W.length : Int)
    · rw [if_pos h, if_pos h1, right_f _ _ hK hW, decide_eq_true h, decide_eq_true h1, Option.bind_some, Bool.true_and, Bool.and_true]
    · rw [if_pos h, if_neg h1, decide_eq_false h1, Bool.and_false, Bool.and_false]
  · rw [if_neg h, decide_eq_false h, Bool.false_and, Bool.and_false]
theorem inB_iff (K W : List Int) (a : Int) : inB K W a = true ↔ W.length = K.length + 1 ∧ 0 ≤ a ∧ a < (W.length : Int) := by
  simp [inB, rightB]
theorem clone_f (K W : List Int) (hK : K.length < 1000000) (hW : W.length < 1000000) : inner_Inner_clone.f K W = some (K, W) := by
  unfold inner_Inner_clone.f slices_Clone_int64_int64.f ref_Ref_107.f
  rw [if_pos (by omega), Option.bind_some, if_pos (by omega), Option.bind_some]
end Go.Proofs.Ytkoiffkonjpoiaa.Y
