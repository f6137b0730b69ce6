/- The statement InnerWith as plain Lean: what it computes is true for every input. No condition beyond the arguments' own bounds. -/
import Derived.Test.YtkoiffkonjpoiaaQLInnerWith
import Derived.Test.YtkoiffkonjpoiaaYInner3
import Derived.Test.YtkoiffkonjpoiaaXTypes
namespace Go.Proofs.Ytkoiffkonjpoiaa.Pure
open Go.RowKit Go.Proofs.Ytkoiffkonjpoiaa.Q Go.Proofs.YtkoiffkonjpoiaaW.PrintWords Go.Proofs.YtkoiffkonjpoiaaW.PrintLast Go.Proofs.Ytkoiffkonjpoiaa.Y
def inB (K W : List Int) (a : Int) : Bool := rightB K W && (decide (0 ≤ a) && decide (a < (W.length : Int)))
theorem in_f (K W : List Int) (a : Int) (hK : K.length < 1000000) (hW : W.length < 1000000) : boscagelaw03_in.f K W a = some (inB K W a) := by
  unfold boscagelaw03_in.f inB
  rw [Right_f _ _ hK hW, Option.bind_some]
  cases rightB K W
  · rfl
  · rw [if_pos rfl, Bool.true_and]
    by_cases h : 0 ≤ a
    · rw [if_pos h, decide_eq_true h, Bool.true_and]
    · rw [if_neg h, decide_eq_false h, Bool.false_and]
theorem iin_f (K W : List Int) (a : Int) (hK : K.length < 1000000) (hW : W.length < 1000000) : inner_Inner_in.f K W a = some (inB K W a) := by
  unfold inner_Inner_in.f inB
  by_cases h : 0 ≤ a
  · by_cases h1 : a < (W.length : Int)
    · rw [if_pos h, if_pos h1, right_f _ _ hK hW, decide_eq_true h, decide_eq_true h1, Option.bind_some, Bool.true_and, Bool.and_true]
    · rw [if_pos h, if_neg h1, decide_eq_false h1, Bool.and_false, Bool.and_false]
  · rw [if_neg h, decide_eq_false h, Bool.false_and, Bool.and_false]
theorem With_f (K W : List Int) (a r : Int) (hK : K.length < 1000000) (hW : W.length < 1000000) : inner_Inner_With.f K W a r = some (K, if inB K W a = true then W.set a.toNat r else W) := by
  unfold inner_Inner_With.f inner_Inner_clone.f slices_Clone_int64_int64.f ref_Ref_107.f
  rw [if_pos (by omega), Option.bind_some, if_pos (by omega), Option.bind_some, Option.bind_some, iin_f _ _ _ hK hW, Option.bind_some]
  by_cases h : inB K W a = true
  · have h' := h
    unfold inB at h'
    rw [Bool.and_eq_true, Bool.and_eq_true, decide_eq_true_iff, decide_eq_true_iff] at h'
    rw [if_pos h, if_pos h, if_pos h'.2.1, if_pos h'.2.2]
  · rw [if_neg h, if_neg h]
theorem InnerWith (x : S26) (a : Int) (r : Int) (_w0 : X.ok26 x) (_w1 : X.wf a) (_w2 : X.wf r) : ∃ k, boscagelaw03_InnerWith.f k x.f0 x.f1 a r = some true := by
  refine ⟨5003, ?_⟩
  unfold boscagelaw03_InnerWith.f
  rw [Awake03 _ (by omega)]
  simp only [Option.bind_some, if_true]
  rw [short_f _ _ (by simp) (by omega), Option.bind_some, List.all_cons, List.all_nil, Bool.and_true]
  by_cases h : small ⟨x.f0, x.f1⟩ = true
  · obtain ⟨h0, h1⟩ := small_of h
    rw [if_pos h, Copy_f _ _ (by omega) (by omega), Option.bind_some, in_f _ _ _ (by omega) (by omega), Option.bind_some, With_f _ _ _ _ (by omega) (by omega)]
    by_cases hi : inB x.f0 x.f1 a = true
    · have h' := hi
      unfold inB at h'
      rw [Bool.and_eq_true, Bool.and_eq_true, decide_eq_true_iff, decide_eq_true_iff] at h'
      rw [if_pos hi, if_pos hi, if_pos h'.2.1, if_pos h'.2.2, Option.bind_some]
      dsimp only
      rw [ISame_f _ _ _ (by omega) (by rw [List.length_set]; omega) (by omega), Option.bind_some]
    · rw [if_neg hi, if_neg hi, Option.bind_some]
      dsimp only
      rw [ISame_f _ _ _ (by omega) (by omega) (by omega), Option.bind_some]
  · rw [if_neg h]
end Go.Proofs.Ytkoiffkonjpoiaa.Pure
