/- More plain lemmas on the inner page: short ones, copies, the same. No memory in it. -/
import Derived.Test.YtkoiffkonjpoiaaQM1
import Derived.Test.YtkoiffkonjpoiaaYInner
namespace Go.Proofs.Ytkoiffkonjpoiaa.Y
open Go.RowKit Go.Proofs.Ytkoiffkonjpoiaa.Q Go.Proofs.YtkoiffkonjpoiaaW.PrintWords Go.Proofs.YtkoiffkonjpoiaaW.PrintLast Go.Proofs.YtkoiffkonjpoiaaW.PrintMore
set_option linter.unusedVariables false
set_option linter.unusedSimpArgs false
theorem ISame_l1 (A B C : List Int) (hB : B.length < 1000000) : ∀ (d i k : Nat), B.length - i ≤ d → d < k → i ≤ B.length → boscagelaw03_Same.l1 k (B.length : Int) (i : Int) A B C B = some true
  | d, i, 0, _, hk, _ => absurd hk (by omega)
  | d, i, k + 1, hd, hk, hi => by
    simp only [boscagelaw03_Same.l1]
    by_cases h : i < B.length
    · rw [if_pos (by omega), if_pos (by omega), if_pos (by omega), if_pos (by omega), if_pos trivial, wrap_succ _ (by omega)]
      match d, hd, hk with
      | 0, hd, _ => exact absurd hd (by omega)
      | d + 1, hd, hk => exact ISame_l1 A B C hB d (i + 1) k (by omega) (by omega) (by omega)
    · rw [if_neg (by omega)]
theorem ISame_l0 (A B : List Int) (hA : A.length < 1000000) (hB : B.length < 1000000) : ∀ (d i k : Nat), A.length - i ≤ d → d + B.length + 1 < k → i ≤ A.length → boscagelaw03_Same.l0 k (A.length : Int) (i : Int) A B A B = some true
  | d, i, 0, _, hk, _ => absurd hk (by omega)
  | d, i, k + 1, hd, hk, hi => by
    simp only [boscagelaw03_Same.l0]
    by_cases h : i < A.length
    · rw [if_pos (by omega), if_pos (by omega), if_pos (by omega), if_pos (by omega), if_pos trivial, wrap_succ _ (by omega)]
      match d, hd, hk with
      | 0, hd, _ => exact absurd hd (by omega)
      | d + 1, hd, hk => exact ISame_l0 A B hA hB d (i + 1) k (by omega) (by omega) (by omega)
    · rw [if_neg (by omega)]
      exact ISame_l1 A B A hB B.length 0 k (by omega) (by omega) (by omega)
theorem ISame_f (A B : List Int) (k : Nat) (hA : A.length < 1000) (hB : B.length < 1000) (hk : 3000 ≤ k) : boscagelaw03_Same.f k A B A B = some true := by
  obtain ⟨m, rfl⟩ : ∃ m, k = m + 1 := ⟨k - 1, by omega⟩
  unfold boscagelaw03_Same.f
  have hb : ((B.length : Int) != (B.length : Int)) = false := by simp
  rw [if_pos rfl, hb]
  simp only [boscagelaw03_Same.j0, Bool.false_eq_true, if_false]
  exact ISame_l0 A B (by omega) (by omega) A.length 0 m (by omega) (by omega) (by omega)
theorem Copy_f (K W : List Int) (hK : K.length < 1000000) (hW : W.length < 1000000) : boscagelaw03_Copy.f K W = some (K, W) := by
  unfold boscagelaw03_Copy.f
  rw [Option.bind_some, if_pos (by simp; omega), Option.bind_some, if_pos (by simp; omega)]
  simp
def rightB (K W : List Int) : Bool := decide (W.length = K.length + 1)
theorem right_f (K W : List Int) (hK : K.length < 1000000) (hW : W.length < 1000000) : inner_Inner_right.f K W = some (rightB K W) := by
  unfold inner_Inner_right.f rightB
  rw [wrap_succ _ (by omega)]
  by_cases h : W.length = K.length + 1
  · rw [decide_eq_true h, h]; simp
  · rw [decide_eq_false h]
    congr 1
    simp
    omega
end Go.Proofs.Ytkoiffkonjpoiaa.Y
