/- The statement LeafHalves as plain Lean: what it computes is true for every input. No condition beyond the arguments' own bounds. -/
import Derived.Test.YtkoiffkonjpoiaaQLLeafHalves
import Derived.Test.YtkoiffkonjpoiaaYLeaf2
import Derived.Test.YtkoiffkonjpoiaaXTypes
namespace Go.Proofs.Ytkoiffkonjpoiaa.Pure
open Go.RowKit Go.Proofs.Ytkoiffkonjpoiaa.Q Go.Proofs.YtkoiffkonjpoiaaW.PrintWords Go.Proofs.YtkoiffkonjpoiaaW.PrintLast Go.Proofs.Ytkoiffkonjpoiaa.Y
theorem LeafHalves (l0 : List S40) (y0 : l0.length ≤ 9223372036854775807) (w0 : ∀ y ∈ l0, X.ok40 y) : ∃ k, boscagelaw02_LeafHalves.f k l0 = some true := by
  refine ⟨5002, ?_⟩
  unfold boscagelaw02_LeafHalves.f
  rw [Awake02]
  simp only [Option.bind_some, if_true]
  by_cases hl : (l0.length : Int) > 60
  · rw [if_pos hl]
  · rw [if_neg hl, Halves_f _ (by omega)]
    simp only [Option.bind_some]
    by_cases h0 : (l0.length : Int) = 0
    · obtain rfl : l0 = [] := List.eq_nil_of_length_eq_zero (by omega)
      rfl
    · rw [if_neg h0, half_in _ (by omega), if_pos (by omega), if_pos (by omega), Int.toNat_natCast, Same_f _ _ _ (by simp; omega) (by omega), Same_f _ _ _ (by simp; omega) (by omega)]
      simp only [Option.bind_some, decide_true, if_true]
      rw [if_pos (by omega), if_neg (by omega)]
      simp
end Go.Proofs.Ytkoiffkonjpoiaa.Pure
