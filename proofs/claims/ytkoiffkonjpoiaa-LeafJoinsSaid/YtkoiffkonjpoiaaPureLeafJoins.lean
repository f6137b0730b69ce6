/- The statement LeafJoins as plain Lean: what it computes is true for every input. No condition beyond the arguments' own bounds. -/
import Derived.Test.YtkoiffkonjpoiaaQLLeafJoins
import Derived.Test.YtkoiffkonjpoiaaYLeaf2
import Derived.Test.YtkoiffkonjpoiaaXTypes
namespace Go.Proofs.Ytkoiffkonjpoiaa.Pure
open Go.RowKit Go.Proofs.Ytkoiffkonjpoiaa.Q Go.Proofs.YtkoiffkonjpoiaaW.PrintWords Go.Proofs.YtkoiffkonjpoiaaW.PrintLast Go.Proofs.Ytkoiffkonjpoiaa.Y
theorem LeafJoins_j1 (m : Nat) (l0 l1 : List S40) (hm : 5000 ≤ m) (hl : l0.length ≤ 60) (hm : l1.length ≤ 60) : boscagelaw02_LeafJoins.j1 (m + 1) (l0 ++ l1) false = some true := by
  simp only [boscagelaw02_LeafJoins.j1, Bool.false_eq_true, if_false]
  rw [Halves_f _ (by simp; omega)]
  simp only [Option.bind_some]
  rw [Join_f _ _ (by simp; omega), List.take_append_drop]
  simp only [Option.bind_some]
  rw [Same_f _ _ _ (by simp; omega) (by omega)]
  simp
theorem LeafJoins_j0 (m : Nat) (l0 l1 : List S40) (hm : 5000 ≤ m) (hl : l0.length ≤ 60) (hm : l1.length ≤ 60) : boscagelaw02_LeafJoins.j0 (m + 2) l0 l1 false = some true := by
  simp only [boscagelaw02_LeafJoins.j0, Bool.false_eq_true, if_false]
  rw [Join_f _ _ (by omega), Option.bind_some]
  rw [wrap_in _ (by omega) (by omega), if_pos (by simp), if_pos (by omega), if_pos (by simp; omega), Int.toNat_natCast, List.take_left, List.drop_left, Same_f _ _ _ (by omega) (by omega), Same_f _ _ _ (by omega) (by omega)]
  simp only [Option.bind_some, decide_true, if_true, Bool.not_true]
  exact LeafJoins_j1 m l0 l1 (by omega) (by omega) (by omega)
theorem LeafJoins (l0 : List S40) (l1 : List S40) (y0 : l0.length ≤ 9223372036854775807) (w0 : ∀ y ∈ l0, X.ok40 y) (y1 : l1.length ≤ 9223372036854775807) (w1 : ∀ y ∈ l1, X.ok40 y) : ∃ k, boscagelaw02_LeafJoins.f k l0 l1 = some true := by
  obtain ⟨m, hk⟩ : ∃ m, m = 5000 := ⟨_, rfl⟩
  refine ⟨m + 2, ?_⟩
  unfold boscagelaw02_LeafJoins.f
  rw [Awake02]
  simp only [Option.bind_some, if_true]
  by_cases hl : (l0.length : Int) > 60
  · rw [if_pos hl]
    simp only [boscagelaw02_LeafJoins.j0, if_true]
  · rw [if_neg hl]
    by_cases hm : (l1.length : Int) > 60
    · rw [decide_eq_true hm]
      simp only [boscagelaw02_LeafJoins.j0, if_true]
    · rw [decide_eq_false hm]
      exact LeafJoins_j0 m l0 l1 (by omega) (by omega) (by omega)
end Go.Proofs.Ytkoiffkonjpoiaa.Pure
