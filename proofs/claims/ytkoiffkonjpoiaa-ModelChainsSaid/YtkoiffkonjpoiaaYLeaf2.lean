/- More plain lemmas on the leaf: what Rises, keys and Between come to. No memory in it. -/
import Derived.Test.YtkoiffkonjpoiaaQA2
import Derived.Test.YtkoiffkonjpoiaaQA3
import Derived.Test.YtkoiffkonjpoiaaYLeaf
namespace Go.Proofs.Ytkoiffkonjpoiaa.Y
open Go.RowKit Go.Proofs.Ytkoiffkonjpoiaa.Q Go.Proofs.YtkoiffkonjpoiaaW.PrintWords
set_option linter.unusedVariables false
set_option linter.unusedSimpArgs false

theorem Between_l0 (x y : Int) : ∀ (rest pre acc : List S40) (k : Nat), rest.length < k → (pre ++ rest).length < 1000000 → acc.length + rest.length < 1000000 →
    boscagelaw02_Between.l0 k x y acc (pre ++ rest) ((pre ++ rest).length : Int) (pre.length : Int) = some (acc ++ rest.filter (fun p => decide (x ≤ p.f0 ∧ p.f0 ≤ y)))
  | [], pre, acc, k, hk, hn, ha => by
    obtain ⟨k, rfl⟩ : ∃ m, k = m + 1 := ⟨k - 1, by omega⟩
    simp only [boscagelaw02_Between.l0]
    rw [if_neg (by simp)]
    simp
  | p :: rest, pre, acc, k, hk, hn, ha => by
    obtain ⟨k, rfl⟩ : ∃ m, k = m + 1 := ⟨k - 1, by omega⟩
    simp only [List.length_append, List.length_cons] at hk hn ha
    simp only [boscagelaw02_Between.l0]
    have e1 : ((pre.length + 1 : Nat) : Int) = ((pre ++ [p]).length : Int) := by simp
    have e2 : pre ++ p :: rest = (pre ++ [p]) ++ rest := by simp
    rw [if_pos (by simp; omega), if_pos (by omega), if_pos (by simp; omega), rd_mid, wrap_succ _ (by omega), e1, e2]
    by_cases h1 : x ≤ p.f0
    · by_cases h2 : p.f0 ≤ y
      · rw [if_pos h1, if_pos h2, if_pos (by omega), Between_l0 x y rest (pre ++ [p]) _ k (by omega) (by simp; omega) (by simp; omega), List.filter_cons_of_pos (by simp [h1, h2])]
        simp
      · rw [if_pos h1, if_neg h2, Between_l0 x y rest (pre ++ [p]) _ k (by omega) (by simp; omega) (by omega), List.filter_cons_of_neg (by simp; omega)]
    · rw [if_neg h1, Between_l0 x y rest (pre ++ [p]) _ k (by omega) (by simp; omega) (by omega), List.filter_cons_of_neg (by simp; omega)]
theorem Between_f (l : List S40) (x y : Int) (k : Nat) (hl : l.length < 1000) (hk : 1000 ≤ k) : boscagelaw02_Between.f k l x y = some (l.filter (fun p => decide (x ≤ p.f0 ∧ p.f0 ≤ y))) := by
  have := Between_l0 x y l [] [] k (by omega) (by simp; omega) (by simp; omega)
  simpa [boscagelaw02_Between.f] using this
theorem LBetween_eq : ∀ k, leaf_Leaf_Between.l0 k = boscagelaw02_Between.l0 k
  | 0 => by funext a b c d e f; simp only [leaf_Leaf_Between.l0, boscagelaw02_Between.l0]
  | k + 1 => by funext a b c d e f; simp only [leaf_Leaf_Between.l0, boscagelaw02_Between.l0, LBetween_eq k, ge_iff_le]
theorem LBetween_f (l : List S40) (x y : Int) (k : Nat) (hl : l.length < 1000) (hk : 1000 ≤ k) : leaf_Leaf_Between.f k l x y = some (l.filter (fun p => decide (x ≤ p.f0 ∧ p.f0 ≤ y))) := by
  rw [← Between_f l x y k hl hk]
  unfold leaf_Leaf_Between.f boscagelaw02_Between.f
  rw [LBetween_eq]
end Go.Proofs.Ytkoiffkonjpoiaa.Y
