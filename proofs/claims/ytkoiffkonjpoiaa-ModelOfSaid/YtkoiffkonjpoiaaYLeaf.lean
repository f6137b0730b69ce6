/- More plain lemmas on lists of pairs whose keys rise, and what the leaf's functions come to as plain Lean functions. No memory in it. -/
import Derived.Test.YtkoiffkonjpoiaaQA1
import Derived.Test.YtkoiffkonjpoiaaQA2
import Derived.Test.YtkoiffkonjpoiaaQA3
import Derived.Test.YtkoiffkonjpoiaaQA4
import Derived.Test.YtkoiffkonjpoiaaYLeaf0
namespace Go.Proofs.Ytkoiffkonjpoiaa.Y
open Go.RowKit Go.Proofs.Ytkoiffkonjpoiaa.Q Go.Proofs.YtkoiffkonjpoiaaW.PrintWords
set_option linter.unusedVariables false
set_option linter.unusedSimpArgs false

theorem Same_l0 : ∀ (r1 r2 p1 p2 : List S40) (k : Nat), r1.length < k → p1.length = p2.length → r1.length = r2.length → (p1 ++ r1).length < 1000000 →
    boscagelaw02_Same.l0 k (p1 ++ r1) (p2 ++ r2) ((p1 ++ r1).length : Int) (p1.length : Int) = some (decide (r1 = r2))
  | [], [], p1, p2, k, hk, hp, hr, hn => by
    obtain ⟨k, rfl⟩ : ∃ m, k = m + 1 := ⟨k - 1, by omega⟩
    simp only [boscagelaw02_Same.l0]
    rw [if_neg (by simp)]
    simp
  | [], _ :: _, _, _, _, _, _, hr, _ => by simp at hr
  | _ :: _, [], _, _, _, _, _, hr, _ => by simp at hr
  | a :: r1, b :: r2, p1, p2, k, hk, hp, hr, hn => by
    obtain ⟨k, rfl⟩ : ∃ m, k = m + 1 := ⟨k - 1, by omega⟩
    simp only [List.length_append, List.length_cons] at hk hn hr
    simp only [boscagelaw02_Same.l0]
    rw [if_pos (by simp; omega), if_pos (by omega), if_pos (by simp; omega), if_pos (by simp; omega), rd_mid, hp, rd_mid]
    by_cases h : a = b
    · subst h
      rw [if_neg (by simp), wrap_succ _ (by omega)]
      have e1 : ((p2.length + 1 : Nat) : Int) = ((p1 ++ [a]).length : Int) := by simp [hp]
      have e2 : p1 ++ a :: r1 = (p1 ++ [a]) ++ r1 := by simp
      have e3 : p2 ++ a :: r2 = (p2 ++ [a]) ++ r2 := by simp
      rw [e1, e2, e3, Same_l0 r1 r2 (p1 ++ [a]) (p2 ++ [a]) k (by omega) (by simp [hp]) (by omega) (by simp; omega)]
      simp
    · rw [if_pos]
      · simp [h]
      · have hne : a.f0 ≠ b.f0 ∨ a.f1 ≠ b.f1 := by
          rw [eq40] at h
          rcases Decidable.em (a.f0 = b.f0) with h1 | h1
          · exact .inr (fun h2 => h ⟨h1, h2⟩)
          · exact .inl h1
        rcases hne with h1 | h1 <;> simp [h1]
theorem Same_f (l o : List S40) (k : Nat) (hl : l.length < 1000) (hk : 1000 ≤ k) : boscagelaw02_Same.f k l o = some (decide (l = o)) := by
  unfold boscagelaw02_Same.f
  by_cases h : l.length = o.length
  · rw [if_pos (by omega)]
    have := Same_l0 l o [] [] k (by omega) rfl h (by simp; omega)
    simpa using this
  · rw [if_neg (by omega)]
    have : l ≠ o := fun e => h (by rw [e])
    simp [this]
end Go.Proofs.Ytkoiffkonjpoiaa.Y
