/- More plain lemmas on the leaf: what Rises, keys and Between come to. No memory in it. -/
import Derived.Test.YtkoiffkonjpoiaaQA2
import Derived.Test.YtkoiffkonjpoiaaQA3
import Derived.Test.YtkoiffkonjpoiaaYLeaf
namespace Go.Proofs.Ytkoiffkonjpoiaa.Y
open Go.RowKit Go.Proofs.Ytkoiffkonjpoiaa.Q Go.Proofs.YtkoiffkonjpoiaaW.PrintWords
set_option linter.unusedVariables false
set_option linter.unusedSimpArgs false

theorem rd_at (A B : List S40) (p : S40) (i : Int) (h : i = (A.length : Int)) : rd_T40 (A ++ p :: B) i = p := by
  rw [h, rd_mid]
theorem srt_cons2 (p q : S40) (l : List S40) : srt (p :: q :: l) ↔ p.f0 < q.f0 ∧ srt (q :: l) := by
  constructor
  · intro h
    exact ⟨srt_head h q List.mem_cons_self, srt_tail h⟩
  · rintro ⟨h, hs⟩
    refine List.pairwise_cons.2 ⟨fun r hr => ?_, hs⟩
    rcases List.mem_cons.1 hr with rfl | hr
    · exact h
    · exact Int.lt_trans h (srt_head hs r hr)
theorem LRises_l0 : ∀ (rest pre : List S40) (p : S40) (k : Nat), rest.length + 1 < k → (pre ++ p :: rest).length < 1000000 →
    leaf_Leaf_Rises.l0 k (pre ++ p :: rest) (((pre ++ p :: rest).length : Int) - 1) (pre.length : Int) = some (decide (srt (p :: rest)))
  | [], pre, p, k, hk, hn => by
    obtain ⟨k, rfl⟩ : ∃ m, k = m + 1 := ⟨k - 1, by omega⟩
    simp only [leaf_Leaf_Rises.l0]
    rw [if_neg (by simp), decide_eq_true (by simp [srt])]
  | q :: rest, pre, p, k, hk, hn => by
    obtain ⟨k, rfl⟩ : ∃ m, k = m + 1 := ⟨k - 1, by omega⟩
    simp only [List.length_append, List.length_cons] at hk hn
    simp only [leaf_Leaf_Rises.l0]
    have e2 : pre ++ p :: q :: rest = (pre ++ [p]) ++ q :: rest := by simp
    rw [if_pos (by simp; omega), if_pos (by omega), if_pos (by simp; omega), wrap_succ _ (by omega), if_pos (by omega), if_pos (by simp; omega), rd_mid]
    have e3 : rd_T40 (pre ++ p :: q :: rest) ((pre.length + 1 : Nat) : Int) = q := by rw [e2]; exact rd_at _ _ _ _ (by simp)
    rw [e3]
    by_cases h : p.f0 ≥ q.f0
    · rw [if_pos h, decide_eq_false (by rw [srt_cons2]; intro hh; omega)]
    · have e1 : ((pre.length + 1 : Nat) : Int) = ((pre ++ [p]).length : Int) := by simp
      rw [if_neg h, e1, e2, LRises_l0 rest (pre ++ [p]) q k (by omega) (by simp; omega)]
      congr 1
      exact decide_eq_decide.2 (by rw [srt_cons2]; constructor
                                   · intro hh; exact ⟨by omega, hh⟩
                                   · intro hh; exact hh.2)
theorem LRises_f (l : List S40) (k : Nat) (hl : l.length < 1000) (hk : 1002 ≤ k) : leaf_Leaf_Rises.f k l = some (decide (srt l)) := by
  unfold leaf_Leaf_Rises.f
  rw [wrap_in _ (by omega) (by omega)]
  match l, hl with
  | [], _ =>
    obtain ⟨k, rfl⟩ : ∃ m, k = m + 1 := ⟨k - 1, by omega⟩
    simp only [leaf_Leaf_Rises.l0]
    rw [if_neg (by simp), decide_eq_true (by simp [srt])]
  | p :: r, h => exact LRises_l0 r [] p k (by simp at h; omega) (by simp at h ⊢; omega)

theorem srt_app_cons (A : List S40) (p : S40) (B : List S40) (h : srt (A ++ p :: B)) : ∀ q ∈ A, q.f0 < p.f0 := fun q hq => (List.pairwise_append.1 h).2.2 q hq p List.mem_cons_self
mutual
theorem Rises_l0 : ∀ (rest pre : List S40) (k : Nat), rest.length * (pre.length + rest.length + 2) < k → (pre ++ rest).length < 1000000 → srt pre →
    boscagelaw02_Rises.l0 k (pre ++ rest) ((pre ++ rest).length : Int) (pre.length : Int) = some (decide (srt (pre ++ rest)))
  | [], pre, k, hk, hn, hs => by
    obtain ⟨k, rfl⟩ : ∃ m, k = m + 1 := ⟨k - 1, by omega⟩
    simp only [boscagelaw02_Rises.l0]
    rw [if_neg (by simp), decide_eq_true (by simpa using hs)]
  | p :: rest, pre, k, hk, hn, hs => by
    obtain ⟨k, rfl⟩ : ∃ m, k = m + 1 := ⟨k - 1, by omega⟩
    simp only [boscagelaw02_Rises.l0]
    rw [if_pos (by simp; omega)]
    refine Rises_l1 pre [] p rest pre rfl k ?_ hn hs (by simp)
    simp only [List.length_cons, Nat.succ_mul] at hk
    have : rest.length * (pre.length + (rest.length + 1) + 2) = rest.length * (pre.length + 1 + rest.length + 2) := by congr 1; omega
    omega
termination_by rest pre => (rest.length, pre.length + 1)
theorem Rises_l1 : ∀ (b a : List S40) (p : S40) (rest pre : List S40), pre = a ++ b → ∀ (k : Nat), b.length + 1 + rest.length * (pre.length + 1 + rest.length + 2) < k → (pre ++ p :: rest).length < 1000000 → srt pre → (∀ q ∈ a, q.f0 < p.f0) →
    boscagelaw02_Rises.l1 k (pre ++ p :: rest) (pre.length : Int) ((pre ++ p :: rest).length : Int) (pre.length : Int) (pre.length : Int) (a.length : Int) = some (decide (srt (pre ++ p :: rest)))
  | [], a, p, rest, pre, hp, k, hk, hn, hs, ha => by
    obtain ⟨k, rfl⟩ : ∃ m, k = m + 1 := ⟨k - 1, by omega⟩
    subst hp
    simp only [List.append_nil] at *
    simp only [boscagelaw02_Rises.l1]
    have e1 : ((a.length + 1 : Nat) : Int) = ((a ++ [p]).length : Int) := by simp
    have e2 : a ++ p :: rest = (a ++ [p]) ++ rest := by simp
    rw [if_neg (by omega), wrap_succ _ (by simp at hn; omega), e1, e2]
    refine Rises_l0 rest (a ++ [p]) k ?_ (by rw [← e2]; exact hn) ?_
    · simp only [List.length_append, List.length_cons, List.length_nil, Nat.zero_add] at hk ⊢
      omega
    · exact List.pairwise_append.2 ⟨hs, by simp, fun q hq r hr => by simp at hr; subst hr; exact ha q hq⟩
  | q :: b, a, p, rest, pre, hp, k, hk, hn, hs, ha => by
    obtain ⟨k, rfl⟩ : ∃ m, k = m + 1 := ⟨k - 1, by omega⟩
    have hlen : pre.length = a.length + b.length + 1 := by rw [hp]; simp; omega
    have ht : (pre ++ p :: rest).length = pre.length + rest.length + 1 := by simp; omega
    have r1 : rd_T40 (pre ++ p :: rest) (a.length : Int) = q := by
      rw [hp, List.append_assoc, List.cons_append]; exact rd_mid _ _ _
    simp only [boscagelaw02_Rises.l1]
    rw [if_pos (by omega), if_pos (by omega), if_pos (by omega), if_pos (by omega), if_pos (by omega), r1, rd_mid]
    by_cases h : q.f0 ≥ p.f0
    · rw [if_pos h, decide_eq_false]
      intro hh
      have := srt_app_cons _ _ _ hh q (by rw [hp]; simp)
      omega
    · rw [if_neg h, wrap_succ _ (by omega)]
      have e1 : ((a.length + 1 : Nat) : Int) = ((a ++ [q]).length : Int) := by simp
      rw [e1]
      refine Rises_l1 b (a ++ [q]) p rest pre (by rw [hp]; simp) k (by simp only [List.length_cons] at hk; omega) hn hs ?_
      intro r hr
      rcases List.mem_append.1 hr with hr | hr
      · exact ha r hr
      · simp at hr; subst hr; omega
termination_by b a p rest => (rest.length + 1, b.length)
end
theorem Rises_f (l : List S40) (k : Nat) (hl : l.length ≤ 60) (hk : 10000 ≤ k) : boscagelaw02_Rises.f k l = some (decide (srt l)) := by
  have hm : l.length * (0 + l.length + 2) ≤ 60 * 62 := Nat.mul_le_mul hl (by omega)
  have := Rises_l0 l [] k (by simp only [List.length_nil]; omega) (by simp; omega) List.Pairwise.nil
  simpa [boscagelaw02_Rises.f] using this

theorem keys_l0 : ∀ (rest pre : List S40) (acc : List Int) (k : Nat), rest.length < k → (pre ++ rest).length < 1000000 → acc.length + rest.length < 1000000 →
    boscagelaw02_keys.l0 k acc (pre ++ rest) ((pre ++ rest).length : Int) (pre.length : Int) = some (acc ++ rest.map (·.f0))
  | [], pre, acc, k, hk, hn, ha => by
    obtain ⟨k, rfl⟩ : ∃ m, k = m + 1 := ⟨k - 1, by omega⟩
    simp only [boscagelaw02_keys.l0]
    rw [if_neg (by simp)]
    simp
  | p :: rest, pre, acc, k, hk, hn, ha => by
    obtain ⟨k, rfl⟩ : ∃ m, k = m + 1 := ⟨k - 1, by omega⟩
    simp only [List.length_append, List.length_cons] at hk hn ha
    simp only [boscagelaw02_keys.l0]
    rw [if_pos (by simp; omega), if_pos (by omega), if_pos (by simp; omega), if_pos (by omega), rd_mid, wrap_succ _ (by omega)]
    have e1 : ((pre.length + 1 : Nat) : Int) = ((pre ++ [p]).length : Int) := by simp
    have e2 : pre ++ p :: rest = (pre ++ [p]) ++ rest := by simp
    rw [e1, e2, keys_l0 rest (pre ++ [p]) _ k (by omega) (by simp; omega) (by simp; omega)]
    simp
theorem keys_f (l : List S40) (k : Nat) (hl : l.length < 1000) (hk : 1000 ≤ k) : boscagelaw02_keys.f k l = some (l.map (·.f0)) := by
  have := keys_l0 l [] [] k (by omega) (by simp; omega) (by simp; omega)
  simpa [boscagelaw02_keys.f] using this

theorem Between_l0 (x y : Int) : ∀ (rest pre acc : List S40) (k : Nat), rest.length < k → (pre ++ rest).length < 1000000 → acc.length + rest.length < 1000000 →
    boscagelaw02_Between.l0 k x y acc (pre ++ rest) ((pre ++ rest).length : Int) (pre.length : Int) = some (acc ++ rest.filter (fun p => decide (x ≤ p.f0 ∧ p.f0 ≤ y)))
  | [], pre, acc, k, hk, hn, ha => by
    obtain ⟨k, rfl⟩ : ∃ m, k = m + 1 := ⟨k - 1, by omega⟩
    simp only [boscagelaw02_Between.l0]
    rw [if_neg (by simp)]
    simp
  | p :: rest, pre, acc, k, hk, hn, ha => by
    obtain ⟨k, rfl⟩ : ∃ m, k = m + 1 := ⟨k - 1, by omega⟩
    simp only [List.length_append, List.length_cons] at hk hn ha
    simp only [boscagelaw02_Between.l0]
    have e1 : ((pre.length + 1 : Nat) : Int) = ((pre ++ [p]).length : Int) := by simp
    have e2 : pre ++ p :: rest = (pre ++ [p]) ++ rest := by simp
    rw [if_pos (by simp; omega), if_pos (by omega), if_pos (by simp; omega), rd_mid, wrap_succ _ (by omega), e1, e2]
    by_cases h1 : x ≤ p.f0
    · by_cases h2 : p.f0 ≤ y
      · rw [if_pos h1, if_pos h2, if_pos (by omega), Between_l0 x y rest (pre ++ [p]) _ k (by omega) (by simp; omega) (by simp; omega), List.filter_cons_of_pos (by simp [h1, h2])]
        simp
      · rw [if_pos h1, if_neg h2, Between_l0 x y rest (pre ++ [p]) _ k (by omega) (by simp; omega) (by omega), List.filter_cons_of_neg (by simp; omega)]
    · rw [if_neg h1, Between_l0 x y rest (pre ++ [p]) _ k (by omega) (by simp; omega) (by omega), List.filter_cons_of_neg (by simp; omega)]
theorem Between_f (l : List S40) (x y : Int) (k : Nat) (hl : l.length < 1000) (hk : 1000 ≤ k) : boscagelaw02_Between.f k l x y = some (l.filter (fun p => decide (x ≤ p.f0 ∧ p.f0 ≤ y))) := by
  have := Between_l0 x y l [] [] k (by omega) (by simp; omega) (by simp; omega)
  simpa [boscagelaw02_Between.f] using this
theorem LBetween_eq : ∀ k, leaf_Leaf_Between.l0 k = boscagelaw02_Between.l0 k
  | 0 => by funext a b c d e f; simp only [leaf_Leaf_Between.l0, boscagelaw02_Between.l0]
  | k + 1 => by funext a b c d e f; simp only [leaf_Leaf_Between.l0, boscagelaw02_Between.l0, LBetween_eq k, ge_iff_le]
theorem LBetween_f (l : List S40) (x y : Int) (k : Nat) (hl : l.length < 1000) (hk : 1000 ≤ k) : leaf_Leaf_Between.f k l x y = some (l.filter (fun p => decide (x ≤ p.f0 ∧ p.f0 ≤ y))) := by
  rw [← Between_f l x y k hl hk]
  unfold leaf_Leaf_Between.f boscagelaw02_Between.f
  rw [LBetween_eq]
theorem Join_f (l o : List S40) (h : l.length + o.length < 1000000) : leaf_Leaf_Join.f l o = some (l ++ o) := by
  unfold leaf_Leaf_Join.f
  rw [if_pos (by omega)]
end Go.Proofs.Ytkoiffkonjpoiaa.Y
