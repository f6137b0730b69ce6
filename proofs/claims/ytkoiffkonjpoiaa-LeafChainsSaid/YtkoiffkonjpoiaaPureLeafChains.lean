/- The statement LeafChains as plain Lean: what it computes is true for every input. No condition beyond the arguments' own bounds. -/
import Derived.Test.YtkoiffkonjpoiaaQLLeafChains
import Derived.Test.YtkoiffkonjpoiaaYLeaf2
import Derived.Test.YtkoiffkonjpoiaaXTypes
namespace Go.Proofs.Ytkoiffkonjpoiaa.Pure
open Go.RowKit Go.Proofs.Ytkoiffkonjpoiaa.Q Go.Proofs.YtkoiffkonjpoiaaW.PrintWords Go.Proofs.YtkoiffkonjpoiaaW.PrintLast Go.Proofs.Ytkoiffkonjpoiaa.Y
theorem rd73_mid (A B : List S73) (p : S73) : rd_T73 (A ++ p :: B) (A.length : Int) = p := by
  simp [rd_T73]
theorem cut_le {l : List S40} (hs : srt l) (k : Int) : (cutL l k).length ≤ l.length := by
  rw [← filter_ne hs k]
  exact List.length_filter_le _ _
theorem LeafChains_l0 : ∀ (rest pre : List S73) (L : List S40) (k : Nat), srt L → L.length + rest.length ≤ 200 → rest.length + 3000 < k → (pre ++ rest).length < 1000000 →
    boscagelaw02_LeafChains.l0 k L L (pre ++ rest) ((pre ++ rest).length : Int) (pre.length : Int) = some true
  | [], pre, L, k, hs, hL, hk, hn => by
    obtain ⟨k, rfl⟩ : ∃ m, k = m + 1 := ⟨k - 1, by omega⟩
    simp only [boscagelaw02_LeafChains.l0]
    rw [if_neg (by simp), Same_f _ _ _ (by simp at hL; omega) (by omega), Option.bind_some, decide_eq_true rfl]
  | p :: rest, pre, L, k, hs, hL, hk, hn => by
    obtain ⟨k, rfl⟩ : ∃ m, k = m + 1 := ⟨k - 1, by omega⟩
    simp only [List.length_append, List.length_cons] at hk hn hL
    simp only [boscagelaw02_LeafChains.l0]
    have e1 : ((pre.length + 1 : Nat) : Int) = ((pre ++ [p]).length : Int) := by simp
    have e2 : pre ++ p :: rest = (pre ++ [p]) ++ rest := by simp
    have c1 := cut_le hs p.f1
    have p1 := putL_length hs p.f1 p.f2
    rw [if_pos (by simp; omega), if_pos (by omega), if_pos (by simp; omega), rd73_mid]
    by_cases h : p.f0 = true
    · rw [if_pos h, LCut_f hs (by omega), Option.bind_some, Cut_f hs _ _ (by omega) (by omega), Option.bind_some]
      dsimp only
      rw [LRises_f _ _ (by omega) (by omega), decide_eq_true (srt_cut hs _), Option.bind_some, if_pos rfl, wrap_succ _ (by omega), e1, e2]
      exact LeafChains_l0 rest (pre ++ [p]) _ k (srt_cut hs _) (by omega) (by omega) (by simp; omega)
    · rw [if_neg h, LPut_f hs (by omega), Option.bind_some, Put_f hs _ _ _ (by omega) (by omega), Option.bind_some]
      dsimp only
      rw [LRises_f _ _ (by omega) (by omega), decide_eq_true (srt_put hs _ _), Option.bind_some, if_pos rfl, wrap_succ _ (by omega), e1, e2]
      exact LeafChains_l0 rest (pre ++ [p]) _ k (srt_put hs _ _) (by omega) (by omega) (by simp; omega)
theorem LeafChains (l0 : List Int) (l1 : List S73) (_y0 : l0.length ≤ 9223372036854775807) (_w0 : ∀ y ∈ l0, X.wf y) (_y1 : l1.length ≤ 9223372036854775807) (_w1 : ∀ y ∈ l1, X.ok73 y) : ∃ k, boscagelaw02_LeafChains.f k l0 l1 = some true := by
  obtain ⟨m, hm⟩ : ∃ m, m = 5000 := ⟨_, rfl⟩
  refine ⟨m + 1, ?_⟩
  unfold boscagelaw02_LeafChains.f
  rw [Awake02]
  simp only [Option.bind_some, if_true]
  by_cases hl : (l0.length : Int) > 40
  · rw [if_pos hl]
    simp only [boscagelaw02_LeafChains.j0, if_true]
  · rw [if_neg hl]
    by_cases h2 : (l1.length : Int) > 40
    · rw [decide_eq_true h2]
      simp only [boscagelaw02_LeafChains.j0, if_true]
    · have hn := rise_length l0
      rw [decide_eq_false h2]
      simp only [boscagelaw02_LeafChains.j0, Bool.false_eq_true, if_false]
      rw [Rising_f _ _ (by omega) (by omega), Option.bind_some]
      have := LeafChains_l0 l1 [] (rise l0) m (srt_rise l0) (by omega) (by omega) (by simp; omega)
      simpa using this
end Go.Proofs.Ytkoiffkonjpoiaa.Pure
