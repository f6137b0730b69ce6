/- The statement StoryMost as plain Lean: what it computes is true for every input. No condition beyond the arguments' own bounds. -/
import Derived.Test.YtkoiffkonjpoiaaQLStoryMost
import Derived.Test.YtkoiffkonjpoiaaYModel2
namespace Go.Proofs.Ytkoiffkonjpoiaa.Pure
open Go.RowKit Go.Proofs.Ytkoiffkonjpoiaa.Q Go.Proofs.YtkoiffkonjpoiaaW.PrintWords Go.Proofs.YtkoiffkonjpoiaaW.PrintLast Go.Proofs.Ytkoiffkonjpoiaa.Y
theorem most_stepE (m : Nat) (hm : 1000 ≤ m) (key : Int) (i : Nat) : stepE (m + 1) [] (mostE key i) = some (some []) := by
  have h1 := ap0 (L := []) (m + 1) (fun p hp => by simp at hp) (fun p hp => by simp at hp) (by simp) (by omega) (by simp [srt]) key
  have h2 : model_Same.f (m + 1) 0 false 0 0 [] false 0 false 0 0 [] false = some true := by simp [model_Same.f, leaf_Pair_115.f, leaf_Pair_115.l0]
  have h3 : khas [] key = false := rfl
  have h4 : valL [] key = 0 := rfl
  rw [h3, h4] at h1
  have h0 : 0 ≤ (mostE key i).f3 := by show (0 : Int) ≤ 2 * (i : Int) + 1; omega
  unfold stepE
  rw [show model_Apply.f (m + 1) [] (mostE key i).f1.f0 (mostE key i).f1.f1 (mostE key i).f1.f2 (mostE key i).f1.f3 = some ([], 0, false, 0, 0, [], false) from h1, Option.bind_some]
  dsimp only
  rw [if_pos (by simp), if_pos h0, show model_Same.f (m + 1) 0 false 0 0 [] false (mostE key i).f4.f0 (mostE key i).f4.f1 (mostE key i).f4.f2 (mostE key i).f4.f3 (mostE key i).f4.f4 (mostE key i).f4.f5 = some true from h2, Option.bind_some]
  rfl
theorem most_must (key : Int) (i : Nat) : mustE (mostE key i) = true := by
  unfold mustE
  show (decide ((0 : Int) ≤ 2 * (i : Int) + 1) && !((0 : Int) == 3 || (0 : Int) == 4)) = true
  rw [decide_eq_true (by omega)]
  rfl
theorem most_at (key : Int) (n i : Nat) (hi : i < n) : (mostL key n)[i]? = some (mostE key i) := by simp [mostL, hi]
theorem most_evs (k : Nat) (key : Int) (n i : Nat) (hi : i < n) : ((mostL key n).map (evOf k))[i]? = some (evOf k (mostE key i)) := by rw [List.getElem?_map, most_at key n i hi]; rfl
theorem most_sstep (m : Nat) (hm : 1000 ≤ m) (key : Int) (n i : Nat) (hi : i < n) : (stOf (m + 1) (mostL key n)).step [] i = some [] := by
  show Srch.stepAt _ [] i = _
  unfold Srch.stepAt
  rw [most_evs _ key n i hi]
  show (stepE (m + 1) [] (mostE key i)).join = _
  rw [most_stepE m hm key i]
  rfl
theorem most_chain (m : Nat) (hm : 1000 ≤ m) (key : Int) (n : Nat) : ∀ so : List Nat, (∀ i ∈ so, i < n) → Srch.chain (stOf (m + 1) (mostL key n)) [] so = some []
  | [], _ => rfl
  | i :: r, h => by
    simp only [Srch.chain]
    rw [most_sstep m hm key n i (h i List.mem_cons_self), Option.bind_some]
    exact most_chain m hm key n r (fun j hj => h j (List.mem_cons_of_mem _ hj))
theorem most_order (m : Nat) (hm : 1000 ≤ m) (key : Int) : Order.f (m + 1) [] (mostL key 62) = some (true, List.range 62) := by
  have hn : (stOf (m + 1) (mostL key 62)).n = 62 := by show ((mostL key 62).map (evOf (m + 1))).length = 62; rw [List.length_map, mostL_length]
  have hmu : ∀ i, i < (stOf (m + 1) (mostL key 62)).n → (stOf (m + 1) (mostL key 62)).must i = true := fun i hi => by
    rw [mustAt_evs, most_at key 62 i (by omega)]
    exact most_must key i
  have hbe : ∀ i j, i < 62 → j < 62 → (stOf (m + 1) (mostL key 62)).before i j = decide (2 * (i : Int) + 1 < 2 * (j : Int)) := fun i j hi hj => by
    rw [before_evs (m + 1) _ (most_at key 62 j hj) (most_at key 62 i hi)]
    rw [most_must]
    rfl
  have hbo : ∀ i j, j < i → (stOf (m + 1) (mostL key 62)).before i j = false := fun i j hji => by
    by_cases hi : i < 62
    · rw [hbe i j hi (by omega)]
      exact decide_eq_false (by omega)
    · show Srch.beforeAt _ i j = false
      unfold Srch.beforeAt
      rw [List.getElem?_eq_none (by rw [List.length_map, mostL_length]; omega)]
  obtain ⟨b, seen', so', h1, h2, h3, h4⟩ := Srch.find_top (stOf (m + 1) (mostL key 62)) txtU (stepF (m + 1) (mostL key 62)) (fun _ p => p = []) (fun p => p = []) (fun _ _ h => h) (fun p q hp hq _ => hp.trans hq.symm) (fun f p hp i hi => by
    subst hp
    rw [hn] at hi
    refine ⟨?_, fun q hq => ?_⟩
    · rw [most_sstep m hm key 62 i hi]
      unfold stepF
      rw [most_at key 62 i hi]
      exact most_stepE m hm key i
    · rw [most_sstep m hm key 62 i hi] at hq
      exact (Option.some.inj hq).symm) 100 [] rfl (by rw [hn]; omega)
  have hL : Srch.Legal (stOf (m + 1) (mostL key 62)) [] (List.range (stOf (m + 1) (mostL key 62)).n) := Srch.legal_seq_ok hbo (fun i hi => by
    rw [may_evs (m + 1) _ (most_at key 62 i (by omega))]
    simp [noneE, mostE]) (by rw [most_chain m hm key 62 _ (fun i hi => by have := List.mem_range.1 hi; omega)]; rfl)
  have hS : (Srch.srch (stOf (m + 1) (mostL key 62)) 100 0 []).isSome = true := (Srch.srch_iff _ (by rw [hn]; omega)).2 ⟨_, hL⟩
  rw [hS] at h2
  subst h2
  have hl2 := Srch.srch_legal _ (h3 rfl)
  have h5 := Srch.legal_seq (fun i j hij hj => by rw [hn] at hj; rw [hbe i j (by omega) hj]; exact decide_eq_true (by omega)) hmu hl2
  rw [hn] at h5
  unfold Order.f
  rw [if_neg (by rw [mostL_length]; omega), if_pos (by simp)]
  show (Srch.find (stOf (m + 1) (mostL key 62)) txtU (stepF (m + 1) (mostL key 62)) 100 0 [] [] []).bind _ = _
  rw [h1, Option.bind_some, if_pos rfl, h5]
theorem StoryMost (a0 a1 : Int) (_w0 : (Lit.int .u8 a0).wf = true) (_w1 : (Lit.int .i64 a1).wf = true) : ∃ k, boscagelaw22_StoryMost.f k a0 a1 = some true := by
  refine ⟨1000 + 1, ?_⟩
  have hw : 0 ≤ a0 := by
    have h' : (decide (IntKind.u8.min ≤ a0) && decide (a0 ≤ IntKind.u8.max)) = true := _w0
    rw [Bool.and_eq_true, decide_eq_true_iff, decide_eq_true_iff] at h'
    have e1 : IntKind.u8.min = 0 := by decide
    omega
  have hn : 0 ≤ a0.tmod 4 := Int.tmod_nonneg 4 hw
  obtain ⟨m, hm⟩ : ∃ m, m = (a0.tmod 4).toNat := ⟨_, rfl⟩
  have hm4 : a0.tmod 4 = (m : Int) := by omega
  unfold boscagelaw22_StoryMost.f
  rw [if_pos hn, hm4, Int.toNat_natCast]
  by_cases h0 : m = 0
  · subst h0
    rw [show 62 + 0 = 62 from rfl, most_order 1000 (by omega) a1, Option.bind_some, if_neg (by omega), if_pos rfl]
    decide
  · have ho : Order.f (1000 + 1) [] (mostL a1 (62 + m)) = some (false, []) := by
      unfold Order.f
      rw [if_pos (by rw [mostL_length]; omega)]
    unfold Linear.f
    rw [ho, Option.bind_some, if_pos (by omega)]
    rfl
end Go.Proofs.Ytkoiffkonjpoiaa.Pure
