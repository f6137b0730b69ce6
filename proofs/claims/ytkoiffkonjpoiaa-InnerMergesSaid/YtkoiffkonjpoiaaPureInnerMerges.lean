/- The statement InnerMerges as plain Lean: what it computes is true for every input. No condition beyond the arguments' own bounds. -/
import Derived.Test.YtkoiffkonjpoiaaQLInnerMerges
import Derived.Test.YtkoiffkonjpoiaaYInner4
import Derived.Test.YtkoiffkonjpoiaaXTypes
namespace Go.Proofs.Ytkoiffkonjpoiaa.Pure
open Go.RowKit Go.Proofs.Ytkoiffkonjpoiaa.Q Go.Proofs.YtkoiffkonjpoiaaW.PrintWords Go.Proofs.YtkoiffkonjpoiaaW.PrintLast Go.Proofs.Ytkoiffkonjpoiaa.Y
theorem Merged_no (K W : List Int) (i a : Int) (k : Nat) (hK : K.length ≤ 40) (hW : W.length ≤ 40) (h : ¬ (inB K W i = true ∧ inB K W (i + 1) = true)) :
    inner_Inner_Merged.f (k + 1) K W i a = some (K, W) := by
  unfold inner_Inner_Merged.f
  rw [clone_f _ _ (by omega) (by omega), Option.bind_some, iin_f _ _ _ (by omega) (by omega), Option.bind_some]
  by_cases h1 : inB K W i = true
  · obtain ⟨_, h2, h3⟩ := (inB_iff K W i).1 h1
    have e : wrap64 (i + 1) = i + 1 := by unfold wrap64; omega
    have g' : inB K W (i + 1) = false := Bool.eq_false_iff.2 (fun g => h ⟨h1, g⟩)
    rw [if_pos h1, e, iin_f _ _ _ (by omega) (by omega), Option.bind_some, g']
    simp only [inner_Inner_Merged.j0, Bool.not_false, if_true]
  · rw [if_neg h1]
    simp only [inner_Inner_Merged.j0, if_true]
theorem Merged_yes (K W : List Int) (n : Nat) (a : Int) (k : Nat) (hK : K.length ≤ 40) (hW : W.length = K.length + 1) (hn : n + 1 < W.length) :
    inner_Inner_Merged.f (k + 1) K W (n : Int) a = some (K.take n ++ K.drop (n + 1), W.take n ++ [a] ++ W.drop (n + 2)) := by
  have h1 : inB K W (n : Int) = true := (inB_iff _ _ _).2 ⟨hW, by omega, by omega⟩
  have h2 : inB K W ((n + 1 : Nat) : Int) = true := (inB_iff _ _ _).2 ⟨hW, by omega, by omega⟩
  have e : wrap64 ((n : Int) + 1) = ((n + 1 : Nat) : Int) := by unfold wrap64; omega
  have e2 : wrap64 ((n : Int) + 2) = ((n + 2 : Nat) : Int) := by unfold wrap64; omega
  unfold inner_Inner_Merged.f
  rw [clone_f _ _ (by omega) (by omega), Option.bind_some, iin_f _ _ _ (by omega) (by omega), Option.bind_some, if_pos h1, e, iin_f _ _ _ (by omega) (by omega), Option.bind_some, h2]
  simp only [inner_Inner_Merged.j0, Bool.not_true, Bool.false_eq_true, if_false]
  rw [e, e2]
  unfold ref_Ref_113.f slices_Delete_int64_int64.f
  rw [if_pos ⟨by omega, by omega, by omega, by simp, by simp; omega⟩, Option.bind_some, if_pos ⟨by omega, by omega, by omega⟩, Option.bind_some, Int.toNat_natCast, Int.toNat_natCast, Int.toNat_natCast]
theorem InnerMerges (x : S26) (i a : Int) (_w0 : X.ok26 x) (_w1 : X.wf i) (_w2 : X.wf a) : ∃ k, boscagelaw03_InnerMerges.f k x.f0 x.f1 i a = some true := by
  obtain ⟨m, hm⟩ : ∃ m, m = 5000 := ⟨_, rfl⟩
  refine ⟨m + 2, ?_⟩
  unfold boscagelaw03_InnerMerges.f
  rw [Awake03 _ (by omega), Option.bind_some, if_pos rfl, short_f _ _ (by simp) (by omega), Option.bind_some, List.all_cons, List.all_nil, Bool.and_true]
  by_cases h : small ⟨x.f0, x.f1⟩ = true
  · obtain ⟨h0, h1⟩ := small_of h
    rw [if_pos h, in_f _ _ _ (by omega) (by omega), Option.bind_some]
    have ew : wrap64 ((x.f1.length : Int) - 1) = (x.f1.length : Int) - 1 := by unfold wrap64; omega
    by_cases hi : inB x.f0 x.f1 i = true
    · obtain ⟨q1, q2, q3⟩ := (inB_iff _ _ _).1 hi
      rw [if_pos hi, ew]
      by_cases hl : i < (x.f1.length : Int) - 1
      · obtain ⟨n, rfl⟩ := Int.eq_ofNat_of_zero_le q2
        have e2 : wrap64 ((n : Int) + 2) = ((n + 2 : Nat) : Int) := by unfold wrap64; omega
        rw [decide_eq_true hl]
        simp only [boscagelaw03_InnerMerges.j0, if_true]
        rw [e2, Instead_f _ _ _ _ n (n + 2) m q1 (by omega) (by omega) (by omega) (by simp) (by simp) (by omega), Option.bind_some, Merged_yes _ _ n _ m h0 q1 (by omega), Option.bind_some]
        dsimp only
        rw [List.append_nil, show n + 2 - 1 = n + 1 by omega, ISame_f _ _ _ (by simp; omega) (by simp; omega) (by omega), Option.bind_some]
      · have hi2 : ¬ inB x.f0 x.f1 (i + 1) = true := fun hh => by have := (inB_iff _ _ _).1 hh; omega
        rw [decide_eq_false hl]
        simp only [boscagelaw03_InnerMerges.j0, Bool.false_eq_true, if_false]
        rw [Merged_no _ _ _ _ m h0 h1 (fun hh => hi2 hh.2), Option.bind_some]
        dsimp only
        rw [ISame_f _ _ _ (by omega) (by omega) (by omega), Option.bind_some]
    · rw [if_neg hi]
      simp only [boscagelaw03_InnerMerges.j0, Bool.false_eq_true, if_false]
      rw [Merged_no _ _ _ _ m h0 h1 (fun hh => hi hh.1), Option.bind_some]
      dsimp only
      rw [ISame_f _ _ _ (by omega) (by omega) (by omega), Option.bind_some]
  · rw [if_neg h]
end Go.Proofs.Ytkoiffkonjpoiaa.Pure
