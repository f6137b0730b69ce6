/- The statement InnerAbsorbs as plain Lean: what it computes is true for every input. No condition beyond the arguments' own bounds. -/
import Derived.Test.YtkoiffkonjpoiaaQLInnerAbsorbs
import Derived.Test.YtkoiffkonjpoiaaYInner5
import Derived.Test.YtkoiffkonjpoiaaXTypes
namespace Go.Proofs.Ytkoiffkonjpoiaa.Pure
open Go.RowKit Go.Proofs.Ytkoiffkonjpoiaa.Q Go.Proofs.YtkoiffkonjpoiaaW.PrintWords Go.Proofs.YtkoiffkonjpoiaaW.PrintLast Go.Proofs.Ytkoiffkonjpoiaa.Y
theorem InnerAbsorbs (x y : S26) (i : Int) (_w0 : X.ok26 x) (_w1 : X.ok26 y) (_w2 : X.wf i) : ∃ k, boscagelaw03_InnerAbsorbs.f k x.f0 x.f1 y.f0 y.f1 i = some true := by
  obtain ⟨m, hm⟩ : ∃ m, m = 5000 := ⟨_, rfl⟩
  refine ⟨m + 2, ?_⟩
  unfold boscagelaw03_InnerAbsorbs.f
  rw [Awake03 _ (by omega), Option.bind_some, if_pos rfl, short_f _ _ (by simp) (by omega), Option.bind_some, List.all_cons, List.all_cons, List.all_nil, Bool.and_true]
  by_cases h : (small ⟨x.f0, x.f1⟩ && small ⟨y.f0, y.f1⟩) = true
  · have h' := h
    rw [Bool.and_eq_true] at h'
    obtain ⟨h0, h1⟩ := small_of h'.1
    obtain ⟨g0, g1⟩ := small_of h'.2
    rw [if_pos h, in_f _ _ _ (by omega) (by omega), Option.bind_some]
    by_cases hi : inB x.f0 x.f1 i = true
    · obtain ⟨q1, q2, q3⟩ := (inB_iff _ _ _).1 hi
      rw [if_pos hi, Right_f _ _ (by omega) (by omega), Option.bind_some]
      by_cases hl : rightB y.f0 y.f1 = true
      · have hl' : y.f1.length = y.f0.length + 1 := by simpa [rightB] using hl
        obtain ⟨n, rfl⟩ := Int.eq_ofNat_of_zero_le q2
        have e2 : wrap64 ((n : Int) + 1) = ((n + 1 : Nat) : Int) := by unfold wrap64; omega
        rw [hl]
        simp only [boscagelaw03_InnerAbsorbs.j0, if_true]
        rw [e2, Instead_f _ _ _ _ n (n + 1) m q1 (by omega) (by omega) (by omega) (by omega) (by omega) (by omega), Option.bind_some, Absorb_yes _ _ _ _ n m (by omega) q1 (by omega) (by omega) hl', Option.bind_some]
        dsimp only
        rw [show n + 1 - 1 = n by omega, ISame_f _ _ _ (by simp; omega) (by simp; omega) (by omega), Option.bind_some]
      · rw [Bool.eq_false_iff.2 hl]
        simp only [boscagelaw03_InnerAbsorbs.j0, Bool.false_eq_true, if_false]
        rw [Absorb_no _ _ _ _ _ m (by omega) (by omega) (by omega) (by omega) (fun hh => hl hh.2), Option.bind_some]
        dsimp only
        rw [ISame_f _ _ _ (by omega) (by omega) (by omega), Option.bind_some]
    · rw [if_neg hi]
      simp only [boscagelaw03_InnerAbsorbs.j0, Bool.false_eq_true, if_false]
      rw [Absorb_no _ _ _ _ _ m (by omega) (by omega) (by omega) (by omega) (fun hh => hi hh.1), Option.bind_some]
      dsimp only
      rw [ISame_f _ _ _ (by omega) (by omega) (by omega), Option.bind_some]
  · rw [if_neg h]
end Go.Proofs.Ytkoiffkonjpoiaa.Pure
