/- The statement InnerTurns as plain Lean: what it computes is true for every input. No condition beyond the arguments' own bounds. -/
import Derived.Test.YtkoiffkonjpoiaaQLInnerTurns
import Derived.Test.YtkoiffkonjpoiaaYInner4
import Derived.Test.YtkoiffkonjpoiaaXTypes
namespace Go.Proofs.Ytkoiffkonjpoiaa.Pure
open Go.RowKit Go.Proofs.Ytkoiffkonjpoiaa.Q Go.Proofs.YtkoiffkonjpoiaaW.PrintWords Go.Proofs.YtkoiffkonjpoiaaW.PrintLast Go.Proofs.Ytkoiffkonjpoiaa.Y
theorem Turned_f (K W : List Int) (i a c b : Int) (hK : K.length ≤ 40) (hW : W.length ≤ 40) :
    inner_Inner_Turned.f K W i a c b = some (if inB K W i = true ∧ inB K W (i + 1) = true then (K.set i.toNat c, (W.set i.toNat a).set (i.toNat + 1) b) else (K, W)) := by
  unfold inner_Inner_Turned.f
  rw [clone_f _ _ (by omega) (by omega), Option.bind_some, iin_f _ _ _ (by omega) (by omega), Option.bind_some]
  by_cases h : inB K W i = true
  · obtain ⟨h1, h2, h3⟩ := (inB_iff K W i).1 h
    have e : wrap64 (i + 1) = i + 1 := by unfold wrap64; omega
    rw [if_pos h, e, iin_f _ _ _ (by omega) (by omega), Option.bind_some]
    by_cases g : inB K W (i + 1) = true
    · obtain ⟨g1, g2, g3⟩ := (inB_iff K W _).1 g
      rw [if_pos ⟨h, g⟩, g]
      simp only [inner_Inner_Turned.j0, Bool.not_true, Bool.false_eq_true, if_false]
      rw [if_pos ⟨h2, by omega, by omega, by omega⟩]
    · have g' : inB K W (i + 1) = false := Bool.eq_false_iff.2 g
      rw [if_neg (fun x => g x.2), g']
      simp only [inner_Inner_Turned.j0, Bool.not_false, if_true]
  · rw [if_neg h, if_neg (fun x => h x.1)]
    simp only [inner_Inner_Turned.j0, if_true]
theorem InnerTurns (x : S26) (i a c b : Int) (_w0 : X.ok26 x) (_w1 : X.wf i) (_w2 : X.wf a) (_w3 : X.wf c) (_w4 : X.wf b) : ∃ k, boscagelaw03_InnerTurns.f k x.f0 x.f1 i a c b = some true := by
  obtain ⟨m, hm⟩ : ∃ m, m = 5000 := ⟨_, rfl⟩
  refine ⟨m + 2, ?_⟩
  unfold boscagelaw03_InnerTurns.f
  rw [Awake03 _ (by omega), Option.bind_some, if_pos rfl, short_f _ _ (by simp) (by omega), Option.bind_some, List.all_cons, List.all_nil, Bool.and_true]
  by_cases h : small ⟨x.f0, x.f1⟩ = true
  · obtain ⟨h0, h1⟩ := small_of h
    rw [if_pos h, in_f _ _ _ (by omega) (by omega), Option.bind_some]
    have ew : wrap64 ((x.f1.length : Int) - 1) = (x.f1.length : Int) - 1 := by unfold wrap64; omega
    by_cases hi : inB x.f0 x.f1 i = true
    · obtain ⟨q1, q2, q3⟩ := (inB_iff _ _ _).1 hi
      rw [if_pos hi, ew]
      by_cases hl : i < (x.f1.length : Int) - 1
      · obtain ⟨n, rfl⟩ := Int.eq_ofNat_of_zero_le q2
        have hi2 : inB x.f0 x.f1 ((n : Int) + 1) = true := (inB_iff _ _ _).2 ⟨q1, by omega, by omega⟩
        have e2 : wrap64 ((n : Int) + 2) = ((n + 2 : Nat) : Int) := by unfold wrap64; omega
        rw [decide_eq_true hl]
        simp only [boscagelaw03_InnerTurns.j0, if_true]
        rw [e2, Instead_f _ _ _ _ n (n + 2) m q1 (by omega) (by omega) (by omega) (by simp) (by simp) (by omega), Option.bind_some, Turned_f _ _ _ _ _ _ h0 h1, if_pos ⟨hi, hi2⟩, Option.bind_some]
        dsimp only
        rw [Int.toNat_natCast, set2_lists _ _ _ _ (by omega), set1_lists _ _ _ (by omega), show n + 2 - 1 = n + 1 by omega, ISame_f _ _ _ (by simp; omega) (by simp; omega) (by omega), Option.bind_some]
      · have hi2 : ¬ inB x.f0 x.f1 (i + 1) = true := fun hh => by have := (inB_iff _ _ _).1 hh; omega
        rw [decide_eq_false hl]
        simp only [boscagelaw03_InnerTurns.j0, Bool.false_eq_true, if_false]
        rw [Turned_f _ _ _ _ _ _ h0 h1, if_neg (fun hh => hi2 hh.2), Option.bind_some]
        dsimp only
        rw [ISame_f _ _ _ (by omega) (by omega) (by omega), Option.bind_some]
    · rw [if_neg hi]
      simp only [boscagelaw03_InnerTurns.j0, Bool.false_eq_true, if_false]
      rw [Turned_f _ _ _ _ _ _ h0 h1, if_neg (fun hh => hi hh.1), Option.bind_some]
      dsimp only
      rw [ISame_f _ _ _ (by omega) (by omega) (by omega), Option.bind_some]
  · rw [if_neg h]
end Go.Proofs.Ytkoiffkonjpoiaa.Pure
