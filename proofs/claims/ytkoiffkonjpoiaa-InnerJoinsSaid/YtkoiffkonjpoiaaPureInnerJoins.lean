/- The statement InnerJoins as plain Lean: what it computes is true for every input. No condition beyond the arguments' own bounds. -/
import Derived.Test.YtkoiffkonjpoiaaQLInnerJoins
import Derived.Test.YtkoiffkonjpoiaaYInner2
import Derived.Test.YtkoiffkonjpoiaaYInner3
import Derived.Test.YtkoiffkonjpoiaaXTypes
namespace Go.Proofs.Ytkoiffkonjpoiaa.Pure
open Go.RowKit Go.Proofs.Ytkoiffkonjpoiaa.Q Go.Proofs.YtkoiffkonjpoiaaW.PrintWords Go.Proofs.YtkoiffkonjpoiaaW.PrintLast Go.Proofs.Ytkoiffkonjpoiaa.Y
theorem IJoin_f (K W : List Int) (a : Int) (K2 W2 : List Int) (h : K.length < 1000) (h1 : W.length < 1000) (h2 : K2.length < 1000) (h3 : W2.length < 1000) : inner_Inner_Join.f K W a K2 W2 = some (K ++ [a] ++ K2, W ++ W2) := by
  unfold inner_Inner_Join.f slices_Clone_int64_int64.f ref_Ref_107.f
  rw [if_pos (by omega), Option.bind_some, Option.bind_some, if_pos (by simp; omega), Option.bind_some, if_pos (by simp; omega), if_pos (by omega), Option.bind_some, if_pos (by omega)]
theorem LJoin_f (K W : List Int) (a : Int) (K2 W2 : List Int) (h : K.length < 1000) (h1 : W.length < 1000) (h2 : K2.length < 1000) (h3 : W2.length < 1000) : boscagelaw03_Join.f K W a K2 W2 = some (K ++ [a] ++ K2, W ++ W2) := by
  unfold boscagelaw03_Join.f
  rw [Copy_f _ _ (by omega) (by omega), Option.bind_some, if_pos (by dsimp only; omega), if_pos (by dsimp only; omega), Option.bind_some, if_pos (by simp; omega)]
theorem InnerJoins_j0 (K W : List Int) (k : Nat) (hk : 5000 ≤ k) (hW : W.length = K.length + 1) (h2 : 2 ≤ W.length) (hl : W.length < 1000) : boscagelaw03_InnerJoins.j0 (k + 2) false K W = some true := by
  simp only [boscagelaw03_InnerJoins.j0, Bool.false_eq_true, if_false]
  rw [IHalves_f K W k hW h2 hl, Option.bind_some, IJoin_f _ _ _ _ _ (by simp; omega) (by simp; omega) (by simp; omega) (by simp; omega), Option.bind_some]
  have e1 : K.take (W.length / 2 - 1) ++ [rd K ((W.length / 2 - 1 : Nat) : Int)] ++ K.drop (W.length / 2) = K := by
    obtain ⟨n, hn⟩ : ∃ n, W.length / 2 = n + 1 := ⟨W.length / 2 - 1, by omega⟩
    have hlt : n < K.length := by omega
    rw [hn, Nat.add_sub_cancel, rdi_lt _ _ hlt, List.append_assoc, List.singleton_append, ← List.drop_eq_getElem_cons hlt, List.take_append_drop]
  dsimp only
  rw [e1, List.take_append_drop, ISame_f _ _ _ (by omega) (by omega) (by omega), Option.bind_some]
theorem InnerJoins (x : S26) (y : S26) (a : Int) (w0 : X.ok26 x) (w1 : X.ok26 y) (w2 : X.wf a) : ∃ k, boscagelaw03_InnerJoins.f k x.f0 x.f1 y.f0 y.f1 a = some true := by
  obtain ⟨m, hm⟩ : ∃ m, m = 5000 := ⟨_, rfl⟩
  refine ⟨m + 2, ?_⟩
  unfold boscagelaw03_InnerJoins.f
  rw [Awake03 _ (by omega)]
  simp only [Option.bind_some, if_true]
  rw [short_f _ _ (by simp) (by omega), Option.bind_some, List.all_cons, List.all_cons, List.all_nil, Bool.and_true]
  by_cases h : (small ⟨x.f0, x.f1⟩ && small ⟨y.f0, y.f1⟩) = true
  · have h' := h
    rw [Bool.and_eq_true] at h'
    obtain ⟨h0, h1⟩ := small_of h'.1
    obtain ⟨g0, g1⟩ := small_of h'.2
    rw [if_pos h, IJoin_f _ _ _ _ _ (by omega) (by omega) (by omega) (by omega), Option.bind_some, LJoin_f _ _ _ _ _ (by omega) (by omega) (by omega) (by omega), Option.bind_some]
    dsimp only
    have hk : (x.f0 ++ [a] ++ y.f0).length ≤ 81 := by simp; omega
    have hw : (x.f1 ++ y.f1).length ≤ 80 := by simp; omega
    generalize x.f0 ++ [a] ++ y.f0 = K at hk
    generalize x.f1 ++ y.f1 = W at hw
    rw [ISame_f _ _ _ (by omega) (by omega) (by omega), Option.bind_some, if_pos rfl, Right_f _ _ (by omega) (by omega), Option.bind_some]
    by_cases hr : rightB K W = true
    · have hr' : W.length = K.length + 1 := by simpa [rightB] using hr
      rw [if_pos hr]
      by_cases h2 : (W.length : Int) < 2
      · rw [decide_eq_true h2]
        simp only [boscagelaw03_InnerJoins.j0, if_true]
      · rw [decide_eq_false h2]
        exact InnerJoins_j0 K W m (by omega) hr' (by omega) (by omega)
    · rw [if_neg hr]
      simp only [boscagelaw03_InnerJoins.j0, if_true]
  · rw [if_neg h]
end Go.Proofs.Ytkoiffkonjpoiaa.Pure
