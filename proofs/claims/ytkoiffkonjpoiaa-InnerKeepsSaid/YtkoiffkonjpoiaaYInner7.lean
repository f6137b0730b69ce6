/- Plain lemmas on the inner page: what each change of a right page comes to, that it comes to something. No memory in it. -/
import Derived.Test.YtkoiffkonjpoiaaQM1
import Derived.Test.YtkoiffkonjpoiaaQM2
import Derived.Test.YtkoiffkonjpoiaaQM3
import Derived.Test.YtkoiffkonjpoiaaYInner5
import Derived.Test.YtkoiffkonjpoiaaYInner2
namespace Go.Proofs.Ytkoiffkonjpoiaa.Y
open Go.RowKit Go.Proofs.Ytkoiffkonjpoiaa.Q Go.Proofs.YtkoiffkonjpoiaaW.PrintWords Go.Proofs.YtkoiffkonjpoiaaW.PrintLast Go.Proofs.YtkoiffkonjpoiaaW.PrintMore
set_option linter.unusedVariables false
theorem Halves_some (K W : List Int) (k : Nat) (hW : W.length = K.length + 1) (hl : W.length < 1000) : ∃ r, inner_Inner_Halves.f (k + 1) K W = some r := by
  by_cases h : 2 ≤ W.length
  · exact ⟨_, IHalves_f K W k hW h hl⟩
  · refine ⟨(K, W, [], [], 0), ?_⟩
    unfold inner_Inner_Halves.f
    rw [if_pos (by omega)]
    simp only [inner_Inner_Halves.j0, if_true]
    rw [clone_f _ _ (by omega) (by omega), Option.bind_some]
theorem With_some (K W : List Int) (a r : Int) (hK : K.length < 1000000) (hW : W.length < 1000000) : ∃ x, inner_Inner_With.f K W a r = some x := by
  unfold inner_Inner_With.f
  rw [clone_f _ _ hK hW, Option.bind_some, iin_f _ _ _ hK hW, Option.bind_some]
  by_cases h : inB K W a = true
  · obtain ⟨_, h1, h2⟩ := (inB_iff _ _ _).1 h
    rw [if_pos h, if_pos h1, if_pos h2]
    exact ⟨_, rfl⟩
  · rw [if_neg h]
    exact ⟨_, rfl⟩
theorem Join_some (K W : List Int) (a : Int) (K2 W2 : List Int) (h : K.length < 1000) (h1 : W.length < 1000) (h2 : K2.length < 1000) (h3 : W2.length < 1000) : ∃ x, inner_Inner_Join.f K W a K2 W2 = some x := by
  refine ⟨(K ++ [a] ++ K2, W ++ W2), ?_⟩
  unfold inner_Inner_Join.f slices_Clone_int64_int64.f ref_Ref_107.f
  rw [if_pos (by omega), Option.bind_some, Option.bind_some, if_pos (by simp; omega), Option.bind_some, if_pos (by simp; omega), if_pos (by omega), Option.bind_some, if_pos (by omega)]
theorem Merged_some (K W : List Int) (n : Nat) (a : Int) (k : Nat) (hK : K.length ≤ 900) (hW : W.length = K.length + 1) (hn : n < W.length) : ∃ x, inner_Inner_Merged.f (k + 1) K W (n : Int) a = some x := by
  have h1 : inB K W (n : Int) = true := (inB_iff _ _ _).2 ⟨hW, by omega, by omega⟩
  have e : wrap64 ((n : Int) + 1) = ((n + 1 : Nat) : Int) := by unfold wrap64; omega
  unfold inner_Inner_Merged.f
  rw [clone_f _ _ (by omega) (by omega), Option.bind_some, iin_f _ _ _ (by omega) (by omega), Option.bind_some, if_pos h1, e, iin_f _ _ _ (by omega) (by omega), Option.bind_some]
  by_cases h2 : inB K W ((n + 1 : Nat) : Int) = true
  · obtain ⟨_, _, h3⟩ := (inB_iff _ _ _).1 h2
    have e2 : wrap64 ((n : Int) + 2) = ((n + 2 : Nat) : Int) := by unfold wrap64; omega
    rw [h2]
    simp only [inner_Inner_Merged.j0, Bool.not_true, Bool.false_eq_true, if_false]
    rw [e, e2]
    unfold ref_Ref_113.f slices_Delete_int64_int64.f
    rw [if_pos ⟨by omega, by omega, by omega, by simp, by simp; omega⟩, Option.bind_some, if_pos ⟨by omega, by omega, by omega⟩, Option.bind_some]
    exact ⟨_, rfl⟩
  · rw [Bool.eq_false_iff.2 h2]
    simp only [inner_Inner_Merged.j0, Bool.not_false, if_true]
    exact ⟨_, rfl⟩
theorem Turned_some (K W : List Int) (n : Nat) (a c b : Int) (hK : K.length ≤ 900) (hW : W.length = K.length + 1) (hn : n < W.length) : ∃ x, inner_Inner_Turned.f K W (n : Int) a c b = some x := by
  have h1 : inB K W (n : Int) = true := (inB_iff _ _ _).2 ⟨hW, by omega, by omega⟩
  have e : wrap64 ((n : Int) + 1) = ((n + 1 : Nat) : Int) := by unfold wrap64; omega
  unfold inner_Inner_Turned.f
  rw [clone_f _ _ (by omega) (by omega), Option.bind_some, iin_f _ _ _ (by omega) (by omega), Option.bind_some, if_pos h1, e, iin_f _ _ _ (by omega) (by omega), Option.bind_some]
  by_cases h2 : inB K W ((n + 1 : Nat) : Int) = true
  · obtain ⟨_, _, h3⟩ := (inB_iff _ _ _).1 h2
    rw [h2]
    simp only [inner_Inner_Turned.j0, Bool.not_true, Bool.false_eq_true, if_false]
    rw [if_pos ⟨by omega, by omega, by omega, by omega⟩]
    exact ⟨_, rfl⟩
  · rw [Bool.eq_false_iff.2 h2]
    simp only [inner_Inner_Turned.j0, Bool.not_false, if_true]
    exact ⟨_, rfl⟩
end Go.Proofs.Ytkoiffkonjpoiaa.Y
