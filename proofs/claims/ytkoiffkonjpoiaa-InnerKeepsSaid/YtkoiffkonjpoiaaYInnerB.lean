/- More plain lemmas on the inner page: the way by counting, the page of some numbers. No memory in it. -/
import Derived.Test.YtkoiffkonjpoiaaQM1
import Derived.Test.YtkoiffkonjpoiaaYInner
import Derived.Test.YtkoiffkonjpoiaaYLeaf0
namespace Go.Proofs.Ytkoiffkonjpoiaa.Y
open Go.RowKit Go.Proofs.Ytkoiffkonjpoiaa.Q Go.Proofs.YtkoiffkonjpoiaaW.PrintWords Go.Proofs.YtkoiffkonjpoiaaW.PrintLast Go.Proofs.YtkoiffkonjpoiaaW.PrintMore
set_option linter.unusedVariables false
set_option linter.unusedSimpArgs false

def wayL (a : Int) (n : Nat) : List Int := (List.range n).map (fun i : Nat => a + (i : Int))
theorem wayL_length (a : Int) (n : Nat) : (wayL a n).length = n := by simp [wayL]
theorem Of_l0 (a : Int) (ha : -1000000 < a ∧ a < 1000000) : ∀ (rest pre : List S40) (ks : List Int) (m : Nat) (k : Nat), rest.length < k → (pre ++ rest).length < 1000000 → ks.length + rest.length < 1000000 → m + rest.length < 1000000 →
    boscagelaw03_Of.l0 k a (pre ++ rest) ((pre ++ rest).length : Int) (pre.length : Int) ks (wayL a m) = some (ks ++ rest.map (·.f0), wayL a (m + rest.length))
  | [], pre, ks, m, k, hk, hn, hks, hm => by
    obtain ⟨k, rfl⟩ : ∃ m, k = m + 1 := ⟨k - 1, by omega⟩
    simp only [boscagelaw03_Of.l0]
    rw [if_neg (by simp)]
    simp
  | p :: rest, pre, ks, m, k, hk, hn, hks, hm => by
    obtain ⟨k, rfl⟩ : ∃ m, k = m + 1 := ⟨k - 1, by omega⟩
    simp only [List.length_append, List.length_cons] at hk hn hks hm
    simp only [boscagelaw03_Of.l0]
    have e1 : ((pre.length + 1 : Nat) : Int) = ((pre ++ [p]).length : Int) := by simp
    have e2 : pre ++ p :: rest = (pre ++ [p]) ++ rest := by simp
    have hw : wrap64 (a + ((wayL a m).length : Int)) = a + (m : Int) := by rw [wayL_length]; unfold wrap64; omega
    have e3 : wayL a m ++ [a + (m : Int)] = wayL a (m + 1) := by simp [wayL, List.range_succ]
    rw [if_pos (by simp; omega), if_pos (by omega), if_pos (by simp; omega), if_pos (by omega), if_pos (by rw [wayL_length]; omega), rd_mid, hw, e3, wrap_succ _ (by omega), e1, e2,
      Of_l0 a ha rest (pre ++ [p]) _ (m + 1) k (by omega) (by simp; omega) (by simp; omega) (by omega)]
    simp only [List.length_cons, List.map_cons, List.append_assoc, List.cons_append, List.nil_append]
    rw [show m + 1 + rest.length = m + (rest.length + 1) by omega]
theorem Of_f (raw : List Int) (a : Int) (ha : -1000000 < a ∧ a < 1000000) (k : Nat) (hl : raw.length < 900) (hk : 5000 ≤ k) :
    boscagelaw03_Of.f k raw a = some ((rise raw).map (·.f0), wayL a ((rise raw).length + 1)) := by
  have hn := rise_length raw
  unfold boscagelaw03_Of.f
  rw [Rising_f raw k hl hk, Option.bind_some]
  have := Of_l0 a ha (rise raw) [] [] 1 k (by omega) (by simp; omega) (by simp; omega) (by omega)
  have e : wayL a 1 = [a] := by simp [wayL]
  rw [e] at this
  rw [show 1 + (rise raw).length = (rise raw).length + 1 by omega] at this
  simpa using this
end Go.Proofs.Ytkoiffkonjpoiaa.Y
