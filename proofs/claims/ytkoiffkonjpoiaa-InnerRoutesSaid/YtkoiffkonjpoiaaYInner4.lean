/- More plain lemmas on the inner page: a part cut out, one put instead of some ways. No memory in it. -/
import Derived.Test.YtkoiffkonjpoiaaQM1
import Derived.Test.YtkoiffkonjpoiaaQM2
import Derived.Test.YtkoiffkonjpoiaaYInner3
namespace Go.Proofs.Ytkoiffkonjpoiaa.Y
open Go.RowKit Go.Proofs.Ytkoiffkonjpoiaa.Q Go.Proofs.YtkoiffkonjpoiaaW.PrintWords Go.Proofs.YtkoiffkonjpoiaaW.PrintLast Go.Proofs.YtkoiffkonjpoiaaW.PrintMore
set_option linter.unusedVariables false
set_option linter.unusedSimpArgs false
def inB (K W : List Int) (a : Int) : Bool := rightB K W && (decide (0 ≤ a) && decide (a < (W.length : Int)))
theorem iin_f (K W : List Int) (a : Int) (hK : K.length < 1000000) (hW : W.length < 1000000) : inner_Inner_in.f K W a = some (inB K W a) := by
  unfold inner_Inner_in.f inB
  by_cases h : 0 ≤ a
  · by_cases h1 : a < (W.length : Int)
    · rw [if_pos h, if_pos h1, right_f _ _ hK hW, decide_eq_true h, decide_eq_true h1, Option.bind_some, Bool.true_and, Bool.and_true]
    · rw [if_pos h, if_neg h1, decide_eq_false h1, Bool.and_false, Bool.and_false]
  · rw [if_neg h, decide_eq_false h, Bool.false_and, Bool.and_false]
theorem inB_iff (K W : List Int) (a : Int) : inB K W a = true ↔ W.length = K.length + 1 ∧ 0 ≤ a ∧ a < (W.length : Int) := by
  simp [inB, rightB]
theorem clone_f (K W : List Int) (hK : K.length < 1000000) (hW : W.length < 1000000) : inner_Inner_clone.f K W = some (K, W) := by
  unfold inner_Inner_clone.f slices_Clone_int64_int64.f ref_Ref_107.f
  rw [if_pos (by omega), Option.bind_some, if_pos (by omega), Option.bind_some]
theorem LawJoin_f (K W : List Int) (a : Int) (K2 W2 : List Int) (h : K.length < 1000) (h1 : W.length < 1000) (h2 : K2.length < 1000) (h3 : W2.length < 1000) : boscagelaw03_Join.f K W a K2 W2 = some (K ++ [a] ++ K2, W ++ W2) := by
  unfold boscagelaw03_Join.f
  rw [Copy_f _ _ (by omega) (by omega), Option.bind_some, if_pos (by dsimp only; omega), if_pos (by dsimp only; omega), Option.bind_some, if_pos (by simp; omega)]
theorem Cut_l0 (K W : List Int) (b : Nat) (hW : W.length = K.length + 1) (hb : b ≤ W.length) (hl : W.length < 1000) : ∀ (d i k : Nat) (AK AW : List Int), b - i ≤ d → d < k → i ≤ b → AK.length + (b - i) < 100000 → AW.length + (b - i) < 100000 →
    boscagelaw03_Cut.l0 k (b : Int) (i : Int) K W AK AW = some (AK ++ (K.take (b - 1)).drop i, AW ++ (W.take b).drop i)
  | d, i, 0, _, _, _, hk, _, _, _ => absurd hk (by omega)
  | d, i, k + 1, AK, AW, hd, hk, hi, h1, h2 => by
    simp only [boscagelaw03_Cut.l0]
    by_cases h : i < b
    · have e1 : (W.take b).drop i = W[i] :: (W.take b).drop (i + 1) := by rw [List.drop_eq_getElem_cons (by simp; omega), List.getElem_take]
      match d, hd, hk with
      | 0, hd, _ => exact absurd hd (by omega)
      | d + 1, hd, hk =>
        rw [if_pos (by omega), if_pos (by omega), if_pos (by omega), if_pos (by omega), Option.bind_some, wrap_succ _ (by omega), rdi_lt W i (by omega)]
        by_cases h3 : i + 1 < b
        · have e2 : (K.take (b - 1)).drop i = K[i] :: (K.take (b - 1)).drop (i + 1) := by rw [List.drop_eq_getElem_cons (by simp; omega), List.getElem_take]
          rw [if_pos (by omega), if_pos (by omega), if_pos (by omega), rdi_lt K i (by omega), Cut_l0 K W b hW hb hl d (i + 1) k (AK ++ [K[i]]) (AW ++ [W[i]]) (by omega) (by omega) (by omega) (by simp; omega) (by simp; omega), e1, e2]
          simp
        · have e2 : (K.take (b - 1)).drop i = [] := List.drop_of_length_le (by simp; omega)
          have e3 : (K.take (b - 1)).drop (i + 1) = [] := List.drop_of_length_le (by simp; omega)
          rw [if_neg (by omega), Cut_l0 K W b hW hb hl d (i + 1) k AK (AW ++ [W[i]]) (by omega) (by omega) (by omega) (by omega) (by simp; omega), e1, e2, e3]
          simp
    · obtain rfl : i = b := by omega
      rw [if_neg (by omega), List.drop_of_length_le (by simp; omega), List.drop_of_length_le (by simp; omega), List.append_nil, List.append_nil]
theorem Cut_f (K W : List Int) (a b k : Nat) (hW : W.length = K.length + 1) (hab : a ≤ b) (hb : b ≤ W.length) (hl : W.length < 1000) (hk : 1000 ≤ k) : boscagelaw03_Cut.f k K W (a : Int) (b : Int) = some ((K.take (b - 1)).drop a, (W.take b).drop a) := by
  unfold boscagelaw03_Cut.f
  rw [Cut_l0 K W b hW hb hl b a k [] [] (by omega) (by omega) hab (by simp; omega) (by simp; omega), List.nil_append, List.nil_append]
theorem Instead_j0 (K W X Y : List Int) (b k : Nat) (hW : W.length = K.length + 1) (hb0 : 0 < b) (hb : b ≤ W.length) (hl : W.length < 900) (hX : X.length < 900) (hY : Y.length < 900) (hk : 1000 ≤ k) :
    boscagelaw03_Instead.j0 (k + 1) (b : Int) K W X Y = some (X ++ K.drop (b - 1), Y ++ W.drop b) := by
  simp only [boscagelaw03_Instead.j0]
  by_cases h : b < W.length
  · have e1 : wrap64 ((b : Int) - 1) = ((b - 1 : Nat) : Int) := by unfold wrap64; omega
    have hlt : b - 1 < K.length := by omega
    have e2 : X ++ [K[b - 1]] ++ (K.take (W.length - 1)).drop b = X ++ K.drop (b - 1) := by
      rw [List.take_of_length_le (by omega), List.append_assoc, List.singleton_append]
      congr 1
      rw [List.drop_eq_getElem_cons hlt, show b - 1 + 1 = b by omega]
    rw [if_pos (by omega), e1, if_pos (by omega), if_pos (by omega), Cut_f K W b W.length k hW (by omega) (Nat.le_refl _) (by omega) hk, Option.bind_some, rdi_lt _ _ hlt,
      LawJoin_f _ _ _ _ _ (by omega) (by omega) (by simp; omega) (by simp; omega), Option.bind_some, Copy_f _ _ (by simp; omega) (by simp; omega), Option.bind_some]
    dsimp only
    rw [e2, List.take_length]
  · obtain rfl : b = W.length := by omega
    rw [if_neg (by omega), Copy_f _ _ (by omega) (by omega), Option.bind_some, List.drop_of_length_le (l := K) (by omega), List.drop_length, List.append_nil, List.append_nil]
/-- What stands instead of the ways from a on up to b. -/
theorem Instead_f (K W oK oW : List Int) (a b k : Nat) (hW : W.length = K.length + 1) (hab : a < b) (hb : b ≤ W.length) (hl : W.length < 400) (ho1 : oK.length < 400) (ho2 : oW.length < 400) (hk : 1000 ≤ k) :
    boscagelaw03_Instead.f (k + 1) K W (a : Int) (b : Int) oK oW = some (K.take a ++ oK ++ K.drop (b - 1), W.take a ++ oW ++ W.drop b) := by
  unfold boscagelaw03_Instead.f
  by_cases h : 0 < a
  · have e1 : wrap64 ((a : Int) - 1) = ((a - 1 : Nat) : Int) := by unfold wrap64; omega
    have hlt : a - 1 < K.length := by omega
    have z : (0 : Int) = ((0 : Nat) : Int) := rfl
    have e2 : (K.take (a - 1)).drop 0 ++ [K[a - 1]] ++ oK = K.take a ++ oK := by
      rw [List.drop_zero]
      congr 1
      conv => rhs; rw [show a = a - 1 + 1 by omega]
      exact (List.take_append_getElem hlt)
    rw [if_pos (by omega), z, Cut_f K W 0 a (k + 1) hW (by omega) (by omega) (by omega) (by omega), Option.bind_some, e1, if_pos (by omega), if_pos (by omega), rdi_lt _ _ hlt,
      LawJoin_f _ _ _ _ _ (by simp; omega) (by simp; omega) (by omega) (by omega), Option.bind_some]
    dsimp only
    rw [e2, List.drop_zero, Instead_j0 K W _ _ b k hW (by omega) hb (by omega) (by simp; omega) (by simp; omega) hk]
  · obtain rfl : a = 0 := by omega
    rw [if_neg (by omega), Instead_j0 K W _ _ b k hW (by omega) hb (by omega) (by omega) (by omega) hk, List.take_zero, List.take_zero, List.nil_append, List.nil_append]
end Go.Proofs.Ytkoiffkonjpoiaa.Y
