/- More plain lemmas on the inner page: its parts, its halves. No memory in it. -/
import Derived.Test.YtkoiffkonjpoiaaQM1
import Derived.Test.YtkoiffkonjpoiaaQM2
import Derived.Test.YtkoiffkonjpoiaaYInner
namespace Go.Proofs.Ytkoiffkonjpoiaa.Y
open Go.RowKit Go.Proofs.Ytkoiffkonjpoiaa.Q Go.Proofs.YtkoiffkonjpoiaaW.PrintWords Go.Proofs.YtkoiffkonjpoiaaW.PrintLast Go.Proofs.YtkoiffkonjpoiaaW.PrintMore
set_option linter.unusedVariables false
set_option linter.unusedSimpArgs false

theorem ihalf_in (n : Nat) (h : n < 1000000) : wrap64 ((n : Int) / 2) = ((n / 2 : Nat) : Int) := by unfold wrap64; omega
theorem part_f (l : List Int) (a b : Nat) (h : a ≤ b) (hb : b ≤ l.length) (hl : l.length < 1000000) : inner_part_int64.f l (a : Int) (b : Int) = some ((l.take b).drop a) := by
  unfold inner_part_int64.f slices_Clone_int64_int64.f
  rw [if_pos (by omega), if_pos (by omega), if_pos (by omega), Int.toNat_natCast, Int.toNat_natCast, if_pos (by simp; omega)]
  simp only [Option.bind_some]
theorem ref_f (l : List Int) (a b : Nat) (h : a ≤ b) (hb : b ≤ l.length) (hl : l.length < 1000000) : ref_Ref_104.f l (a : Int) (b : Int) = some ((l.take b).drop a) := by
  unfold ref_Ref_104.f ref_Ref_107.f
  rw [if_pos (by omega), if_pos (by omega), if_pos (by omega), Int.toNat_natCast, Int.toNat_natCast, if_pos (by simp; omega)]
  simp only [Option.bind_some]
/-- A right page of two wayL or more in its halves. -/
theorem IHalves_f (K W : List Int) (k : Nat) (hW : W.length = K.length + 1) (h2 : 2 ≤ W.length) (hl : W.length < 1000) :
    inner_Inner_Halves.f (k + 1) K W = some (K.take (W.length / 2 - 1), W.take (W.length / 2), K.drop (W.length / 2), W.drop (W.length / 2), rd K ((W.length / 2 - 1 : Nat) : Int)) := by
  unfold inner_Inner_Halves.f inner_Inner_right.f
  have e0 : ((W.length : Int) == wrap64 ((K.length : Int) + 1)) = true := by
    rw [wrap_succ _ (by omega), hW]; simp
  rw [if_neg (by omega), Option.bind_some, e0, Bool.not_true]
  simp only [inner_Inner_Halves.j0, Bool.false_eq_true, if_false]
  have e2 : wrap64 (((W.length / 2 : Nat) : Int) - 1) = ((W.length / 2 - 1 : Nat) : Int) := by unfold wrap64; omega
  have z : (0 : Int) = ((0 : Nat) : Int) := rfl
  rw [ihalf_in _ (by omega), e2, z, part_f K 0 _ (by omega) (by omega) (by omega), Option.bind_some, ref_f W 0 _ (by omega) (by omega) (by omega), Option.bind_some,
    part_f K _ _ (by omega) (Nat.le_refl _) (by omega), Option.bind_some, ref_f W _ _ (by omega) (Nat.le_refl _) (by omega), Option.bind_some, if_pos (by omega), if_pos (by omega)]
  simp
end Go.Proofs.Ytkoiffkonjpoiaa.Y
