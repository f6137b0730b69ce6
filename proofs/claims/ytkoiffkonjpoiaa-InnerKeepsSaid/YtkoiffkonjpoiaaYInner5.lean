/- Plain lemmas on the inner page: another one's ways instead of one. No memory in it. -/
import Derived.Test.YtkoiffkonjpoiaaQM3
import Derived.Test.YtkoiffkonjpoiaaYInner4
namespace Go.Proofs.Ytkoiffkonjpoiaa.Y
open Go.RowKit Go.Proofs.Ytkoiffkonjpoiaa.Q Go.Proofs.YtkoiffkonjpoiaaW.PrintWords Go.Proofs.YtkoiffkonjpoiaaW.PrintLast Go.Proofs.YtkoiffkonjpoiaaW.PrintMore
set_option linter.unusedVariables false
theorem Absorb_yes (K W oK oW : List Int) (n k : Nat) (hK : K.length ≤ 400) (hW : W.length = K.length + 1) (hn : n < W.length) (hoK : oK.length ≤ 400) (hoW : oW.length = oK.length + 1) :
    inner_Inner_Absorb.f (k + 1) K W (n : Int) oK oW = some (K.take n ++ oK ++ K.drop n, W.take n ++ oW ++ W.drop (n + 1)) := by
  have h1 : inB K W (n : Int) = true := (inB_iff _ _ _).2 ⟨hW, by omega, by omega⟩
  have h2 : rightB oK oW = true := by simp [rightB, hoW]
  have e : wrap64 ((n : Int) + 1) = ((n + 1 : Nat) : Int) := by unfold wrap64; omega
  unfold inner_Inner_Absorb.f
  rw [clone_f _ _ (by omega) (by omega), Option.bind_some, iin_f _ _ _ (by omega) (by omega), Option.bind_some, if_pos h1, right_f _ _ (by omega) (by omega), Option.bind_some, h2]
  simp only [inner_Inner_Absorb.j0, Bool.not_true, Bool.false_eq_true, if_false]
  rw [e]
  unfold ref_Ref_113.f slices_Insert_int64_int64.f
  rw [if_pos ⟨by omega, by omega, by omega, by omega, by omega⟩, Option.bind_some, if_pos ⟨by omega, by omega, by omega⟩, Option.bind_some, Int.toNat_natCast, Int.toNat_natCast]
end Go.Proofs.Ytkoiffkonjpoiaa.Y
