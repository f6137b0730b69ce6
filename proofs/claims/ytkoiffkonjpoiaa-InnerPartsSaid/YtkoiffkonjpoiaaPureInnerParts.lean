/- The statement InnerParts as plain Lean: what it computes is true for every input. No condition beyond the arguments' own bounds. -/
import Derived.Test.YtkoiffkonjpoiaaQLInnerParts
import Derived.Test.YtkoiffkonjpoiaaYInner2
namespace Go.Proofs.Ytkoiffkonjpoiaa.Pure
open Go.RowKit Go.Proofs.Ytkoiffkonjpoiaa.Q Go.Proofs.YtkoiffkonjpoiaaW.PrintWords Go.Proofs.YtkoiffkonjpoiaaW.PrintLast Go.Proofs.Ytkoiffkonjpoiaa.Y
theorem InnerParts : boscagelaw03_InnerParts.Pure := by
  intro raw x _ _ _ _
  refine ⟨5003, ?_⟩
  unfold boscagelaw03_InnerParts.f
  rw [Awake03 _ (by omega)]
  simp only [Option.bind_some, if_true]
  by_cases hl : (raw.length : Int) > 40
  · rw [if_pos hl]
  · have hn := rise_length raw
    have hs := keys_rise raw
    rw [if_neg hl, Of_f raw 1 (by omega) _ (by omega) (by omega)]
    generalize hK : (rise raw).map (·.f0) = K at hs
    have hKl : K.length = (rise raw).length := by rw [← hK]; simp
    rw [← hKl]
    have hc := cle_le K x
    rw [Option.bind_some]
    show (if ((wayL 1 (K.length + 1)).length : Int) < 2 then some true else _) = _
    rw [wayL_length]
    by_cases h2 : ((K.length + 1 : Nat) : Int) < 2
    · rw [if_pos h2]
    · rw [if_neg h2, IHalves_f K (wayL 1 (K.length + 1)) 5002 (wayL_length _ _) (by rw [wayL_length]; omega) (by rw [wayL_length]; omega), Option.bind_some, on_f K _ x _ hs (by omega) (wayL_length _ _) (by omega), rd_ways _ _ _ (by omega)]
      dsimp only
      rw [wayL_length]
      have hp : decide ((1 : Int) + (cle K x : Int) > 0) = true := decide_eq_true (by omega)
      by_cases hx : x ≥ rd K (((K.length + 1) / 2 - 1 : Nat) : Int)
      · have hr := cle_right K x ((K.length + 1) / 2) (by omega) (by omega) hs hx
        rw [if_pos hx, on_f _ _ x _ (pw_drop hs _) (by simp; omega) (by simp [wayL_length]; omega) (by omega), rd_drop, ← hr, rd_ways _ _ _ (by omega)]
        simp only [Option.bind_some, if_true]
        rw [hp]
      · have hr := cle_left K x ((K.length + 1) / 2) (by omega) (by omega) hs (by omega)
        have hc2 := cle_le (K.take ((K.length + 1) / 2 - 1)) x
        rw [List.length_take] at hc2
        rw [if_neg hx, on_f _ _ x _ (pw_take hs _) (by simp; omega) (by simp [wayL_length]; omega) (by omega), rd_take _ _ _ (by omega), ← hr, rd_ways _ _ _ (by omega)]
        simp only [Option.bind_some, if_true]
        rw [hp]
end Go.Proofs.Ytkoiffkonjpoiaa.Pure
