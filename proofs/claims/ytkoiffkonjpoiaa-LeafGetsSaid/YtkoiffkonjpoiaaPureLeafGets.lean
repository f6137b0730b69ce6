/- The statement LeafGets as plain Lean: what it computes is true for every input. No condition beyond the arguments' own bounds. -/
import Derived.Test.YtkoiffkonjpoiaaQLLeafGets
import Derived.Test.YtkoiffkonjpoiaaYLeaf
namespace Go.Proofs.Ytkoiffkonjpoiaa.Pure
open Go.RowKit Go.Proofs.Ytkoiffkonjpoiaa.Q Go.Proofs.YtkoiffkonjpoiaaW.PrintWords Go.Proofs.YtkoiffkonjpoiaaW.PrintLast Go.Proofs.Ytkoiffkonjpoiaa.Y
theorem LeafGets : boscagelaw02_LeafGets.Pure := by
  intro raw key _ _ _ _
  refine ⟨5000, ?_⟩
  unfold boscagelaw02_LeafGets.f
  rw [Awake02]
  simp only [Option.bind_some, if_true]
  by_cases hl : (raw.length : Int) > 60
  · rw [if_pos hl]
  · have hs := srt_rise raw
    have hn := rise_length raw
    rw [if_neg hl, Rising_f raw 5000 (by omega) (by omega)]
    simp only [Option.bind_some]
    rw [Get_f hs (by omega)]
    simp only [Option.bind_some]
    rw [Find_f _ _ _ (by omega) (by omega), findI_srt hs]
    simp only [Option.bind_some]
    unfold valL
    obtain ⟨hc, ⟨hk, v, hv⟩ | ⟨hk, hv⟩⟩ := view hs key
    · have hlt : kcnt (rise raw) key < (rise raw).length := by
        have := congrArg List.length hv; simp at this; omega
      rw [hk]
      simp only [if_true]
      rw [if_neg (by omega), if_pos (by omega), if_pos (by omega)]
      simp
    · rw [hk]
      simp
end Go.Proofs.Ytkoiffkonjpoiaa.Pure
