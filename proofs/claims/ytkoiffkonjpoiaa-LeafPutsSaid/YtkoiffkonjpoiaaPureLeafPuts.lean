/- The statement LeafPuts as plain Lean: what it computes is true for every input. No condition beyond the arguments' own bounds. -/
import Derived.Test.YtkoiffkonjpoiaaQLLeafPuts
import Derived.Test.YtkoiffkonjpoiaaYLeaf
namespace Go.Proofs.Ytkoiffkonjpoiaa.Pure
open Go.RowKit Go.Proofs.Ytkoiffkonjpoiaa.Q Go.Proofs.YtkoiffkonjpoiaaW.PrintWords Go.Proofs.YtkoiffkonjpoiaaW.PrintLast Go.Proofs.Ytkoiffkonjpoiaa.Y
theorem LeafPuts : boscagelaw02_LeafPuts.Pure := by
  intro raw key val _ _ _ _ _
  refine ⟨5002, ?_⟩
  unfold boscagelaw02_LeafPuts.f
  rw [Awake02]
  simp only [Option.bind_some, if_true]
  by_cases hl : (raw.length : Int) > 60
  · rw [if_pos hl]
  · have hs := srt_rise raw
    have hn := rise_length raw
    have hn2 := putL_length hs key val
    have hfin : boscagelaw02_LeafPuts.j0 5002 key val (rise raw) (putL (rise raw) key val) false = some true := by
      simp only [boscagelaw02_LeafPuts.j0]
      rw [Put_f hs key val _ (by omega) (by omega)]
      simp only [Option.bind_some]
      rw [Same_f _ _ _ (by omega) (by omega)]
      simp
    rw [if_neg hl, Rising_f raw _ (by omega) (by omega)]
    simp only [Option.bind_some]
    rw [Find_f _ _ _ (by omega) (by omega), findI_srt hs]
    simp only [Option.bind_some]
    rw [LPut_f hs (by omega)]
    simp only [Option.bind_some]
    unfold valL
    obtain ⟨hc, ⟨hk, v, hv⟩ | ⟨hk, hv⟩⟩ := view hs key
    · have hlt : kcnt (rise raw) key < (rise raw).length := by
        have := congrArg List.length hv; simp at this; omega
      rw [hk]
      simp only [if_true]
      rw [if_neg (by simp), if_pos (by omega), if_pos (by omega)]
      exact hfin
    · rw [hk]
      simpa using hfin
end Go.Proofs.Ytkoiffkonjpoiaa.Pure
