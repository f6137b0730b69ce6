/- The statement LeafUndoes as plain Lean: what it computes is true for every input. No condition beyond the arguments' own bounds. -/
import Derived.Test.YtkoiffkonjpoiaaQLLeafUndoes
import Derived.Test.YtkoiffkonjpoiaaYLeaf
namespace Go.Proofs.Ytkoiffkonjpoiaa.Pure
open Go.RowKit Go.Proofs.Ytkoiffkonjpoiaa.Q Go.Proofs.YtkoiffkonjpoiaaW.PrintWords Go.Proofs.YtkoiffkonjpoiaaW.PrintLast Go.Proofs.Ytkoiffkonjpoiaa.Y
theorem LeafUndoes : boscagelaw02_LeafUndoes.Pure := by
  intro raw key val _ _ _ _ _
  refine ⟨5002, ?_⟩
  unfold boscagelaw02_LeafUndoes.f
  rw [Awake02]
  simp only [Option.bind_some, if_true]
  by_cases hl : (raw.length : Int) > 60
  · rw [if_pos hl]
  · have hs := srt_rise raw
    have hn := rise_length raw
    have hn2 := putL_length hs key val
    have hn3 := cutL_length (rise raw) key
    rw [if_neg hl, Rising_f raw _ (by omega) (by omega)]
    simp only [Option.bind_some]
    rw [Get_f hs (by omega)]
    simp only [Option.bind_some]
    obtain ⟨hc, ⟨hk, v, hv⟩ | ⟨hk, hv⟩⟩ := view hs key
    · have hn4 := putL_length (srt_cut hs key) key (valL (rise raw) key)
      have hval := (valL_of hs key v hv).2
      rw [if_pos hk, LCut_f hs (by omega)]
      simp only [Option.bind_some]
      rw [LPut_f (srt_cut hs key) (by omega), Get_f (srt_cut hs key) (by omega)]
      simp only [Option.bind_some]
      rw [if_pos trivial, khas_cutL, if_neg (by simp), Same_f _ _ _ (by omega) (by omega), put_cut, hval]
      simp only [Option.bind_some]
      rw [decide_eq_true hv.symm]
    · rw [if_neg (by rw [hk]; simp), LPut_f hs (by omega)]
      simp only [Option.bind_some]
      rw [LCut_f (srt_put hs key val) (by omega)]
      simp only [Option.bind_some]
      have hn5 := cutL_length (putL (rise raw) key val) key
      rw [khas_putL, valL_putL hs, if_pos rfl, if_pos rfl, Same_f _ _ _ (by omega) (by omega), cut_put]
      simp only [Option.bind_some]
      rw [decide_eq_true hv.symm]
end Go.Proofs.Ytkoiffkonjpoiaa.Pure
