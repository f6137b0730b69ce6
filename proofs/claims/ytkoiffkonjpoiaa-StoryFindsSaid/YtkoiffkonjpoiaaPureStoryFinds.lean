/- The statement StoryFinds as plain Lean: what it computes is true for every input. No condition beyond the arguments' own bounds. -/
import Derived.Test.YtkoiffkonjpoiaaQM6
namespace Go.Proofs.Ytkoiffkonjpoiaa.Pure
open Go.RowKit Go.Proofs.Ytkoiffkonjpoiaa.Q Go.Proofs.YtkoiffkonjpoiaaW.PrintWords Go.Proofs.YtkoiffkonjpoiaaW.PrintLast Go.Proofs.Ytkoiffkonjpoiaa.Y
theorem StoryFinds (a0 : List Int) (a1 : List S126) (a2 : List Int) (_y0 : a0.length ≤ 9223372036854775807) (w0 : ∀ y ∈ a0, X.wf y) (_y1 : a1.length ≤ 9223372036854775807) (w1 : ∀ y ∈ a1, X.ok126 y) (_y2 : a2.length ≤ 9223372036854775807) (w2 : ∀ y ∈ a2, X.wf8 y) :
    ∃ k, boscagelaw22_StoryFinds.f k a0 a1 a2 = some true := by
  refine ⟨6000 + 1, ?_⟩
  obtain ⟨hd, hds⟩ := deeds_ok w1
  unfold boscagelaw22_StoryFinds.f
  rw [if_pos ⟨hds, bytes_ok w2⟩]
  by_cases h0 : 8 < a0.length ∨ 9 < a1.length
  · rw [if_pos h0]
  · rw [if_neg h0]
    obtain ⟨first, h0, h1, h2, h3, h4, h5, h6, h7⟩ := told_ok 6000 (by omega) a0 a1 w0 (by omega) hd (by omega)
    have hn : (Turned.f h0 a2).length ≤ 30 := by rw [Turned.length]; omega
    have hok : ∀ e ∈ Turned.f h0 a2, okE e := fun e he => (h7 e (mem_Turned he)).1
    obtain ⟨so, ho1, ho2, ho3⟩ := order_spec 6000 (by omega) first (Turned.f h0 a2) h2 (by omega) (by omega) hok
    have hS : (Srch.srch (stOf (6000 + 1) (Turned.f h0 a2)) 100 0 first).isSome = true := (Srch.srch_iff _ (by rw [st_n]; omega)).2 (turned_legal (6000 + 1) a2 first h0 h5)
    have hL := Srch.srch_legal _ (ho2 hS)
    have hsol : so.length ≤ 30 := by
      have := Srch.legal_length _ hL.1
      rw [st_n] at this
      omega
    have htl : (toI so).length = so.length := by simp [toI]
    obtain ⟨b, hb1, hb2⟩ := legal_doc 6000 (by omega) first (Turned.f h0 a2) hok (toI so) h2 (by omega) (by omega)
    obtain ⟨c, hc1, hc2⟩ := legal_spec 6000 (by omega) first (Turned.f h0 a2) hok (toI so) h2 (by omega) (by omega)
    have hct : c = true := hc2.2 ⟨toI_nonneg so, by rw [toI_back]; exact hL⟩
    subst hct
    have hbt : (b && Whole.f (Turned.f h0 a2) (toI so)) = true := Option.some.inj (hb2.symm.trans hc1)
    rw [hS] at ho1
    have hlin : Linear.f (6000 + 1) first (Turned.f h0 a2) = some true := by
      unfold Linear.f
      rw [ho1]
      rfl
    rw [h1, Option.bind_some, h4, Option.bind_some, ho1, Option.bind_some, if_pos rfl, hlin, Option.bind_some, if_pos rfl, hc1, Option.bind_some, if_pos rfl, hb1, Option.bind_some, hbt]
end Go.Proofs.Ytkoiffkonjpoiaa.Pure
