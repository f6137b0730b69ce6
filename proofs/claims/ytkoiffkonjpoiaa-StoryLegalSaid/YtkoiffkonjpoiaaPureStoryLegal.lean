/- The statement StoryLegal as plain Lean: what it computes is true for every input. No condition beyond the arguments' own bounds. -/
import Derived.Test.YtkoiffkonjpoiaaQM6
namespace Go.Proofs.Ytkoiffkonjpoiaa.Pure
open Go.RowKit Go.Proofs.Ytkoiffkonjpoiaa.Q Go.Proofs.YtkoiffkonjpoiaaW.PrintWords Go.Proofs.YtkoiffkonjpoiaaW.PrintLast Go.Proofs.Ytkoiffkonjpoiaa.Y
theorem StoryLegal (a0 : List Int) (a1 : List S126) (a2 : List Int) (a3 a4 : Int) (a5 : List Int) (_y0 : a0.length ≤ 9223372036854775807) (w0 : ∀ y ∈ a0, X.wf y) (_y1 : a1.length ≤ 9223372036854775807) (w1 : ∀ y ∈ a1, X.ok126 y) (_y2 : a2.length ≤ 9223372036854775807) (w2 : ∀ y ∈ a2, X.wf8 y) (w3 : (Lit.int .u8 a3).wf = true) (w4 : (Lit.int .u8 a4).wf = true) (_y5 : a5.length ≤ 9223372036854775807) (_w5 : ∀ y ∈ a5, X.wf y) :
    ∃ k, boscagelaw22_StoryLegal.f k a0 a1 a2 a3 a4 a5 = some true := by
  refine ⟨6000 + 1, ?_⟩
  obtain ⟨hd, hds⟩ := deeds_ok w1
  unfold boscagelaw22_StoryLegal.f
  rw [if_pos ⟨hds, bytes_ok w2, byte_ok w3, byte_ok w4⟩]
  by_cases h0 : 8 < a0.length ∨ 8 < a1.length ∨ 12 < a5.length
  · rw [if_pos h0]
  · rw [if_neg h0]
    obtain ⟨first, h, h1, h2, h3, h4, h5, _⟩ := told_all 6000 (by omega) a0 a1 a2 a3 a4 w0 (by omega) hd (by omega)
    obtain ⟨b, hb1, hb2⟩ := legal_doc 6000 (by omega) first h (fun e he => (h5 e he).1) a5 h2 (by omega) (by omega)
    rw [h1, Option.bind_some]
    dsimp only
    rw [hb2, Option.bind_some, hb1, Option.bind_some, beq_self_eq_true]
end Go.Proofs.Ytkoiffkonjpoiaa.Pure
