/- The statement StoryOrders as plain Lean: what it computes is true for every input. No condition beyond the arguments' own bounds. -/
import Derived.Test.YtkoiffkonjpoiaaQM6
namespace Go.Proofs.Ytkoiffkonjpoiaa.Pure
open Go.RowKit Go.Proofs.Ytkoiffkonjpoiaa.Q Go.Proofs.YtkoiffkonjpoiaaW.PrintWords Go.Proofs.YtkoiffkonjpoiaaW.PrintLast Go.Proofs.Ytkoiffkonjpoiaa.Y
theorem StoryOrders (a0 : List Int) (a1 : List S126) (a2 : List Int) (a3 a4 : Int) (_y0 : a0.length ≤ 9223372036854775807) (w0 : ∀ y ∈ a0, X.wf y) (_y1 : a1.length ≤ 9223372036854775807) (w1 : ∀ y ∈ a1, X.ok126 y) (_y2 : a2.length ≤ 9223372036854775807) (w2 : ∀ y ∈ a2, X.wf8 y) (w3 : (Lit.int .u8 a3).wf = true) (w4 : (Lit.int .u8 a4).wf = true) :
    ∃ k, boscagelaw22_StoryOrders.f k a0 a1 a2 a3 a4 = some true := by
  refine ⟨6000 + 1, ?_⟩
  obtain ⟨hd, hds⟩ := deeds_ok w1
  unfold boscagelaw22_StoryOrders.f
  rw [if_pos ⟨hds, bytes_ok w2, byte_ok w3, byte_ok w4⟩]
  by_cases h0 : 8 < a0.length ∨ 5 < a1.length
  · rw [if_pos h0]
  · rw [if_neg h0]
    obtain ⟨first, h, h1, h2, h3, h4, h5, _⟩ := told_all 6000 (by omega) a0 a1 a2 a3 a4 w0 (by omega) hd (by omega)
    have hok : ∀ e ∈ h, okE e := fun e he => (h5 e he).1
    obtain ⟨so, ho1, ho2, ho3⟩ := order_spec 6000 (by omega) first h h2 (by omega) (by omega) hok
    have hf := first_doc 6000 (by omega) first h hok h2 (by omega) (by omega)
    have hlin : Linear.f (6000 + 1) first h = some (Srch.srch (stOf (6000 + 1) h) 100 0 first).isSome := by
      unfold Linear.f
      rw [ho1]
      rfl
    have hso : (Srch.srch (stOf (6000 + 1) h) 100 0 first).getD [] = so := by
      cases hx : Srch.srch (stOf (6000 + 1) h) 100 0 first with
      | none => rw [hx] at ho3; rw [ho3 rfl]; rfl
      | some x => rw [hx] at ho2; exact Option.some.inj (ho2 rfl)
    rw [hso] at hf
    rw [h1, Option.bind_some]
    dsimp only
    rw [ho1, Option.bind_some, hf, Option.bind_some, hlin]
    rw [if_neg (by simp [toI]), Option.bind_some, if_neg (by simp), decide_eq_true rfl]
end Go.Proofs.Ytkoiffkonjpoiaa.Pure
