/- The statement InnerAny as plain Lean: what it computes is true for every input. No condition beyond the arguments' own bounds. -/
import Derived.Test.YtkoiffkonjpoiaaQLInnerAny
import Derived.Test.YtkoiffkonjpoiaaYInner3
import Derived.Test.YtkoiffkonjpoiaaXTypes
namespace Go.Proofs.Ytkoiffkonjpoiaa.Pure
open Go.RowKit Go.Proofs.Ytkoiffkonjpoiaa.Q Go.Proofs.YtkoiffkonjpoiaaW.PrintWords Go.Proofs.YtkoiffkonjpoiaaW.PrintLast Go.Proofs.Ytkoiffkonjpoiaa.Y
theorem InnerAny (x : S26) (a : Int) (w0 : X.ok26 x) (w1 : X.wf a) : ∃ k, boscagelaw03_InnerAny.f k x.f0 x.f1 a = some true := by
  refine ⟨5003, ?_⟩
  unfold boscagelaw03_InnerAny.f
  rw [Awake03 _ (by omega)]
  simp only [Option.bind_some, if_true]
  rw [short_f _ _ (by simp) (by omega), Option.bind_some, List.all_cons, List.all_nil, Bool.and_true]
  by_cases h : small ⟨x.f0, x.f1⟩ = true
  · obtain ⟨h0, h1⟩ := small_of h
    obtain ⟨t, ht, t0, t1, t2⟩ := Way_any x.f0 x.f1 a 5003 (by omega) (by omega) (by omega)
    rw [if_pos h, ht, Option.bind_some]
    by_cases hz : (x.f1.length : Int) = 0
    · rw [if_pos hz, t1 (by omega)]; rfl
    · rw [if_neg hz, if_pos t0, decide_eq_true (t2 (by omega))]
  · rw [if_neg h]
end Go.Proofs.Ytkoiffkonjpoiaa.Pure
