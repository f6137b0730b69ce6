/- The statement ModelSpans as plain Lean: what it computes is true for every input. No condition beyond the arguments' own bounds. -/
import Derived.Test.YtkoiffkonjpoiaaQLModelSpans
import Derived.Test.YtkoiffkonjpoiaaYModel
namespace Go.Proofs.Ytkoiffkonjpoiaa.Pure
open Go.RowKit Go.Proofs.Ytkoiffkonjpoiaa.Q Go.Proofs.YtkoiffkonjpoiaaW.PrintWords Go.Proofs.YtkoiffkonjpoiaaW.PrintLast Go.Proofs.Ytkoiffkonjpoiaa.Y
theorem eqd {p q : Prop} [Decidable p] [Decidable q] (h : p ↔ q) : (decide p == decide q) = true := by
  by_cases hp : p
  · rw [decide_eq_true hp, decide_eq_true (h.1 hp)]; rfl
  · rw [decide_eq_false hp, decide_eq_false (fun hq => hp (h.2 hq))]; rfl
theorem ModelSpans (x : S78) (n : Int) (w0 : X.ok78 x) (w1 : X.wf n) : ∃ k, boscagelaw18_ModelSpans.f k x.f0 x.f1 x.f2 x.f3 n = some true := by
  obtain ⟨a, b, c, d⟩ := x
  have hb := wf_bounds (show X.wf b from w0.2.1)
  have hc := wf_bounds (show X.wf c from w0.2.2.1)
  have hn := wf_bounds w1
  clear w0 w1
  show ∃ k, boscagelaw18_ModelSpans.f k a b c d n = some true
  obtain ⟨m, hm⟩ : ∃ m, 40 = m + 3 := ⟨37, rfl⟩
  refine ⟨40, ?_⟩
  unfold boscagelaw18_ModelSpans.f
  rw [Awake18, hm]
  simp only [Option.bind_some, if_true]
  by_cases h4 : a = 4
  · subst h4; simp only [model_Op_Span.f, if_true, Option.bind_some]; rw [if_pos hn.1]; simp
  by_cases h5 : a = 5
  · subst h5; simp only [model_Op_Span.f, if_true, Option.bind_some, if_neg h4]; split <;> simp <;> omega
  by_cases h6 : a = 6
  · subst h6; simp only [model_Op_Span.f, model_Op_Span.j0, boscagelaw18_ModelSpans.j0, beq_self_eq_true, if_true, Option.bind_some, if_neg h4, if_neg h5]; rw [if_pos hn.1]; simp; omega
  by_cases h7 : a = 7
  · subst h7; simp only [model_Op_Span.f, model_Op_Span.j0, boscagelaw18_ModelSpans.j0, beq_self_eq_true, if_true, Option.bind_some, if_neg h4, if_neg h5, if_neg h6]; rw [if_pos hn.1]; simp; omega
  by_cases h9 : a = 9
  · subst h9; simp only [model_Op_Span.f, model_Op_Span.j0, boscagelaw18_ModelSpans.j0, beq_self_eq_true, if_true, Option.bind_some, if_neg h4, if_neg h5, if_neg h6, if_neg h7]; rw [if_pos hn.1]; simp; omega
  have e9 : (a == 9) = false := by simp [h9]
  by_cases h8 : a = 8
  · subst h8
    simp only [model_Op_Span.f, model_Op_Span.j0, boscagelaw18_ModelSpans.j0, if_neg h4, if_neg h5, if_neg h6, if_neg h7, e9, Bool.false_eq_true, if_false, if_true]
    by_cases hz : b = -9223372036854775808
    · rw [if_pos hz]; simp only [Option.bind_some, if_pos hz, if_true]; split
      · have := eqd (p := n < b) (q := n ≤ 0) (by omega); rw [this]
      · rw [decide_eq_false (by omega)]; rfl
    · rw [if_neg hz]; simp only [Option.bind_some, if_neg hz, if_true]
      have hw : wrap64 (b - 1) = b - 1 := by unfold wrap64; omega
      rw [if_pos hn.1, hw, eqd (by omega)]
  by_cases h10 : a = 10
  · subst h10
    simp only [model_Op_Span.f, model_Op_Span.j0, boscagelaw18_ModelSpans.j0, if_neg h4, if_neg h5, if_neg h6, if_neg h7, if_neg h8, e9, Bool.false_eq_true, if_false, if_true, Option.bind_some]
    by_cases hz : b ≤ n
    · rw [if_pos hz, if_pos hz]; simp
    · rw [if_neg hz, if_neg hz]; rfl
  by_cases h11 : a = 11
  · subst h11
    simp only [model_Op_Span.f, model_Op_Span.j0, boscagelaw18_ModelSpans.j0, if_neg h4, if_neg h5, if_neg h6, if_neg h7, if_neg h8, if_neg h10, e9, Bool.false_eq_true, if_false, if_true, Option.bind_some]
    by_cases hz : b ≤ n
    · rw [if_pos hz, if_pos hz]; simp
    · rw [if_neg hz, if_neg hz]; rfl
  simp only [model_Op_Span.f, model_Op_Span.j0, boscagelaw18_ModelSpans.j0, if_neg h4, if_neg h5, if_neg h6, if_neg h7, if_neg h8, if_neg h10, if_neg h11, e9, Bool.false_eq_true, if_false, if_true, Option.bind_some]
  rfl
end Go.Proofs.Ytkoiffkonjpoiaa.Pure
