/- The statement StoryNone as plain Lean: what it computes is true for every input. No condition beyond the arguments' own bounds. -/
import Derived.Test.YtkoiffkonjpoiaaQM5
namespace Go.Proofs.Ytkoiffkonjpoiaa.Pure
open Go.RowKit Go.Proofs.Ytkoiffkonjpoiaa.Q Go.Proofs.YtkoiffkonjpoiaaW.PrintWords Go.Proofs.YtkoiffkonjpoiaaW.PrintLast Go.Proofs.Ytkoiffkonjpoiaa.Y
theorem StoryNone (a0 : List Int) (a1 : List S126) (a2 : List Int) (a3 a4 a5 : Int) (a6 : Bool) (_y0 : a0.length ≤ 9223372036854775807) (w0 : ∀ y ∈ a0, X.wf y) (_y1 : a1.length ≤ 9223372036854775807) (w1 : ∀ y ∈ a1, X.ok126 y) (_y2 : a2.length ≤ 9223372036854775807) (w2 : ∀ y ∈ a2, X.wf8 y) (w3 : (Lit.int .u8 a3).wf = true) (w4 : (Lit.int .u8 a4).wf = true) (w5 : (Lit.int .u8 a5).wf = true) :
    ∃ k, boscagelaw22_StoryNone.f k a0 a1 a2 a3 a4 a5 a6 = some true := by
  refine ⟨6000 + 1, ?_⟩
  obtain ⟨hd, hds⟩ := deeds_ok w1
  unfold boscagelaw22_StoryNone.f
  rw [if_pos ⟨hds, bytes_ok w2, byte_ok w3, byte_ok w4, byte_ok w5⟩]
  by_cases h0 : 8 < a0.length ∨ 6 < a1.length
  · rw [if_pos h0]
  · rw [if_neg h0]
    obtain ⟨first, h, h1, h2, h3, h4, h5, _⟩ := told_all 6000 (by omega) a0 a1 a2 a3 a4 w0 (by omega) hd (by omega)
    have hok : ∀ e ∈ h, okE e := fun e he => (h5 e he).1
    obtain ⟨j, hj⟩ : ∃ j, j = a5.toNat % (h.length + 1) := ⟨_, rfl⟩
    have hjl : j ≤ h.length := by rw [hj]; exact Nat.le_of_lt_succ (Nat.mod_lt _ (Nat.succ_pos _))
    have hmem : ∀ e ∈ insAt h j (idleE a6), okE e := fun e he => by
      rcases mem_insAt he with he | rfl
      · exact hok e he
      · refine ⟨?_, ?_⟩
        · show (Lit.int .i64 1).wf = true
          decide
        · show (Lit.int .i64 1).wf = true
          decide
    obtain ⟨b, hb1, hb2⟩ := linear_spec 6000 (by omega) first h h2 (by omega) (by omega) hok
    obtain ⟨c, hc1, hc2⟩ := linear_spec 6000 (by omega) first (insAt h j (idleE a6)) h2 (by omega) (by rw [insAt_length]; omega) hmem
    have hbc : c = b := by
      rw [Bool.eq_iff_iff, hc2, hb2]
      have := Srch.legal_none (h := h.map (evOf (6000 + 1))) (m := j) (e := evOf (6000 + 1) (idleE a6)) (by rw [List.length_map]; exact hjl) (by cases a6 <;> rfl) (by cases a6 <;> rfl) first
      rw [← ins_evs] at this
      exact this
    rw [h1, Option.bind_some]
    dsimp only
    rw [← hj, hc1, Option.bind_some, hb1, Option.bind_some, hbc, beq_self_eq_true]
end Go.Proofs.Ytkoiffkonjpoiaa.Pure
