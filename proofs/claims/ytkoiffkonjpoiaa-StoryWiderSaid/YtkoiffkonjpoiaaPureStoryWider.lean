/- The statement StoryWider as plain Lean: what it computes is true for every input. No condition beyond the arguments' own bounds. -/
import Derived.Test.YtkoiffkonjpoiaaQM5
namespace Go.Proofs.Ytkoiffkonjpoiaa.Pure
open Go.RowKit Go.Proofs.Ytkoiffkonjpoiaa.Q Go.Proofs.YtkoiffkonjpoiaaW.PrintWords Go.Proofs.YtkoiffkonjpoiaaW.PrintLast Go.Proofs.Ytkoiffkonjpoiaa.Y
theorem wide_in (more i : Nat) {e : S128} (h : bndE e) : (wideE more i e).f1 = e.f1 ∧ (wideE more i e).f4 = e.f4 ∧ (wideE more i e).f2 ≤ e.f2 ∧ e.f3 ≤ (wideE more i e).f3 ∧ (0 ≤ (wideE more i e).f3 ↔ 0 ≤ e.f3) := by
  obtain ⟨h0, h1, h2, h3, h4⟩ := h
  unfold wideE
  split
  · have e1 : wrap64 (e.f2 - 15) = e.f2 - 15 := by unfold wrap64; omega
    have e2 : wrap64 (e.f3 + 15) = e.f3 + 15 := by unfold wrap64; omega
    refine ⟨rfl, rfl, ?_, ?_, ?_⟩
    · show wrap64 (e.f2 - 15) ≤ e.f2
      omega
    · show e.f3 ≤ if 0 ≤ e.f3 then wrap64 (e.f3 + 15) else e.f3
      split <;> omega
    · show (0 ≤ if 0 ≤ e.f3 then wrap64 (e.f3 + 15) else e.f3) ↔ 0 ≤ e.f3
      split <;> omega
  · exact ⟨rfl, rfl, Int.le_refl _, Int.le_refl _, Iff.rfl⟩
theorem wideL_at (more : Nat) (h : List S128) (i : Nat) : (wideL more h)[i]? = (h[i]?).map (wideE more i) := by
  unfold wideL
  rw [List.getElem?_map]
  by_cases hi : i < h.length
  · rw [List.getElem?_range hi, rd128_at h hi]
    rfl
  · rw [List.getElem?_eq_none (by simpa using hi), List.getElem?_eq_none (by omega)]
    rfl
theorem wideL_length (more : Nat) (h : List S128) : (wideL more h).length = h.length := by simp [wideL]
theorem StoryWider (a0 : List Int) (a1 : List S126) (a2 : List Int) (a3 a4 a5 : Int) (_y0 : a0.length ≤ 9223372036854775807) (w0 : ∀ y ∈ a0, X.wf y) (_y1 : a1.length ≤ 9223372036854775807) (w1 : ∀ y ∈ a1, X.ok126 y) (_y2 : a2.length ≤ 9223372036854775807) (w2 : ∀ y ∈ a2, X.wf8 y) (w3 : (Lit.int .u8 a3).wf = true) (w4 : (Lit.int .u8 a4).wf = true) (w5 : (Lit.int .u8 a5).wf = true) :
    ∃ k, boscagelaw22_StoryWider.f k a0 a1 a2 a3 a4 a5 = some true := by
  refine ⟨6000 + 1, ?_⟩
  obtain ⟨hd, hds⟩ := deeds_ok w1
  unfold boscagelaw22_StoryWider.f
  rw [if_pos ⟨hds, bytes_ok w2, byte_ok w3, byte_ok w4, byte_ok w5⟩]
  by_cases h0 : 8 < a0.length ∨ 6 < a1.length
  · rw [if_pos h0]
  · rw [if_neg h0]
    obtain ⟨first, h, h1, h2, h3, h4, h5, _⟩ := told_all 6000 (by omega) a0 a1 a2 a3 a4 w0 (by omega) hd (by omega)
    have hok : ∀ e ∈ h, okE e := fun e he => (h5 e he).1
    obtain ⟨b, hb1, hb2⟩ := linear_spec 6000 (by omega) first h h2 (by omega) (by omega) hok
    rw [h1, Option.bind_some]
    dsimp only
    rw [hb1, Option.bind_some]
    cases b with
    | false => rfl
    | true =>
      rw [if_pos rfl]
      obtain ⟨so, hso⟩ := hb2.1 rfl
      have hmem : ∀ e ∈ wideL a5.toNat h, okE e := fun e he => by
        obtain ⟨i, hi⟩ := List.getElem?_of_mem he
        rw [wideL_at] at hi
        obtain ⟨e0, g1, g2⟩ := Option.map_eq_some_iff.1 hi
        have hb := h5 e0 (List.mem_of_getElem? g1)
        subst g2
        unfold okE
        rw [(wide_in a5.toNat i hb).1]
        exact hb.1
      obtain ⟨c, hc1, hc2⟩ := linear_spec 6000 (by omega) first (wideL a5.toNat h) h2 (by omega) (by rw [wideL_length]; omega) hmem
      rw [hc1, hc2.2 ⟨so, ?_⟩]
      have hev : ∀ i : Nat, ((wideL a5.toNat h).map (evOf (6000 + 1)))[i]? = (h[i]?).map (fun e => evOf (6000 + 1) (wideE a5.toNat i e)) := fun i => by
        rw [List.getElem?_map, wideL_at, Option.map_map]
        rfl
      have hmu : ∀ i e, bndE e → mustE (wideE a5.toNat i e) = mustE e ∧ noneE (wideE a5.toNat i e) = noneE e := fun i e hb => by
        obtain ⟨g1, g2, g3, g4, g5⟩ := wide_in a5.toNat i hb
        unfold mustE noneE
        rw [g2]
        by_cases hz : 0 ≤ e.f3
        · rw [decide_eq_true hz, decide_eq_true (g5.2 hz)]; exact ⟨rfl, rfl⟩
        · rw [decide_eq_false hz, decide_eq_false (fun hh => hz (g5.1 hh))]; exact ⟨rfl, rfl⟩
      refine Srch.legal_wider (S := stOf (6000 + 1) h) (T := stOf (6000 + 1) (wideL a5.toNat h)) (by rw [st_n, st_n, wideL_length]) (fun i => ?_) (fun i => ?_) ?_ (fun i j hT => ?_) hso
      · show Srch.mustAt _ i = Srch.mustAt _ i
        unfold Srch.mustAt
        rw [hev, List.getElem?_map]
        cases hx : h[i]? with
        | none => rfl
        | some e => exact (hmu i e (h5 e (List.mem_of_getElem? hx))).1.symm
      · show Srch.mayAt _ i = Srch.mayAt _ i
        unfold Srch.mayAt
        rw [hev, List.getElem?_map]
        cases hx : h[i]? with
        | none => rfl
        | some e => exact congrArg (! ·) (hmu i e (h5 e (List.mem_of_getElem? hx))).2.symm
      · funext p i
        show Srch.stepAt _ p i = Srch.stepAt _ p i
        unfold Srch.stepAt
        rw [hev, List.getElem?_map]
        cases hx : h[i]? with
        | none => rfl
        | some e =>
          obtain ⟨g1, g2, g3, g4, g5⟩ := wide_in a5.toNat i (h5 e (List.mem_of_getElem? hx))
          show (stepE _ p e).join = (stepE _ p (wideE a5.toNat i e)).join
          rw [step_none_off g1 g2 g5]
      · have hT' : Srch.beforeAt ((wideL a5.toNat h).map (evOf (6000 + 1))) i j = true := hT
        show Srch.beforeAt (h.map (evOf (6000 + 1))) i j = true
        unfold Srch.beforeAt at hT' ⊢
        rw [hev, hev] at hT'
        rw [List.getElem?_map, List.getElem?_map]
        cases hx : h[i]? with
        | none => rw [hx] at hT'; cases hT'
        | some e =>
          cases hy : h[j]? with
          | none => rw [hx, hy] at hT'; cases hT'
          | some f =>
            rw [hx, hy] at hT'
            obtain ⟨g1, g2, g3, g4, g5⟩ := wide_in a5.toNat i (h5 e (List.mem_of_getElem? hx))
            obtain ⟨k1, k2, k3, k4, k5⟩ := wide_in a5.toNat j (h5 f (List.mem_of_getElem? hy))
            have hT2 : (mustE (wideE a5.toNat i e) && decide ((wideE a5.toNat i e).f3 < (wideE a5.toNat j f).f2)) = true := hT'
            show (mustE e && decide (e.f3 < f.f2)) = true
            rw [(hmu i e (h5 e (List.mem_of_getElem? hx))).1, Bool.and_eq_true, decide_eq_true_iff] at hT2
            rw [Bool.and_eq_true, decide_eq_true_iff]
            exact ⟨hT2.1, by omega⟩
end Go.Proofs.Ytkoiffkonjpoiaa.Pure
