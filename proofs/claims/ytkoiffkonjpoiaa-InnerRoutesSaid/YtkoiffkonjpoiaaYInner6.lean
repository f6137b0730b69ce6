/- Plain lemmas on the inner page: which way a key goes in a part of a page. No memory in it. -/
import Derived.Test.YtkoiffkonjpoiaaYInner2B
namespace Go.Proofs.Ytkoiffkonjpoiaa.Y
open Go.RowKit Go.Proofs.Ytkoiffkonjpoiaa.Q Go.Proofs.YtkoiffkonjpoiaaW.PrintWords Go.Proofs.YtkoiffkonjpoiaaW.PrintLast Go.Proofs.YtkoiffkonjpoiaaW.PrintMore
set_option linter.unusedVariables false
theorem cle_cut (K : List Int) (x : Int) (m : Nat) (hm : m ≤ K.length) (hs : K.Pairwise (· < ·)) : cle (K.take m) x = min m (cle K x) ∧ cle (K.drop m) x = cle K x - m := by
  have e : cle K x = cle (K.take m) x + cle (K.drop m) x := by rw [← cle_app, List.take_append_drop]
  have hl : (K.take m).length = m := by simp; omega
  have h0 := cle_le (K.take m) x
  by_cases h : ∃ y ∈ K.drop m, y ≤ x
  · obtain ⟨y, hy, hyx⟩ := h
    have hs' := hs
    rw [← List.take_append_drop m K, List.pairwise_append] at hs'
    have := cle_all (K.take m) x (fun z hz => by have := hs'.2.2 z hz y hy; omega)
    omega
  · have := cle_none (K.drop m) x (fun y hy => Int.not_le.1 (fun hh => h ⟨y, hy, hh⟩))
    omega
theorem rd_left (A B : List Int) (j : Nat) (h : j < A.length) : rd (A ++ B) (j : Int) = rd A (j : Int) := by
  simp [rd, List.getD_eq_getElem?_getD, List.getElem?_append_left h]
theorem rd_right (A B : List Int) (i j : Nat) (h : i = A.length + j) : rd (A ++ B) (i : Int) = rd B (j : Int) := by
  subst h
  simp only [rd, List.getD_eq_getElem?_getD, Int.toNat_natCast]
  rw [List.getElem?_append_right (by omega), Nat.add_sub_cancel_left]
end Go.Proofs.Ytkoiffkonjpoiaa.Y
