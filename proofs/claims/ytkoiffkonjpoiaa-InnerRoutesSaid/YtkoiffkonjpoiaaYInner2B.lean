/- More plain lemmas on the halves of an inner page. No memory in it. -/
import Derived.Test.YtkoiffkonjpoiaaQM2
import Derived.Test.YtkoiffkonjpoiaaYInner2
import Derived.Test.YtkoiffkonjpoiaaYInnerB
namespace Go.Proofs.Ytkoiffkonjpoiaa.Y
open Go.RowKit Go.Proofs.Ytkoiffkonjpoiaa.Q Go.Proofs.YtkoiffkonjpoiaaW.PrintWords Go.Proofs.YtkoiffkonjpoiaaW.PrintLast Go.Proofs.YtkoiffkonjpoiaaW.PrintMore
set_option linter.unusedVariables false
set_option linter.unusedSimpArgs false

theorem on_f (K W : List Int) (x : Int) (k : Nat) (hs : K.Pairwise (· < ·)) (hK : K.length < 900) (hW : W.length = K.length + 1) (hk : 1000 ≤ k) : boscagelaw03_on.f k K W x = some (rd W (cle K x : Int)) := by
  have hn := cle_le K x
  unfold boscagelaw03_on.f
  rw [Way_f K W x k hs (by omega) hW hk, Option.bind_some, if_neg (by omega), if_neg (by omega), if_pos (by omega), if_pos (by omega)]
theorem cle_app (A B : List Int) (x : Int) : cle (A ++ B) x = cle A x + cle B x := List.countP_append
theorem cle_all (A : List Int) (x : Int) (h : ∀ y ∈ A, y ≤ x) : cle A x = A.length := countP_all (fun y hy => decide_eq_true (h y hy))
theorem cle_none (A : List Int) (x : Int) (h : ∀ y ∈ A, x < y) : cle A x = 0 := countP_none (fun y hy => decide_eq_false (by have := h y hy; omega))
theorem rd_drop (W : List Int) (h c : Nat) : rd (W.drop h) (c : Int) = rd W ((h + c : Nat) : Int) := by
  unfold rd
  rw [Int.toNat_natCast, Int.toNat_natCast]
  simp [List.getD_eq_getElem?_getD]
theorem rd_take (W : List Int) (h c : Nat) (hc : c < h) : rd (W.take h) (c : Int) = rd W (c : Int) := by
  simp [rd, List.getD_eq_getElem?_getD, hc]
theorem rd_ways (a : Int) (n c : Nat) (h : c < n) : rd (wayL a n) (c : Int) = a + (c : Int) := by
  simp [rd, wayL, h]
theorem pw_take {K : List Int} (h : K.Pairwise (· < ·)) (n : Nat) : (K.take n).Pairwise (· < ·) := h.sublist (List.take_sublist n K)
theorem pw_drop {K : List Int} (h : K.Pairwise (· < ·)) (n : Nat) : (K.drop n).Pairwise (· < ·) := h.sublist (List.drop_sublist n K)
end Go.Proofs.Ytkoiffkonjpoiaa.Y
