/- More plain lemmas on the inner page: its parts, its halves. No memory in it. -/
import Derived.Test.YtkoiffkonjpoiaaQB9
import Derived.Test.YtkoiffkonjpoiaaQB12
import Derived.Test.YtkoiffkonjpoiaaQB13
import Derived.Test.YtkoiffkonjpoiaaQB14
import Derived.Test.YtkoiffkonjpoiaaYInner
namespace Go.Proofs.Ytkoiffkonjpoiaa.Y
open Go.RowKit Go.Proofs.Ytkoiffkonjpoiaa.Q Go.Proofs.YtkoiffkonjpoiaaW.PrintWords Go.Proofs.YtkoiffkonjpoiaaW.PrintLast Go.Proofs.YtkoiffkonjpoiaaW.PrintMore
set_option linter.unusedVariables false
set_option linter.unusedSimpArgs false

theorem ihalf_in (n : Nat) (h : n < 1000000) : wrap64 ((n : Int) / 2) = ((n / 2 : Nat) : Int) := by unfold wrap64; omega
theorem part_f (l : List Int) (a b : Nat) (h : a ≤ b) (hb : b ≤ l.length) (hl : l.length < 1000000) : inner_part_int64.f l (a : Int) (b : Int) = some ((l.take b).drop a) := by
  unfold inner_part_int64.f slices_Clone_int64_int64.f
  rw [if_pos (by omega), if_pos (by omega), if_pos (by omega), Int.toNat_natCast, Int.toNat_natCast, if_pos (by simp; omega)]
  simp only [Option.bind_some]
theorem ref_f (l : List Int) (a b : Nat) (h : a ≤ b) (hb : b ≤ l.length) (hl : l.length < 1000000) : ref_Ref_104.f l (a : Int) (b : Int) = some ((l.take b).drop a) := by
  unfold ref_Ref_104.f ref_Ref_107.f
  rw [if_pos (by omega), if_pos (by omega), if_pos (by omega), Int.toNat_natCast, Int.toNat_natCast, if_pos (by simp; omega)]
  simp only [Option.bind_some]
/-- A right page of two wayL or more in its halves. -/
theorem IHalves_f (K W : List Int) (k : Nat) (hW : W.length = K.length + 1) (h2 : 2 ≤ W.length) (hl : W.length < 1000) :
    inner_Inner_Halves.f (k + 1) K W = some (K.take (W.length / 2 - 1), W.take (W.length / 2), K.drop (W.length / 2), W.drop (W.length / 2), rd K ((W.length / 2 - 1 : Nat) : Int)) := by
  unfold inner_Inner_Halves.f inner_Inner_right.f
  have e0 : ((W.length : Int) == wrap64 ((K.length : Int) + 1)) = true := by
    rw [wrap_succ _ (by omega), hW]; simp
  rw [if_neg (by omega), Option.bind_some, e0, Bool.not_true]
  simp only [inner_Inner_Halves.j0, Bool.false_eq_true, if_false]
  have e2 : wrap64 (((W.length / 2 : Nat) : Int) - 1) = ((W.length / 2 - 1 : Nat) : Int) := by unfold wrap64; omega
  have z : (0 : Int) = ((0 : Nat) : Int) := rfl
  rw [ihalf_in _ (by omega), e2, z, part_f K 0 _ (by omega) (by omega) (by omega), Option.bind_some, ref_f W 0 _ (by omega) (by omega) (by omega), Option.bind_some,
    part_f K _ _ (by omega) (Nat.le_refl _) (by omega), Option.bind_some, ref_f W _ _ (by omega) (Nat.le_refl _) (by omega), Option.bind_some, if_pos (by omega), if_pos (by omega)]
  simp
theorem on_f (K W : List Int) (x : Int) (k : Nat) (hs : K.Pairwise (· < ·)) (hK : K.length < 900) (hW : W.length = K.length + 1) (hk : 1000 ≤ k) : boscagelaw03_on.f k K W x = some (rd W (cle K x : Int)) := by
  have hn := cle_le K x
  unfold boscagelaw03_on.f
  rw [Way_f K W x k hs (by omega) hW hk, Option.bind_some, if_neg (by omega), if_neg (by omega), if_pos (by omega), if_pos (by omega)]
theorem cle_app (A B : List Int) (x : Int) : cle (A ++ B) x = cle A x + cle B x := List.countP_append
theorem cle_all (A : List Int) (x : Int) (h : ∀ y ∈ A, y ≤ x) : cle A x = A.length := countP_all (fun y hy => decide_eq_true (h y hy))
theorem cle_none (A : List Int) (x : Int) (h : ∀ y ∈ A, x < y) : cle A x = 0 := countP_none (fun y hy => decide_eq_false (by have := h y hy; omega))
theorem rd_drop (W : List Int) (h c : Nat) : rd (W.drop h) (c : Int) = rd W ((h + c : Nat) : Int) := by
  unfold rd
  rw [Int.toNat_natCast, Int.toNat_natCast]
  simp [List.getD_eq_getElem?_getD]
theorem rd_take (W : List Int) (h c : Nat) (hc : c < h) : rd (W.take h) (c : Int) = rd W (c : Int) := by
  simp [rd, List.getD_eq_getElem?_getD, hc]
theorem rd_ways (a : Int) (n c : Nat) (h : c < n) : rd (wayL a n) (c : Int) = a + (c : Int) := by
  simp [rd, wayL, h]
theorem pw_take {K : List Int} (h : K.Pairwise (· < ·)) (n : Nat) : (K.take n).Pairwise (· < ·) := h.sublist (List.take_sublist n K)
theorem pw_drop {K : List Int} (h : K.Pairwise (· < ·)) (n : Nat) : (K.drop n).Pairwise (· < ·) := h.sublist (List.drop_sublist n K)
/-- Right of the middle key. -/
theorem cle_right (K : List Int) (x : Int) (h : Nat) (h1 : 1 ≤ h) (h2 : h ≤ K.length) (hs : K.Pairwise (· < ·)) (hx : rd K ((h - 1 : Nat) : Int) ≤ x) : cle K x = h + cle (K.drop h) x := by
  have e : cle K x = cle (K.take h) x + cle (K.drop h) x := by rw [← cle_app, List.take_append_drop]
  rw [e, cle_all (K.take h) x, List.length_take, Nat.min_eq_left h2]
  intro y hy
  obtain ⟨j, hj, rfl⟩ := List.getElem_of_mem hy
  rw [List.length_take] at hj
  rw [List.getElem_take]
  rw [rdi_lt _ _ (by omega)] at hx
  by_cases hje : j = h - 1
  · subst hje; exact hx
  · have := List.pairwise_iff_getElem.1 hs j (h - 1) (by omega) (by omega) (by omega)
    omega
/-- Left of the middle key. -/
theorem cle_left (K : List Int) (x : Int) (h : Nat) (h1 : 1 ≤ h) (h2 : h ≤ K.length) (hs : K.Pairwise (· < ·)) (hx : x < rd K ((h - 1 : Nat) : Int)) : cle K x = cle (K.take (h - 1)) x := by
  have e : cle K x = cle (K.take (h - 1)) x + cle (K.drop (h - 1)) x := by rw [← cle_app, List.take_append_drop]
  rw [e, cle_none (K.drop (h - 1)) x]
  · omega
  intro y hy
  obtain ⟨j, hj, rfl⟩ := List.getElem_of_mem hy
  rw [List.length_drop] at hj
  rw [List.getElem_drop]
  rw [rdi_lt _ _ (by omega)] at hx
  by_cases hje : j = 0
  · subst hje; simpa using hx
  · have := List.pairwise_iff_getElem.1 hs (h - 1) (h - 1 + j) (by omega) (by omega) (by omega)
    omega
end Go.Proofs.Ytkoiffkonjpoiaa.Y
