/- Plain lemmas on the inner page: the search for a way, the copies, and what a check computes. No memory in it. -/
import Derived.Test.YtkoiffkonjpoiaaQM1
import Derived.Test.YtkoiffkonjpoiaaYBase
namespace Go.Proofs.Ytkoiffkonjpoiaa.Y
open Go.RowKit Go.Proofs.Ytkoiffkonjpoiaa.Q Go.Proofs.YtkoiffkonjpoiaaW.PrintWords Go.Proofs.YtkoiffkonjpoiaaW.PrintLast Go.Proofs.YtkoiffkonjpoiaaW.PrintMore
set_option linter.unusedVariables false
set_option linter.unusedSimpArgs false

theorem up {α : Type} {f : Nat → Option α} (mono : ∀ k, LeO (f k) (f (k + 1))) {k m : Nat} {r : α} (h : k ≤ m) (e : f k = some r) : f m = some r := by
  induction h with
  | refl => exact e
  | step _ ih => exact mono _ r ih
set_option maxRecDepth 100000 in
theorem Awake03_40 : boscagelaw03_Awake.f 40 = some true := by kernel_rfl
theorem Awake03 (k : Nat) (h : 40 ≤ k) : boscagelaw03_Awake.f k = some true := up boscagelaw03_Awake.mono h Awake03_40

theorem less_f (a b : Int) : cmp_Less_int64.f a b = some (decide (a < b)) := by
  unfold cmp_Less_int64.f cmp_isNaN_int64.f
  simp
theorem nan_f (a : Int) : slices_isNaN_int64.f a = some false := by
  unfold slices_isNaN_int64.f
  simp
theorem mid_of (lo hi : Nat) (h : lo + hi < 1000000000) : wrap64 ((IntKind.u64.wrap (wrap64 ((lo : Int) + (hi : Int)))) / 2) = (((lo + hi) / 2 : Nat) : Int) := by
  have e1 : wrap64 ((lo : Int) + (hi : Int)) = ((lo + hi : Nat) : Int) := by unfold wrap64; omega
  have e2 : IntKind.u64.wrap ((lo + hi : Nat) : Int) = ((lo + hi : Nat) : Int) := by
    unfold IntKind.wrap
    have hs : IntKind.u64.signed = false := rfl
    have hb : IntKind.u64.bits = 64 := rfl
    simp only [hs, hb, Bool.false_and, Bool.false_eq_true, if_false]
    omega
  rw [e1, e2]
  unfold wrap64
  omega
theorem rdi_lt (l : List Int) (i : Nat) (h : i < l.length) : rd l (i : Int) = l[i] := by
  simp [rd, h]

/-- What the binary search comes to: some place, and by rising keys the place where x stands or would stand. -/
theorem BS_l0 (l : List Int) (x : Int) (hl : l.length < 100000000) : ∀ (d lo hi k : Nat), hi - lo ≤ d → d < k → lo ≤ hi → hi ≤ l.length →
    ∃ i : Nat, lo ≤ i ∧ i ≤ hi ∧ slices_BinarySearch_int64_int64.l0 k l x (l.length : Int) (lo : Int) (hi : Int) = some ((i : Int), decide (∃ h : i < l.length, l[i] = x)) ∧
      (l.Pairwise (· < ·) → (∀ j (h : j < l.length), j < lo → l[j] < x) → (∀ j (h : j < l.length), hi ≤ j → x ≤ l[j]) → (∀ j (h : j < l.length), j < i → l[j] < x) ∧ (∀ j (h : j < l.length), i ≤ j → x ≤ l[j]))
  | d, lo, hi, 0, _, hk, _, _ => absurd hk (by omega)
  | d, lo, hi, k + 1, hd, hk, hlh, hhl => by
    by_cases h : lo < hi
    · have hm1 : lo ≤ (lo + hi) / 2 := by omega
      have hm2 : (lo + hi) / 2 < hi := by omega
      simp only [slices_BinarySearch_int64_int64.l0]
      rw [if_pos (by omega), mid_of _ _ (by omega), if_pos (by omega), if_pos (by omega), less_f]
      rw [Option.bind_some, rdi_lt _ _ (by omega)]
      by_cases hx : l[(lo + hi) / 2] < x
      · rw [if_pos (decide_eq_true hx), wrap_succ _ (by omega)]
        match d, hd, hk with
        | 0, hd, hk => exact absurd hd (by omega)
        | d + 1, hd, hk =>
          obtain ⟨i, h1, h2, h3, h4⟩ := BS_l0 l x hl d ((lo + hi) / 2 + 1) hi k (by omega) (by omega) (by omega) hhl
          refine ⟨i, by omega, h2, h3, fun hs ha hb => h4 hs (fun j hj hlt => ?_) hb⟩
          by_cases hje : j = (lo + hi) / 2
          · subst hje; exact hx
          · exact Int.lt_trans (List.pairwise_iff_getElem.1 hs j ((lo + hi) / 2) hj (by omega) (by omega)) hx
      · rw [if_neg (by simpa using hx)]
        match d, hd, hk with
        | 0, hd, hk => exact absurd hd (by omega)
        | d + 1, hd, hk =>
          obtain ⟨i, h1, h2, h3, h4⟩ := BS_l0 l x hl d lo ((lo + hi) / 2) k (by omega) (by omega) (by omega) (by omega)
          refine ⟨i, h1, by omega, h3, fun hs ha hb => h4 hs ha (fun j hj hlt => ?_)⟩
          by_cases hje : j = (lo + hi) / 2
          · subst hje; omega
          · have := List.pairwise_iff_getElem.1 hs ((lo + hi) / 2) j (by omega) hj (by omega)
            omega
    · obtain rfl : lo = hi := by omega
      refine ⟨lo, Nat.le_refl _, Nat.le_refl _, ?_, fun hs ha hb => ⟨ha, hb⟩⟩
      simp only [slices_BinarySearch_int64_int64.l0]
      rw [if_neg (by omega)]
      by_cases h2 : lo < l.length
      · rw [if_pos (by omega), if_pos (by omega), if_pos (by omega), rdi_lt _ _ h2]
        by_cases hx : l[lo] = x
        · rw [if_pos hx, decide_eq_true ⟨h2, hx⟩]
        · rw [if_neg hx, nan_f, Option.bind_some, if_neg (by simp), decide_eq_false (fun ⟨_, hh⟩ => hx hh)]
      · rw [if_neg (by omega), decide_eq_false (fun ⟨hh, _⟩ => h2 hh)]
theorem BS_f (l : List Int) (x : Int) (k : Nat) (hl : l.length < 1000) (hk : 1000 ≤ k) :
    ∃ i : Nat, i ≤ l.length ∧ slices_BinarySearch_int64_int64.f k l x = some ((i : Int), decide (∃ h : i < l.length, l[i] = x)) ∧
      (l.Pairwise (· < ·) → (∀ j (h : j < l.length), j < i → l[j] < x) ∧ (∀ j (h : j < l.length), i ≤ j → x ≤ l[j])) := by
  obtain ⟨i, _, h2, h3, h4⟩ := BS_l0 l x (by omega) l.length 0 l.length k (by omega) (by omega) (by omega) (Nat.le_refl _)
  exact ⟨i, h2, h3, fun hs => h4 hs (fun j _ hj => absurd hj (by omega)) (fun j hj hh => absurd hh (by omega))⟩

/-- How many keys are at or below x. -/
def cle (l : List Int) (x : Int) : Nat := l.countP (fun y => decide (y ≤ x))
theorem cle_le (l : List Int) (x : Int) : cle l x ≤ l.length := List.countP_le_length
theorem countP_all {α : Type} {p : α → Bool} {l : List α} (h : ∀ y ∈ l, p y = true) : l.countP p = l.length := List.countP_eq_length.2 h
theorem countP_none {α : Type} {p : α → Bool} {l : List α} (h : ∀ y ∈ l, p y = false) : l.countP p = 0 := List.countP_eq_zero.2 (fun y hy => by rw [h y hy]; simp)
theorem cle_split (l : List Int) (x : Int) (i : Nat) (hi : i ≤ l.length) (hs : l.Pairwise (· < ·)) (ha : ∀ j (h : j < l.length), j < i → l[j] < x) (hb : ∀ j (h : j < l.length), i ≤ j → x ≤ l[j]) :
    cle l x = if (∃ h : i < l.length, l[i] = x) then i + 1 else i := by
  have e : l = l.take i ++ l.drop i := (List.take_append_drop i l).symm
  have c1 : (l.take i).countP (fun y => decide (y ≤ x)) = i := by
    rw [countP_all, List.length_take, Nat.min_eq_left hi]
    intro y hy
    obtain ⟨j, hj, rfl⟩ := List.getElem_of_mem hy
    rw [List.length_take] at hj
    rw [List.getElem_take]
    have := ha j (by omega) (by omega)
    exact decide_eq_true (by omega)
  have c0 : cle l x = i + (l.drop i).countP (fun y => decide (y ≤ x)) := by
    unfold cle
    conv => lhs; rw [e]
    rw [List.countP_append, c1]
  rw [c0]
  by_cases h : i < l.length
  · rw [List.drop_eq_getElem_cons h]
    have c2 : (l.drop (i + 1)).countP (fun y => decide (y ≤ x)) = 0 := by
      refine countP_none (fun y hy => ?_)
      obtain ⟨j, hj, rfl⟩ := List.getElem_of_mem hy
      rw [List.length_drop] at hj
      rw [List.getElem_drop]
      have h1 := hb i h (Nat.le_refl _)
      have h2 := List.pairwise_iff_getElem.1 hs i (i + 1 + j) h (by omega) (by omega)
      exact decide_eq_false (by omega)
    by_cases hx : l[i] = x
    · rw [if_pos ⟨h, hx⟩, List.countP_cons_of_pos (by simp; omega), c2]
    · rw [if_neg (fun ⟨_, hh⟩ => hx hh), List.countP_cons_of_neg (by have := hb i h (Nat.le_refl _); simp; omega), c2]
      omega
  · rw [if_neg (fun ⟨hh, _⟩ => h hh), List.drop_of_length_le (by omega)]
    rfl

theorem mx_0 (n : Nat) : mx (n : Int) 0 = (n : Int) := by unfold mx; split <;> omega
theorem mn_le (a b : Int) (h : a ≤ b) : mn a b = a := by unfold mn; split <;> omega
/-- The way for rising keys: as many keys are at or below x. -/
theorem Way_f (K W : List Int) (x : Int) (k : Nat) (hs : K.Pairwise (· < ·)) (hK : K.length < 1000) (hW : W.length = K.length + 1) (hk : 1000 ≤ k) : inner_Inner_Way.f k K W x = some (cle K x : Int) := by
  obtain ⟨i, hi, h, h4⟩ := BS_f K x k hK hk
  obtain ⟨ha, hb⟩ := h4 hs
  have hc := cle_split K x i hi hs ha hb
  have hn := cle_le K x
  unfold inner_Inner_Way.f
  rw [h, Option.bind_some]
  have ew : wrap64 ((W.length : Int) - 1) = (K.length : Int) := by unfold wrap64; omega
  rw [ew]
  by_cases hf : (∃ h : i < K.length, K[i] = x)
  · rw [if_pos hf] at hc
    rw [if_pos (decide_eq_true hf), wrap_succ _ (by omega), ← hc]
    rw [mx_0, mn_le _ _ (by omega)]
  · rw [if_neg hf] at hc
    rw [if_neg (by simpa using hf)]
    show some (mn (i : Int) _) = _
    rw [← hc, mx_0, mn_le _ _ (by omega)]

end Go.Proofs.Ytkoiffkonjpoiaa.Y
