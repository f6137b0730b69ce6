/- The statement InnerKeeps as plain Lean: what it computes is true for every input. No condition beyond the arguments' own bounds. -/
import Derived.Test.YtkoiffkonjpoiaaQLInnerKeeps
import Derived.Test.YtkoiffkonjpoiaaYInner7
import Derived.Test.YtkoiffkonjpoiaaYInner6
import Derived.Test.YtkoiffkonjpoiaaXTypes
namespace Go.Proofs.Ytkoiffkonjpoiaa.Pure
open Go.RowKit Go.Proofs.Ytkoiffkonjpoiaa.Q Go.Proofs.YtkoiffkonjpoiaaW.PrintWords Go.Proofs.YtkoiffkonjpoiaaW.PrintLast Go.Proofs.Ytkoiffkonjpoiaa.Y
theorem at_some (n1 N : Nat) (h : 0 < N) (h1 : n1 < 1000) : ∃ p, p < N ∧ Int.tmod (wrap64 (n1 : Int)) (N : Int) = ((p : Nat) : Int) := by
  have e : wrap64 (n1 : Int) = (n1 : Int) := by unfold wrap64; omega
  rw [e]
  exact ⟨n1 % N, Nat.mod_lt _ h, rfl⟩
theorem wfK8_bounds {n : Int} (h : X.wf8 n) : 0 ≤ n ∧ n ≤ 255 := by
  have h' : (decide (IntKind.u8.min ≤ n) && decide (n ≤ IntKind.u8.max)) = true := h
  rw [Bool.and_eq_true, decide_eq_true_iff, decide_eq_true_iff] at h'
  have e1 : IntKind.u8.min = 0 := by decide
  have e2 : IntKind.u8.max = 255 := by decide
  omega
theorem InnerKeeps (l0 : List Int) (a b : Int) (_y0 : l0.length ≤ 9223372036854775807) (_w0 : ∀ y ∈ l0, X.wf y) (w1 : X.wf8 a) (_w2 : X.wf b) : ∃ k, boscagelaw03_InnerKeeps.f k l0 a b = some true := by
  obtain ⟨m, hm⟩ : ∃ m, m = 6000 := ⟨_, rfl⟩
  refine ⟨m + 1, ?_⟩
  unfold boscagelaw03_InnerKeeps.f
  rw [Awake03 _ (by omega), Option.bind_some, if_pos rfl]
  by_cases hl : (l0.length : Int) > 40
  · rw [if_pos hl]
  · have hn := rise_length l0
    obtain ⟨ha, ha2⟩ := wfK8_bounds w1
    obtain ⟨n1, rfl⟩ := Int.eq_ofNat_of_zero_le ha
    obtain ⟨K, hK⟩ : ∃ K, (rise l0).map (·.f0) = K := ⟨_, rfl⟩
    have hKl : K.length = (rise l0).length := by rw [← hK]; simp
    have hO := Of_f l0 1 (by omega) (m + 1) (by omega) (by omega)
    rw [hK, ← hKl] at hO
    have hWl := wayL_length 1 (K.length + 1)
    generalize wayL 1 (K.length + 1) = W at hO hWl
    have hC := Copy_f K W (by omega) (by omega)
    obtain ⟨_, hH⟩ := Halves_some K W m hWl (by omega)
    obtain ⟨p, hp, hpe⟩ := at_some n1 W.length (by omega) (by omega)
    obtain ⟨_, hI⟩ := With_some K W (p : Int) 9 (by omega) (by omega)
    have hA := Absorb_yes K W K W p m (by omega) hWl hp (by omega) hWl
    obtain ⟨_, hJ⟩ := Join_some K W b K W (by omega) (by omega) (by omega) (by omega)
    obtain ⟨_, hM⟩ := Merged_some K W p 9 m (by omega) hWl hp
    obtain ⟨_, hT⟩ := Turned_some K W p 8 b 9 (by omega) hWl hp
    have hS := ISame_f K W (m + 1) (by omega) (by omega) (by omega)
    have hlt : W.length < 1000 := by omega
    rw [if_neg hl, hO, Option.bind_some]
    dsimp only
    rw [if_pos ⟨hC, hWl, hlt⟩, hpe, hH, Option.bind_some, hI, Option.bind_some, hA, Option.bind_some, hJ, Option.bind_some, hM, Option.bind_some, hT, Option.bind_some, hS]
end Go.Proofs.Ytkoiffkonjpoiaa.Pure
