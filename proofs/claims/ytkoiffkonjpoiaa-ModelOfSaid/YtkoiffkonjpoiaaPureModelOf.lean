/- The statement ModelOf as plain Lean: what it computes is true for every input. No condition beyond the arguments' own bounds. -/
import Derived.Test.YtkoiffkonjpoiaaQLModelOf
import Derived.Test.YtkoiffkonjpoiaaYModel
import Derived.Test.YtkoiffkonjpoiaaYLeaf
import Derived.Test.YtkoiffkonjpoiaaXTypes
namespace Go.Proofs.Ytkoiffkonjpoiaa.Pure
open Go.RowKit Go.Proofs.Ytkoiffkonjpoiaa.Q Go.Proofs.YtkoiffkonjpoiaaW.PrintWords Go.Proofs.YtkoiffkonjpoiaaW.PrintLast Go.Proofs.Ytkoiffkonjpoiaa.Y
theorem upOf {α : Type} {f : Nat → Option α} (mono : ∀ k, LeO (f k) (f (k + 1))) {k m : Nat} {r : α} (h : k ≤ m) (e : f k = some r) : f m = some r := by
  induction h with
  | refl => exact e
  | step _ ih => exact mono _ r ih
theorem oneR_in (l : List S40) (i : Int) (h : 0 ≤ i ∧ i < (l.length : Int)) : oneR l i = (true, (l.getD i.toNat ⟨0, 0⟩).f0, (l.getD i.toNat ⟨0, 0⟩).f1) := by
  obtain ⟨n, rfl⟩ := Int.eq_ofNat_of_zero_le h.1
  have hn : n < l.length := by omega
  unfold oneR
  rw [if_pos h.1, Int.toNat_natCast, List.getElem?_eq_getElem hn]
  simp [List.getD_eq_getElem?_getD, List.getElem?_eq_getElem hn]
theorem oneR_out (l : List S40) (i : Int) (h : ¬ (0 ≤ i ∧ i < (l.length : Int))) : oneR l i = (false, 0, 0) := by
  unfold oneR
  by_cases h0 : 0 ≤ i
  · obtain ⟨n, rfl⟩ := Int.eq_ofNat_of_zero_le h0
    rw [if_pos h0, Int.toNat_natCast, List.getElem?_eq_none (by omega)]
  · rw [if_neg h0]
theorem of_one (a0 a1 : Int) (l : List S40) (i : Int) (h1 : ofR a0 a1 l = (0, (oneR l i).1, (oneR l i).2.1, (oneR l i).2.2, [], false)) (h2 : (0 ≤ i ∧ i < (l.length : Int)) → boscagelaw18_ModelOf.at0 a0 a1 l.length = i) (h3 : ¬ (0 ≤ i ∧ i < (l.length : Int)) → ¬ (0 ≤ boscagelaw18_ModelOf.at0 a0 a1 l.length ∧ boscagelaw18_ModelOf.at0 a0 a1 l.length < (l.length : Int))) (h4 : boscagelaw18_ModelOf.w0 a0 l = (false, 0, [])) :
    ofR a0 a1 l = (0, (boscagelaw18_ModelOf.want a0 a1 l).1, (boscagelaw18_ModelOf.want a0 a1 l).2.1, (boscagelaw18_ModelOf.want a0 a1 l).2.2.1, (boscagelaw18_ModelOf.want a0 a1 l).2.2.2, false) := by
  rw [h1]
  unfold boscagelaw18_ModelOf.want
  by_cases h : 0 ≤ i ∧ i < (l.length : Int)
  · rw [h2 h, if_pos h, oneR_in l i h]
  · rw [if_neg (h3 h), oneR_out l i h, h4]
theorem ofR_want (a0 a1 : Int) (l : List S40) : ofR a0 a1 l = (0, (boscagelaw18_ModelOf.want a0 a1 l).1, (boscagelaw18_ModelOf.want a0 a1 l).2.1, (boscagelaw18_ModelOf.want a0 a1 l).2.2.1, (boscagelaw18_ModelOf.want a0 a1 l).2.2.2, false) := by
  by_cases h1 : a0 = 4 ∨ a0 = 7
  · have e : boscagelaw18_ModelOf.at0 a0 a1 l.length = (l.length : Int) - 1 := by unfold boscagelaw18_ModelOf.at0; rw [if_pos h1]
    exact of_one a0 a1 l _ (by unfold ofR; rw [if_pos h1]) (fun _ => e) (fun h => by rw [e]; exact h) (by unfold boscagelaw18_ModelOf.w0; rw [if_neg (by omega), if_neg (by omega)])
  by_cases h2 : a0 = 5 ∨ a0 = 6
  · have e : boscagelaw18_ModelOf.at0 a0 a1 l.length = 0 := by unfold boscagelaw18_ModelOf.at0; rw [if_neg h1, if_pos h2]
    exact of_one a0 a1 l 0 (by unfold ofR; rw [if_neg h1, if_pos h2]) (fun _ => e) (fun h => by rw [e]; exact h) (by unfold boscagelaw18_ModelOf.w0; rw [if_neg (by omega), if_neg (by omega)])
  by_cases h3 : a0 = 9
  · refine of_one a0 a1 l a1 (by unfold ofR; rw [if_neg h1, if_neg h2, if_pos h3]) (fun h => ?_) (fun h => ?_) (by unfold boscagelaw18_ModelOf.w0; rw [if_neg (by omega), if_neg (by omega)])
    · unfold boscagelaw18_ModelOf.at0
      rw [if_neg h1, if_neg h2, if_pos h3, if_pos h]
    · unfold boscagelaw18_ModelOf.at0
      rw [if_neg h1, if_neg h2, if_pos h3, if_neg h]
      omega
  have e : boscagelaw18_ModelOf.at0 a0 a1 l.length = -1 := by unfold boscagelaw18_ModelOf.at0; rw [if_neg h1, if_neg h2, if_neg h3]
  unfold boscagelaw18_ModelOf.want ofR boscagelaw18_ModelOf.w0
  rw [e, if_neg h1, if_neg h2, if_neg h3, if_neg (show ¬ ((0 : Int) ≤ -1 ∧ (-1 : Int) < (l.length : Int)) by omega)]
  by_cases h4 : a0 = 8 ∨ a0 = 10
  · rw [if_pos h4, if_pos h4]
  · rw [if_neg h4, if_neg h4]
    by_cases h5 : a0 = 11
    · rw [if_pos h5, if_pos h5]
    · rw [if_neg h5, if_neg h5]
theorem want_len (a0 a1 : Int) (l : List S40) (n : Nat) (h : l.length ≤ n) : (boscagelaw18_ModelOf.want a0 a1 l).2.2.2.length ≤ n := by
  unfold boscagelaw18_ModelOf.want boscagelaw18_ModelOf.w0
  split
  · simp
  · split
    · simp
    · split
      · exact h
      · simp
theorem LawSame_refl (K : Nat) (e : Int) (b : Bool) (k v : Int) (p : List S40) (s t : Bool) (hp : p.length < 1000) (hK : 1000 ≤ K) : boscagelaw18_Same.f K e b k v p s e b k v p t = some true := by
  unfold boscagelaw18_Same.f
  rw [if_pos rfl, if_pos (by simp), if_pos rfl, if_pos rfl, Same_f _ _ _ hp hK, Option.bind_some, decide_eq_true rfl]
theorem ModelOf (x : S78) (l : List S40) (_w0 : X.ok78 x) (_y1 : l.length ≤ 9223372036854775807) (_w1 : ∀ y ∈ l, X.ok40 y) : ∃ k, boscagelaw18_ModelOf.f k x.f0 x.f1 x.f2 x.f3 l = some true := by
  obtain ⟨m, hm⟩ : ∃ m, m = 5000 := ⟨_, rfl⟩
  refine ⟨m, ?_⟩
  unfold boscagelaw18_ModelOf.f
  rw [upOf boscagelaw18_Awake.mono (by omega) Awake18, Option.bind_some, if_pos rfl]
  by_cases hl : (l.length : Int) > 40
  · rw [if_pos hl]
  · rw [if_neg hl]
    unfold model_Op_Of.f
    rw [if_pos (by omega), Option.bind_some, ofR_want]
    dsimp only
    rw [LawSame_refl _ _ _ _ _ _ _ _ (by have := want_len x.f0 x.f1 l 40 (by omega); omega) (by omega), Option.bind_some]
    rfl
end Go.Proofs.Ytkoiffkonjpoiaa.Pure
