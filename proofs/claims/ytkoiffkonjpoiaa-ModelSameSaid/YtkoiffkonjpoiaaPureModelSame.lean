/- The statement ModelSame as plain Lean: what it computes is true for every input. No condition beyond the arguments' own bounds. -/
import Derived.Test.YtkoiffkonjpoiaaQLModelSame
import Derived.Test.YtkoiffkonjpoiaaYModel
import Derived.Test.YtkoiffkonjpoiaaYLeaf
import Derived.Test.YtkoiffkonjpoiaaXTypes2
namespace Go.Proofs.Ytkoiffkonjpoiaa.Pure
open Go.RowKit Go.Proofs.Ytkoiffkonjpoiaa.Q Go.Proofs.YtkoiffkonjpoiaaW.PrintWords Go.Proofs.YtkoiffkonjpoiaaW.PrintLast Go.Proofs.Ytkoiffkonjpoiaa.Y
theorem xor_ne (x : Int) (h : X.wf x) : Go.bits .xor .i64 x 1 ≠ x := by
  have hb := wf_bounds h
  intro he
  have hd : Go.bits .xor .i64 x 1 = IntKind.i64.wrap (((BitVec.ofInt 64 x ^^^ BitVec.ofInt 64 1).toNat : Nat) : Int) := rfl
  rw [hd, IntKind.wrap_i64] at he
  have hlt := (BitVec.ofInt 64 x ^^^ BitVec.ofInt 64 1).isLt
  have ha : (BitVec.ofInt 64 x).toNat = (x % ((2 ^ 64 : Nat) : Int)).toNat := BitVec.toNat_ofInt x
  generalize hn : (BitVec.ofInt 64 x ^^^ BitVec.ofInt 64 1).toNat = n at he hlt
  have e1 : (BitVec.ofInt 64 x).toNat = n := by rw [ha]; omega
  have e2 : BitVec.ofInt 64 x = BitVec.ofInt 64 x ^^^ BitVec.ofInt 64 1 := BitVec.eq_of_toNat_eq (e1.trans hn.symm)
  have e3 := congrArg (fun b => b.getLsbD 0) e2
  have e4 : (BitVec.ofInt 64 1).getLsbD 0 = true := by decide
  simp only [BitVec.getLsbD_xor, e4] at e3
  revert e3
  cases (BitVec.ofInt 64 x).getLsbD 0 <;> decide
theorem up18 {α : Type} {f : Nat → Option α} (mono : ∀ k, LeO (f k) (f (k + 1))) {k m : Nat} {r : α} (h : k ≤ m) (e : f k = some r) : f m = some r := by
  induction h with
  | refl => exact e
  | step _ ih => exact mono _ r ih
theorem MSame_f (k : Nat) (a0 : Int) (a1 : Bool) (a2 a3 : Int) (l : List S40) (a5 : Bool) (b0 : Int) (b1 : Bool) (b2 b3 : Int) (m : List S40) (b5 : Bool) (hl : l.length < 1000) (hk : 1000 ≤ k) :
    model_Same.f k a0 a1 a2 a3 l a5 b0 b1 b2 b3 m b5 = some (decide (a0 = b0 ∧ a1 = b1 ∧ a2 = b2 ∧ a3 = b3 ∧ l = m)) := by
  unfold model_Same.f
  by_cases h0 : a0 = b0
  · by_cases h1 : a1 = b1
    · by_cases h2 : a2 = b2
      · by_cases h3 : a3 = b3
        · rw [if_pos h0, if_pos (by simp [h1]), if_pos h2, if_pos h3, Equal_f _ _ _ hl hk, Option.bind_some]
          simp [h0, h1, h2, h3]
        · rw [if_pos h0, if_pos (by simp [h1]), if_pos h2, if_neg h3]; simp [h3]
      · rw [if_pos h0, if_pos (by simp [h1]), if_neg h2]; simp [h2]
    · rw [if_pos h0, if_neg (by simp [h1])]; simp [h1]
  · rw [if_neg h0]; simp [h0]
theorem LSame_f (k : Nat) (a0 : Int) (a1 : Bool) (a2 a3 : Int) (l : List S40) (a5 : Bool) (b0 : Int) (b1 : Bool) (b2 b3 : Int) (m : List S40) (b5 : Bool) (hl : l.length < 1000) (hk : 1000 ≤ k) :
    boscagelaw18_Same.f k a0 a1 a2 a3 l a5 b0 b1 b2 b3 m b5 = some (decide (a0 = b0 ∧ a1 = b1 ∧ a2 = b2 ∧ a3 = b3 ∧ l = m)) := by
  unfold boscagelaw18_Same.f
  by_cases h0 : a0 = b0
  · by_cases h1 : a1 = b1
    · by_cases h2 : a2 = b2
      · by_cases h3 : a3 = b3
        · rw [if_pos h0, if_pos (by simp [h1]), if_pos h2, if_pos h3, Same_f _ _ _ hl hk, Option.bind_some]
          simp [h0, h1, h2, h3]
        · rw [if_pos h0, if_pos (by simp [h1]), if_pos h2, if_neg h3]; simp [h3]
      · rw [if_pos h0, if_pos (by simp [h1]), if_neg h2]; simp [h2]
    · rw [if_pos h0, if_neg (by simp [h1])]; simp [h1]
  · rw [if_neg h0]; simp [h0]
theorem j4_f (k : Nat) (n : Int) (a0 : Int) (a1 : Bool) (a2 a3 : Int) (l : List S40) (a5 : Bool) (b0 : Int) (b1 : Bool) (b2 b3 : Int) (m : List S40) (b5 : Bool) (c0 : Int) (c1 : Bool) (c2 c3 : Int) (q : List S40) (c5 : Bool)
    (hl : l.length < 1000) (hk : 1000 ≤ k) (h : (a0 = c0 ∧ a1 = c1 ∧ a2 = c2 ∧ a3 = c3 ∧ l = q) ↔ Int.tmod n 5 = 4) :
    boscagelaw18_ModelSame.j4 (k + 1) n a0 a1 a2 a3 l a5 b0 b1 b2 b3 m b5 c0 c1 c2 c3 q c5 = some true := by
  simp only [boscagelaw18_ModelSame.j4]
  rw [MSame_f k a0 a1 a2 a3 l a5 b0 b1 b2 b3 m b5 hl hk, Option.bind_some, LSame_f k a0 a1 a2 a3 l a5 b0 b1 b2 b3 m b5 hl hk, Option.bind_some, if_pos (by simp),
    MSame_f k a0 a1 a2 a3 l a5 a0 a1 a2 a3 l a5 hl hk, Option.bind_some, if_pos (by simp), MSame_f k a0 a1 a2 a3 l a5 c0 c1 c2 c3 q c5 hl hk, Option.bind_some]
  by_cases h4 : Int.tmod n 5 = 4
  · rw [decide_eq_true (h.2 h4), h4]; rfl
  · rw [decide_eq_false (fun hh => h4 (h.1 hh))]
    congr 1
    simp [h4]
theorem j0_f (k : Nat) (n : Int) (a0 : Int) (a1 : Bool) (a2 a3 : Int) (l : List S40) (a5 : Bool) (b0 : Int) (b1 : Bool) (b2 b3 : Int) (m : List S40) (b5 : Bool) (hl : l.length < 1000) (hk : 1000 ≤ k) (hn : 0 ≤ n) (h2 : X.wf a2) (h3 : X.wf a3) :
    boscagelaw18_ModelSame.j0 (k + 5) n false a0 a1 a2 a3 l a5 b0 b1 b2 b3 m b5 = some true := by
  have hr : Int.tmod n 5 = n % 5 := Int.tmod_eq_emod_of_nonneg hn
  have e2 := xor_ne a2 h2
  have e3 := xor_ne a3 h3
  have z01 : ¬ (0 : Int) = 1 := by decide
  by_cases r0 : Int.tmod n 5 = 0
  · simp only [boscagelaw18_ModelSame.j0, boscagelaw18_ModelSame.j1, boscagelaw18_ModelSame.j2, boscagelaw18_ModelSame.j3, Bool.false_eq_true, if_false]
    rw [if_pos r0, if_neg (by omega), if_neg (by omega), if_neg (by omega)]
    exact j4_f k n _ _ _ _ _ _ _ _ _ _ _ _ _ _ _ _ _ _ hl hk ⟨fun hh => absurd hh.2.1 (by simp), fun hh => absurd hh (by omega)⟩
  by_cases r1 : Int.tmod n 5 = 1
  · simp only [boscagelaw18_ModelSame.j0, boscagelaw18_ModelSame.j1, boscagelaw18_ModelSame.j2, boscagelaw18_ModelSame.j3, Bool.false_eq_true, if_false]
    rw [if_neg r0, if_pos r1, if_neg (by omega), if_neg (by omega)]
    exact j4_f k n _ _ _ _ _ _ _ _ _ _ _ _ _ _ _ _ _ _ hl hk ⟨fun hh => absurd hh.2.2.1.symm e2, fun hh => absurd hh (by omega)⟩
  by_cases r2 : Int.tmod n 5 = 2
  · simp only [boscagelaw18_ModelSame.j0, boscagelaw18_ModelSame.j1, boscagelaw18_ModelSame.j2, boscagelaw18_ModelSame.j3, Bool.false_eq_true, if_false]
    rw [if_neg r0, if_neg r1, if_pos r2, if_neg (by omega)]
    exact j4_f k n _ _ _ _ _ _ _ _ _ _ _ _ _ _ _ _ _ _ hl hk ⟨fun hh => absurd hh.2.2.2.1.symm e3, fun hh => absurd hh (by omega)⟩
  by_cases r3 : Int.tmod n 5 = 3
  · simp only [boscagelaw18_ModelSame.j0, boscagelaw18_ModelSame.j1, boscagelaw18_ModelSame.j2, boscagelaw18_ModelSame.j3, Bool.false_eq_true, if_false]
    rw [if_neg r0, if_neg r1, if_neg r2, if_pos r3, Option.bind_some, if_pos (by simp; omega), Option.bind_some, if_pos (by simp; omega)]
    exact j4_f k n _ _ _ _ _ _ _ _ _ _ _ _ _ _ _ _ _ _ hl hk ⟨fun hh => absurd (congrArg List.length hh.2.2.2.2) (by simp), fun hh => absurd hh (by omega)⟩
  · simp only [boscagelaw18_ModelSame.j0, boscagelaw18_ModelSame.j1, boscagelaw18_ModelSame.j2, boscagelaw18_ModelSame.j3, Bool.false_eq_true, if_false]
    rw [if_neg r0, if_neg r1, if_neg r2, if_neg r3]
    exact j4_f k n _ _ _ _ _ _ _ _ _ _ _ _ _ _ _ _ _ _ hl hk ⟨fun _ => by omega, fun _ => ⟨rfl, rfl, rfl, rfl, rfl⟩⟩
theorem wfu8_nonneg {n : Int} (h : X.wf8 n) : 0 ≤ n := by
  have h' : (decide (IntKind.u8.min ≤ n) && decide (n ≤ IntKind.u8.max)) = true := h
  rw [Bool.and_eq_true, decide_eq_true_iff, decide_eq_true_iff] at h'
  have e1 : IntKind.u8.min = 0 := by decide
  omega
theorem ModelSame (a : S84) (b : S84) (n : Int) (w0 : X.ok84 a) (_w1 : X.ok84 b) (w2 : X.wf8 n) : ∃ k, boscagelaw18_ModelSame.f k a.f0 a.f1 a.f2 a.f3 a.f4 a.f5 b.f0 b.f1 b.f2 b.f3 b.f4 b.f5 n = some true := by
  obtain ⟨m, hm⟩ : ∃ m, m = 2000 := ⟨_, rfl⟩
  refine ⟨m + 5, ?_⟩
  unfold boscagelaw18_ModelSame.f
  rw [up18 boscagelaw18_Awake.mono (by omega) Awake18, Option.bind_some, if_pos rfl]
  by_cases hl : (a.f4.length : Int) > 20
  · rw [if_pos hl]
    simp only [boscagelaw18_ModelSame.j0, if_true]
  · rw [if_neg hl]
    by_cases h2 : (b.f4.length : Int) > 20
    · rw [decide_eq_true h2]
      simp only [boscagelaw18_ModelSame.j0, if_true]
    · rw [decide_eq_false h2]
      exact j0_f m n _ _ _ _ _ _ _ _ _ _ _ _ (by omega) (by omega) (wfu8_nonneg w2) w0.2.2.1 w0.2.2.2.1
end Go.Proofs.Ytkoiffkonjpoiaa.Pure
