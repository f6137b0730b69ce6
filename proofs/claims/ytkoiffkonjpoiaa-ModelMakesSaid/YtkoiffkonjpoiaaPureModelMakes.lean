/- The statement ModelMakes as plain Lean: what it computes is true for every input. No condition beyond the arguments' own bounds. -/
import Derived.Test.YtkoiffkonjpoiaaQLModelMakes
import Derived.Test.YtkoiffkonjpoiaaYModel
namespace Go.Proofs.Ytkoiffkonjpoiaa.Pure
open Go.RowKit Go.Proofs.Ytkoiffkonjpoiaa.Q Go.Proofs.YtkoiffkonjpoiaaW.PrintWords Go.Proofs.YtkoiffkonjpoiaaW.PrintLast Go.Proofs.Ytkoiffkonjpoiaa.Y
set_option linter.unusedSimpArgs false
set_option maxRecDepth 4000
theorem wf8_bounds {n : Int} (h : (Lit.int .u8 n).wf = true) : 0 ≤ n ∧ n ≤ 255 := by
  have h' : (decide (IntKind.u8.min ≤ n) && decide (n ≤ IntKind.u8.max)) = true := h
  rw [Bool.and_eq_true, decide_eq_true_iff, decide_eq_true_iff] at h'
  have e1 : IntKind.u8.min = 0 := by decide
  have e2 : IntKind.u8.max = 255 := by decide
  omega
theorem ModelMakes_rest (m : Nat) (a : Int) (l : List Int) (ha : 0 ≤ a) (hr : ¬ (l.length : Int) > 20) :
    ((model_Make.f (m + 5) a l).bind fun bt1161 => ((boscagelaw18_Many.f (m + 5) a).bind fun t1167 => (if (bt1161.2.2.2.2 != (t1167 == (l.length : Int))) = true then (some false) else (if bt1161.2.2.2.2 = true then (if (l.length : Int) > 0 then (if 0 < (l.length : Int) then (boscagelaw18_ModelMakes.j0 (m + 5) l a bt1161.1 bt1161.2.1 bt1161.2.2.1 bt1161.2.2.2.1 a (rd l 0) 0 0) else (none)) else (boscagelaw18_ModelMakes.j0 (m + 5) l a bt1161.1 bt1161.2.1 bt1161.2.2.1 bt1161.2.2.2.1 a 0 0 0)) else (some (bt1161.1 == 0 && (bt1161.2.1 == 0 && (bt1161.2.2.1 == 0 && (bt1161.2.2.2.1 == 0))))))))) = some true := by
  clear hr
  by_cases h12 : a ≥ 12
  · have hz : ∀ c : Int, c < 12 → ¬ a = c := fun c hc h => by omega
    have hz2 : ∀ c : Int, c < 12 → (a == c) = false := fun c hc => by simp; omega
    have hn : ¬ (-1 : Int) = (l.length : Int) := by omega
    have hn2 : ((-1 : Int) == (l.length : Int)) = false := by simp <;> omega
    simp only [model_Make.f, if_pos h12, model_Make.j0, if_true, Option.bind_some, boscagelaw18_Many.f, boscagelaw18_Many.j0, boscagelaw18_Many.j1, if_neg (hz 6 (by decide)), hz2 7 (by decide), if_neg (hz 0 (by decide)), if_neg (hz 3 (by decide)), if_neg (hz 4 (by decide)), if_neg (hz 5 (by decide)), if_neg (hz 8 (by decide)), hz2 9 (by decide), if_neg (hz 1 (by decide)), if_neg (hz 2 (by decide)), if_neg (hz 10 (by decide)), if_neg (hz 11 (by decide)), Bool.false_eq_true, if_false, hn2, bne_self_eq_false]
    try rfl
  rcases l with _ | ⟨x, _ | ⟨y, _ | ⟨z, rest⟩⟩⟩
  · by_cases h0 : a = 0
    · subst h0; simp [model_Make.f, model_Make.j0, model_Make.j1, model_Make.j2, model_Op_Numbers.f, model_Op_Numbers.j0, model_Op_Numbers.j1, boscagelaw18_Many.f, boscagelaw18_Many.j0, boscagelaw18_Many.j1, boscagelaw18_ModelMakes.j0, boscagelaw18_ModelMakes.j1, rd]
    by_cases h1 : a = 1
    · subst h1; simp [model_Make.f, model_Make.j0, model_Make.j1, model_Make.j2, model_Op_Numbers.f, model_Op_Numbers.j0, model_Op_Numbers.j1, boscagelaw18_Many.f, boscagelaw18_Many.j0, boscagelaw18_Many.j1, boscagelaw18_ModelMakes.j0, boscagelaw18_ModelMakes.j1, rd]
    by_cases h2 : a = 2
    · subst h2; simp [model_Make.f, model_Make.j0, model_Make.j1, model_Make.j2, model_Op_Numbers.f, model_Op_Numbers.j0, model_Op_Numbers.j1, boscagelaw18_Many.f, boscagelaw18_Many.j0, boscagelaw18_Many.j1, boscagelaw18_ModelMakes.j0, boscagelaw18_ModelMakes.j1, rd]
    by_cases h3 : a = 3
    · subst h3; simp [model_Make.f, model_Make.j0, model_Make.j1, model_Make.j2, model_Op_Numbers.f, model_Op_Numbers.j0, model_Op_Numbers.j1, boscagelaw18_Many.f, boscagelaw18_Many.j0, boscagelaw18_Many.j1, boscagelaw18_ModelMakes.j0, boscagelaw18_ModelMakes.j1, rd]
    by_cases h4 : a = 4
    · subst h4; simp [model_Make.f, model_Make.j0, model_Make.j1, model_Make.j2, model_Op_Numbers.f, model_Op_Numbers.j0, model_Op_Numbers.j1, boscagelaw18_Many.f, boscagelaw18_Many.j0, boscagelaw18_Many.j1, boscagelaw18_ModelMakes.j0, boscagelaw18_ModelMakes.j1, rd]
    by_cases h5 : a = 5
    · subst h5; simp [model_Make.f, model_Make.j0, model_Make.j1, model_Make.j2, model_Op_Numbers.f, model_Op_Numbers.j0, model_Op_Numbers.j1, boscagelaw18_Many.f, boscagelaw18_Many.j0, boscagelaw18_Many.j1, boscagelaw18_ModelMakes.j0, boscagelaw18_ModelMakes.j1, rd]
    by_cases h6 : a = 6
    · subst h6; simp [model_Make.f, model_Make.j0, model_Make.j1, model_Make.j2, model_Op_Numbers.f, model_Op_Numbers.j0, model_Op_Numbers.j1, boscagelaw18_Many.f, boscagelaw18_Many.j0, boscagelaw18_Many.j1, boscagelaw18_ModelMakes.j0, boscagelaw18_ModelMakes.j1, rd]
    by_cases h7 : a = 7
    · subst h7; simp [model_Make.f, model_Make.j0, model_Make.j1, model_Make.j2, model_Op_Numbers.f, model_Op_Numbers.j0, model_Op_Numbers.j1, boscagelaw18_Many.f, boscagelaw18_Many.j0, boscagelaw18_Many.j1, boscagelaw18_ModelMakes.j0, boscagelaw18_ModelMakes.j1, rd]
    by_cases h8 : a = 8
    · subst h8; simp [model_Make.f, model_Make.j0, model_Make.j1, model_Make.j2, model_Op_Numbers.f, model_Op_Numbers.j0, model_Op_Numbers.j1, boscagelaw18_Many.f, boscagelaw18_Many.j0, boscagelaw18_Many.j1, boscagelaw18_ModelMakes.j0, boscagelaw18_ModelMakes.j1, rd]
    by_cases h9 : a = 9
    · subst h9; simp [model_Make.f, model_Make.j0, model_Make.j1, model_Make.j2, model_Op_Numbers.f, model_Op_Numbers.j0, model_Op_Numbers.j1, boscagelaw18_Many.f, boscagelaw18_Many.j0, boscagelaw18_Many.j1, boscagelaw18_ModelMakes.j0, boscagelaw18_ModelMakes.j1, rd]
    by_cases h10 : a = 10
    · subst h10; simp [model_Make.f, model_Make.j0, model_Make.j1, model_Make.j2, model_Op_Numbers.f, model_Op_Numbers.j0, model_Op_Numbers.j1, boscagelaw18_Many.f, boscagelaw18_Many.j0, boscagelaw18_Many.j1, boscagelaw18_ModelMakes.j0, boscagelaw18_ModelMakes.j1, rd]
    by_cases h11 : a = 11
    · subst h11; simp [model_Make.f, model_Make.j0, model_Make.j1, model_Make.j2, model_Op_Numbers.f, model_Op_Numbers.j0, model_Op_Numbers.j1, boscagelaw18_Many.f, boscagelaw18_Many.j0, boscagelaw18_Many.j1, boscagelaw18_ModelMakes.j0, boscagelaw18_ModelMakes.j1, rd]
    omega
  · by_cases h0 : a = 0
    · subst h0; simp [model_Make.f, model_Make.j0, model_Make.j1, model_Make.j2, model_Op_Numbers.f, model_Op_Numbers.j0, model_Op_Numbers.j1, boscagelaw18_Many.f, boscagelaw18_Many.j0, boscagelaw18_Many.j1, boscagelaw18_ModelMakes.j0, boscagelaw18_ModelMakes.j1, rd]
    by_cases h1 : a = 1
    · subst h1; simp [model_Make.f, model_Make.j0, model_Make.j1, model_Make.j2, model_Op_Numbers.f, model_Op_Numbers.j0, model_Op_Numbers.j1, boscagelaw18_Many.f, boscagelaw18_Many.j0, boscagelaw18_Many.j1, boscagelaw18_ModelMakes.j0, boscagelaw18_ModelMakes.j1, rd]
    by_cases h2 : a = 2
    · subst h2; simp [model_Make.f, model_Make.j0, model_Make.j1, model_Make.j2, model_Op_Numbers.f, model_Op_Numbers.j0, model_Op_Numbers.j1, boscagelaw18_Many.f, boscagelaw18_Many.j0, boscagelaw18_Many.j1, boscagelaw18_ModelMakes.j0, boscagelaw18_ModelMakes.j1, rd]
    by_cases h3 : a = 3
    · subst h3; simp [model_Make.f, model_Make.j0, model_Make.j1, model_Make.j2, model_Op_Numbers.f, model_Op_Numbers.j0, model_Op_Numbers.j1, boscagelaw18_Many.f, boscagelaw18_Many.j0, boscagelaw18_Many.j1, boscagelaw18_ModelMakes.j0, boscagelaw18_ModelMakes.j1, rd]
    by_cases h4 : a = 4
    · subst h4; simp [model_Make.f, model_Make.j0, model_Make.j1, model_Make.j2, model_Op_Numbers.f, model_Op_Numbers.j0, model_Op_Numbers.j1, boscagelaw18_Many.f, boscagelaw18_Many.j0, boscagelaw18_Many.j1, boscagelaw18_ModelMakes.j0, boscagelaw18_ModelMakes.j1, rd]
    by_cases h5 : a = 5
    · subst h5; simp [model_Make.f, model_Make.j0, model_Make.j1, model_Make.j2, model_Op_Numbers.f, model_Op_Numbers.j0, model_Op_Numbers.j1, boscagelaw18_Many.f, boscagelaw18_Many.j0, boscagelaw18_Many.j1, boscagelaw18_ModelMakes.j0, boscagelaw18_ModelMakes.j1, rd]
    by_cases h6 : a = 6
    · subst h6; simp [model_Make.f, model_Make.j0, model_Make.j1, model_Make.j2, model_Op_Numbers.f, model_Op_Numbers.j0, model_Op_Numbers.j1, boscagelaw18_Many.f, boscagelaw18_Many.j0, boscagelaw18_Many.j1, boscagelaw18_ModelMakes.j0, boscagelaw18_ModelMakes.j1, rd]
    by_cases h7 : a = 7
    · subst h7; simp [model_Make.f, model_Make.j0, model_Make.j1, model_Make.j2, model_Op_Numbers.f, model_Op_Numbers.j0, model_Op_Numbers.j1, boscagelaw18_Many.f, boscagelaw18_Many.j0, boscagelaw18_Many.j1, boscagelaw18_ModelMakes.j0, boscagelaw18_ModelMakes.j1, rd]
    by_cases h8 : a = 8
    · subst h8; simp [model_Make.f, model_Make.j0, model_Make.j1, model_Make.j2, model_Op_Numbers.f, model_Op_Numbers.j0, model_Op_Numbers.j1, boscagelaw18_Many.f, boscagelaw18_Many.j0, boscagelaw18_Many.j1, boscagelaw18_ModelMakes.j0, boscagelaw18_ModelMakes.j1, rd]
    by_cases h9 : a = 9
    · subst h9; simp [model_Make.f, model_Make.j0, model_Make.j1, model_Make.j2, model_Op_Numbers.f, model_Op_Numbers.j0, model_Op_Numbers.j1, boscagelaw18_Many.f, boscagelaw18_Many.j0, boscagelaw18_Many.j1, boscagelaw18_ModelMakes.j0, boscagelaw18_ModelMakes.j1, rd]
    by_cases h10 : a = 10
    · subst h10; simp [model_Make.f, model_Make.j0, model_Make.j1, model_Make.j2, model_Op_Numbers.f, model_Op_Numbers.j0, model_Op_Numbers.j1, boscagelaw18_Many.f, boscagelaw18_Many.j0, boscagelaw18_Many.j1, boscagelaw18_ModelMakes.j0, boscagelaw18_ModelMakes.j1, rd]
    by_cases h11 : a = 11
    · subst h11; simp [model_Make.f, model_Make.j0, model_Make.j1, model_Make.j2, model_Op_Numbers.f, model_Op_Numbers.j0, model_Op_Numbers.j1, boscagelaw18_Many.f, boscagelaw18_Many.j0, boscagelaw18_Many.j1, boscagelaw18_ModelMakes.j0, boscagelaw18_ModelMakes.j1, rd]
    omega
  · by_cases h0 : a = 0
    · subst h0; simp [model_Make.f, model_Make.j0, model_Make.j1, model_Make.j2, model_Op_Numbers.f, model_Op_Numbers.j0, model_Op_Numbers.j1, boscagelaw18_Many.f, boscagelaw18_Many.j0, boscagelaw18_Many.j1, boscagelaw18_ModelMakes.j0, boscagelaw18_ModelMakes.j1, rd]
    by_cases h1 : a = 1
    · subst h1; simp [model_Make.f, model_Make.j0, model_Make.j1, model_Make.j2, model_Op_Numbers.f, model_Op_Numbers.j0, model_Op_Numbers.j1, boscagelaw18_Many.f, boscagelaw18_Many.j0, boscagelaw18_Many.j1, boscagelaw18_ModelMakes.j0, boscagelaw18_ModelMakes.j1, rd]
    by_cases h2 : a = 2
    · subst h2; simp [model_Make.f, model_Make.j0, model_Make.j1, model_Make.j2, model_Op_Numbers.f, model_Op_Numbers.j0, model_Op_Numbers.j1, boscagelaw18_Many.f, boscagelaw18_Many.j0, boscagelaw18_Many.j1, boscagelaw18_ModelMakes.j0, boscagelaw18_ModelMakes.j1, rd]
    by_cases h3 : a = 3
    · subst h3; simp [model_Make.f, model_Make.j0, model_Make.j1, model_Make.j2, model_Op_Numbers.f, model_Op_Numbers.j0, model_Op_Numbers.j1, boscagelaw18_Many.f, boscagelaw18_Many.j0, boscagelaw18_Many.j1, boscagelaw18_ModelMakes.j0, boscagelaw18_ModelMakes.j1, rd]
    by_cases h4 : a = 4
    · subst h4; simp [model_Make.f, model_Make.j0, model_Make.j1, model_Make.j2, model_Op_Numbers.f, model_Op_Numbers.j0, model_Op_Numbers.j1, boscagelaw18_Many.f, boscagelaw18_Many.j0, boscagelaw18_Many.j1, boscagelaw18_ModelMakes.j0, boscagelaw18_ModelMakes.j1, rd]
    by_cases h5 : a = 5
    · subst h5; simp [model_Make.f, model_Make.j0, model_Make.j1, model_Make.j2, model_Op_Numbers.f, model_Op_Numbers.j0, model_Op_Numbers.j1, boscagelaw18_Many.f, boscagelaw18_Many.j0, boscagelaw18_Many.j1, boscagelaw18_ModelMakes.j0, boscagelaw18_ModelMakes.j1, rd]
    by_cases h6 : a = 6
    · subst h6; simp [model_Make.f, model_Make.j0, model_Make.j1, model_Make.j2, model_Op_Numbers.f, model_Op_Numbers.j0, model_Op_Numbers.j1, boscagelaw18_Many.f, boscagelaw18_Many.j0, boscagelaw18_Many.j1, boscagelaw18_ModelMakes.j0, boscagelaw18_ModelMakes.j1, rd]
    by_cases h7 : a = 7
    · subst h7; simp [model_Make.f, model_Make.j0, model_Make.j1, model_Make.j2, model_Op_Numbers.f, model_Op_Numbers.j0, model_Op_Numbers.j1, boscagelaw18_Many.f, boscagelaw18_Many.j0, boscagelaw18_Many.j1, boscagelaw18_ModelMakes.j0, boscagelaw18_ModelMakes.j1, rd]
    by_cases h8 : a = 8
    · subst h8; simp [model_Make.f, model_Make.j0, model_Make.j1, model_Make.j2, model_Op_Numbers.f, model_Op_Numbers.j0, model_Op_Numbers.j1, boscagelaw18_Many.f, boscagelaw18_Many.j0, boscagelaw18_Many.j1, boscagelaw18_ModelMakes.j0, boscagelaw18_ModelMakes.j1, rd]
    by_cases h9 : a = 9
    · subst h9; simp [model_Make.f, model_Make.j0, model_Make.j1, model_Make.j2, model_Op_Numbers.f, model_Op_Numbers.j0, model_Op_Numbers.j1, boscagelaw18_Many.f, boscagelaw18_Many.j0, boscagelaw18_Many.j1, boscagelaw18_ModelMakes.j0, boscagelaw18_ModelMakes.j1, rd]
    by_cases h10 : a = 10
    · subst h10; simp [model_Make.f, model_Make.j0, model_Make.j1, model_Make.j2, model_Op_Numbers.f, model_Op_Numbers.j0, model_Op_Numbers.j1, boscagelaw18_Many.f, boscagelaw18_Many.j0, boscagelaw18_Many.j1, boscagelaw18_ModelMakes.j0, boscagelaw18_ModelMakes.j1, rd]
    by_cases h11 : a = 11
    · subst h11; simp [model_Make.f, model_Make.j0, model_Make.j1, model_Make.j2, model_Op_Numbers.f, model_Op_Numbers.j0, model_Op_Numbers.j1, boscagelaw18_Many.f, boscagelaw18_Many.j0, boscagelaw18_Many.j1, boscagelaw18_ModelMakes.j0, boscagelaw18_ModelMakes.j1, rd]
    omega
  · generalize hl : x :: y :: z :: rest = l
    have hn : (l.length : Int) ≥ 3 := by rw [← hl]; simp; omega
    have e1 : ¬ (l.length : Int) = 1 := by omega
    have e2 : ¬ (l.length : Int) = 2 := by omega
    have e3 : ¬ l = [] := by rw [← hl]; simp
    have e4 : ¬ 1 = (l.length : Int) := by omega
    have e5 : ¬ 2 = (l.length : Int) := by omega
    have e6 : ((1 : Int) == (l.length : Int)) = false := by simp; omega
    have e7 : ((2 : Int) == (l.length : Int)) = false := by simp; omega
    have e8 : ((0 : Int) == (l.length : Int)) = false := by simp; omega
    have e9 : 0 < l.length := by omega
    have e0 : 1 < l.length := by omega
    by_cases h0 : a = 0
    · subst h0; simp [model_Make.f, model_Make.j0, model_Make.j1, model_Make.j2, model_Op_Numbers.f, model_Op_Numbers.j0, model_Op_Numbers.j1, boscagelaw18_Many.f, boscagelaw18_Many.j0, boscagelaw18_Many.j1, boscagelaw18_ModelMakes.j0, boscagelaw18_ModelMakes.j1, rd, e0, e1, e2, e3, e4, e5, e6, e7, e8, e9]
    by_cases h1 : a = 1
    · subst h1; simp [model_Make.f, model_Make.j0, model_Make.j1, model_Make.j2, model_Op_Numbers.f, model_Op_Numbers.j0, model_Op_Numbers.j1, boscagelaw18_Many.f, boscagelaw18_Many.j0, boscagelaw18_Many.j1, boscagelaw18_ModelMakes.j0, boscagelaw18_ModelMakes.j1, rd, e0, e1, e2, e3, e4, e5, e6, e7, e8, e9]
    by_cases h2 : a = 2
    · subst h2; simp [model_Make.f, model_Make.j0, model_Make.j1, model_Make.j2, model_Op_Numbers.f, model_Op_Numbers.j0, model_Op_Numbers.j1, boscagelaw18_Many.f, boscagelaw18_Many.j0, boscagelaw18_Many.j1, boscagelaw18_ModelMakes.j0, boscagelaw18_ModelMakes.j1, rd, e0, e1, e2, e3, e4, e5, e6, e7, e8, e9]
    by_cases h3 : a = 3
    · subst h3; simp [model_Make.f, model_Make.j0, model_Make.j1, model_Make.j2, model_Op_Numbers.f, model_Op_Numbers.j0, model_Op_Numbers.j1, boscagelaw18_Many.f, boscagelaw18_Many.j0, boscagelaw18_Many.j1, boscagelaw18_ModelMakes.j0, boscagelaw18_ModelMakes.j1, rd, e0, e1, e2, e3, e4, e5, e6, e7, e8, e9]
    by_cases h4 : a = 4
    · subst h4; simp [model_Make.f, model_Make.j0, model_Make.j1, model_Make.j2, model_Op_Numbers.f, model_Op_Numbers.j0, model_Op_Numbers.j1, boscagelaw18_Many.f, boscagelaw18_Many.j0, boscagelaw18_Many.j1, boscagelaw18_ModelMakes.j0, boscagelaw18_ModelMakes.j1, rd, e0, e1, e2, e3, e4, e5, e6, e7, e8, e9]
    by_cases h5 : a = 5
    · subst h5; simp [model_Make.f, model_Make.j0, model_Make.j1, model_Make.j2, model_Op_Numbers.f, model_Op_Numbers.j0, model_Op_Numbers.j1, boscagelaw18_Many.f, boscagelaw18_Many.j0, boscagelaw18_Many.j1, boscagelaw18_ModelMakes.j0, boscagelaw18_ModelMakes.j1, rd, e0, e1, e2, e3, e4, e5, e6, e7, e8, e9]
    by_cases h6 : a = 6
    · subst h6; simp [model_Make.f, model_Make.j0, model_Make.j1, model_Make.j2, model_Op_Numbers.f, model_Op_Numbers.j0, model_Op_Numbers.j1, boscagelaw18_Many.f, boscagelaw18_Many.j0, boscagelaw18_Many.j1, boscagelaw18_ModelMakes.j0, boscagelaw18_ModelMakes.j1, rd, e0, e1, e2, e3, e4, e5, e6, e7, e8, e9]
    by_cases h7 : a = 7
    · subst h7; simp [model_Make.f, model_Make.j0, model_Make.j1, model_Make.j2, model_Op_Numbers.f, model_Op_Numbers.j0, model_Op_Numbers.j1, boscagelaw18_Many.f, boscagelaw18_Many.j0, boscagelaw18_Many.j1, boscagelaw18_ModelMakes.j0, boscagelaw18_ModelMakes.j1, rd, e0, e1, e2, e3, e4, e5, e6, e7, e8, e9]
    by_cases h8 : a = 8
    · subst h8; simp [model_Make.f, model_Make.j0, model_Make.j1, model_Make.j2, model_Op_Numbers.f, model_Op_Numbers.j0, model_Op_Numbers.j1, boscagelaw18_Many.f, boscagelaw18_Many.j0, boscagelaw18_Many.j1, boscagelaw18_ModelMakes.j0, boscagelaw18_ModelMakes.j1, rd, e0, e1, e2, e3, e4, e5, e6, e7, e8, e9]
    by_cases h9 : a = 9
    · subst h9; simp [model_Make.f, model_Make.j0, model_Make.j1, model_Make.j2, model_Op_Numbers.f, model_Op_Numbers.j0, model_Op_Numbers.j1, boscagelaw18_Many.f, boscagelaw18_Many.j0, boscagelaw18_Many.j1, boscagelaw18_ModelMakes.j0, boscagelaw18_ModelMakes.j1, rd, e0, e1, e2, e3, e4, e5, e6, e7, e8, e9]
    by_cases h10 : a = 10
    · subst h10; simp [model_Make.f, model_Make.j0, model_Make.j1, model_Make.j2, model_Op_Numbers.f, model_Op_Numbers.j0, model_Op_Numbers.j1, boscagelaw18_Many.f, boscagelaw18_Many.j0, boscagelaw18_Many.j1, boscagelaw18_ModelMakes.j0, boscagelaw18_ModelMakes.j1, rd, e0, e1, e2, e3, e4, e5, e6, e7, e8, e9]
    by_cases h11 : a = 11
    · subst h11; simp [model_Make.f, model_Make.j0, model_Make.j1, model_Make.j2, model_Op_Numbers.f, model_Op_Numbers.j0, model_Op_Numbers.j1, boscagelaw18_Many.f, boscagelaw18_Many.j0, boscagelaw18_Many.j1, boscagelaw18_ModelMakes.j0, boscagelaw18_ModelMakes.j1, rd, e0, e1, e2, e3, e4, e5, e6, e7, e8, e9]
    omega
theorem ModelMakes : boscagelaw18_ModelMakes.Pure := by
  intro a l ha _ _ _
  obtain ⟨m, hm⟩ : ∃ m, 40 = m + 5 := ⟨35, rfl⟩
  refine ⟨40, ?_⟩
  unfold boscagelaw18_ModelMakes.f
  rw [Awake18, hm]
  simp only [Option.bind_some, if_true]
  by_cases hr : (l.length : Int) > 20
  · rw [if_pos hr]
  · rw [if_neg hr]
    exact ModelMakes_rest m a l (wf8_bounds ha).1 hr
end Go.Proofs.Ytkoiffkonjpoiaa.Pure
