/- Plain lemmas on lists of pairs whose keys rise, and what the leaf's functions come to as plain Lean functions. No memory in it. -/
import Derived.Test.YtkoiffkonjpoiaaYBase
import Derived.Test.YtkoiffkonjpoiaaQM1
namespace Go.Proofs.Ytkoiffkonjpoiaa.Y
open Go.RowKit Go.Proofs.Ytkoiffkonjpoiaa.Q Go.Proofs.YtkoiffkonjpoiaaW.PrintWords
set_option linter.unusedVariables false
set_option linter.unusedSimpArgs false

def lo (l : List S40) (k : Int) : List S40 := l.filter (fun p => decide (p.f0 < k))
def hi (l : List S40) (k : Int) : List S40 := l.filter (fun p => decide (k < p.f0))
def putL (l : List S40) (k v : Int) : List S40 := lo l k ++ ⟨k, v⟩ :: hi l k
theorem srt_tail {p : S40} {l : List S40} (h : srt (p :: l)) : srt l := (List.pairwise_cons.1 h).2
theorem srt_head {p : S40} {l : List S40} (h : srt (p :: l)) : ∀ q ∈ l, p.f0 < q.f0 := (List.pairwise_cons.1 h).1
theorem hi_all {l : List S40} {k : Int} (h : ∀ q ∈ l, k < q.f0) : hi l k = l := by
  unfold hi; rw [List.filter_eq_self]; intro q hq; simpa using h q hq
theorem lo_none {l : List S40} {k : Int} (h : ∀ q ∈ l, k ≤ q.f0) : lo l k = [] := by
  unfold lo; rw [List.filter_eq_nil_iff]; intro q hq; have := h q hq; simp; omega
/-- A list whose keys rise, seen from a key. -/
theorem view {l : List S40} (hs : srt l) (k : Int) : kcnt l k = (lo l k).length ∧ ((khas l k = true ∧ ∃ v, l = lo l k ++ ⟨k, v⟩ :: hi l k) ∨ (khas l k = false ∧ l = lo l k ++ hi l k)) := by
  refine ⟨by unfold kcnt lo; rw [List.countP_eq_length_filter], ?_⟩
  induction l with
  | nil => exact .inr ⟨rfl, rfl⟩
  | cons p l ih =>
    have hh := srt_head hs
    rcases Int.lt_trichotomy p.f0 k with h1 | h1 | h1
    · have e1 : lo (p :: l) k = p :: lo l k := by unfold lo; rw [List.filter_cons_of_pos (by simpa using h1)]
      have e2 : hi (p :: l) k = hi l k := by unfold hi; rw [List.filter_cons_of_neg (by simp; omega)]
      have e3 : khas (p :: l) k = khas l k := by
        unfold khas
        rw [List.any_cons, decide_eq_false (by omega), Bool.false_or]
      rw [e1, e2, e3]
      rcases ih (srt_tail hs) with ⟨ha, v, hv⟩ | ⟨ha, hv⟩
      · exact .inl ⟨ha, v, by rw [List.cons_append, ← hv]⟩
      · exact .inr ⟨ha, by rw [List.cons_append, ← hv]⟩
    · have e1 : lo (p :: l) k = [] := lo_none (fun q hq => by rcases List.mem_cons.1 hq with rfl | hq; omega; have := hh q hq; omega)
      have e2 : hi (p :: l) k = l := by
        unfold hi
        rw [List.filter_cons_of_neg (by simp; omega)]
        exact hi_all (fun q hq => by have := hh q hq; omega)
      rw [e1, e2]
      refine .inl ⟨by unfold khas; rw [List.any_cons, decide_eq_true h1, Bool.true_or], p.f1, ?_⟩
      rw [List.nil_append, ← h1]
    · have e1 : lo (p :: l) k = [] := lo_none (fun q hq => by rcases List.mem_cons.1 hq with rfl | hq; omega; have := hh q hq; omega)
      have e2 : hi (p :: l) k = p :: l := hi_all (fun q hq => by rcases List.mem_cons.1 hq with rfl | hq; omega; have := hh q hq; omega)
      rw [e1, e2]
      refine .inr ⟨?_, rfl⟩
      rw [Bool.eq_false_iff]
      intro hc
      unfold khas at hc
      rw [List.any_eq_true] at hc
      obtain ⟨q, hq, he⟩ := hc
      have he : q.f0 = k := by simpa using he
      rcases List.mem_cons.1 hq with rfl | hq
      · omega
      · have := hh q hq; omega

/-- The pairs of some keys, each put in with its place and 100. -/
def risingL (raw : List Int) (i : Int) (acc : List S40) : List S40 := match raw with
  | [] => acc
  | a :: r => risingL r (i + 1) (putL acc a (i + 100))
/-- The pairs of some keys. -/
def rise (raw : List Int) : List S40 := risingL raw 0 []
end Go.Proofs.Ytkoiffkonjpoiaa.Y
