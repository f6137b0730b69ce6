/- Plain lemmas on lists of pairs whose keys rise, and what the leaf's functions come to as plain Lean functions. No memory in it. -/
import Derived.Test.YtkoiffkonjpoiaaYBase
import Derived.Test.YtkoiffkonjpoiaaQA1
namespace Go.Proofs.Ytkoiffkonjpoiaa.Y
open Go.RowKit Go.Proofs.Ytkoiffkonjpoiaa.Q Go.Proofs.YtkoiffkonjpoiaaW.PrintWords
set_option linter.unusedVariables false
set_option linter.unusedSimpArgs false

def lo (l : List S40) (k : Int) : List S40 := l.filter (fun p => decide (p.f0 < k))
def hi (l : List S40) (k : Int) : List S40 := l.filter (fun p => decide (k < p.f0))
def putL (l : List S40) (k v : Int) : List S40 := lo l k ++ ⟨k, v⟩ :: hi l k
def cutL (l : List S40) (k : Int) : List S40 := lo l k ++ hi l k
theorem mem_lo {l : List S40} {k : Int} {p : S40} (h : p ∈ lo l k) : p ∈ l ∧ p.f0 < k := by simpa [lo] using h
theorem mem_hi {l : List S40} {k : Int} {p : S40} (h : p ∈ hi l k) : p ∈ l ∧ k < p.f0 := by simpa [hi] using h
theorem srt_tail {p : S40} {l : List S40} (h : srt (p :: l)) : srt l := (List.pairwise_cons.1 h).2
theorem srt_head {p : S40} {l : List S40} (h : srt (p :: l)) : ∀ q ∈ l, p.f0 < q.f0 := (List.pairwise_cons.1 h).1
theorem hi_all {l : List S40} {k : Int} (h : ∀ q ∈ l, k < q.f0) : hi l k = l := by
  unfold hi; rw [List.filter_eq_self]; intro q hq; simpa using h q hq
theorem lo_none {l : List S40} {k : Int} (h : ∀ q ∈ l, k ≤ q.f0) : lo l k = [] := by
  unfold lo; rw [List.filter_eq_nil_iff]; intro q hq; have := h q hq; simp; omega
theorem srt_put {l : List S40} (h : srt l) (k v : Int) : srt (putL l k v) := by
  unfold putL srt
  rw [List.pairwise_append]
  refine ⟨h.sublist List.filter_sublist, ?_, ?_⟩
  · rw [List.pairwise_cons]
    exact ⟨fun q hq => (mem_hi hq).2, h.sublist List.filter_sublist⟩
  · intro p hp q hq
    have h1 := (mem_lo hp).2
    rcases List.mem_cons.1 hq with rfl | hq
    · exact h1
    · have h2 := (mem_hi hq).2
      omega
theorem srt_cut {l : List S40} (h : srt l) (k : Int) : srt (cutL l k) := by
  unfold cutL srt
  rw [List.pairwise_append]
  refine ⟨h.sublist List.filter_sublist, h.sublist List.filter_sublist, ?_⟩
  intro p hp q hq
  have h1 := (mem_lo hp).2
  have h2 := (mem_hi hq).2
  omega
/-- A list whose keys rise, seen from a key. -/
theorem view {l : List S40} (hs : srt l) (k : Int) : kcnt l k = (lo l k).length ∧ ((khas l k = true ∧ ∃ v, l = lo l k ++ ⟨k, v⟩ :: hi l k) ∨ (khas l k = false ∧ l = lo l k ++ hi l k)) := by
  refine ⟨by unfold kcnt lo; rw [List.countP_eq_length_filter], ?_⟩
  induction l with
  | nil => exact .inr ⟨rfl, rfl⟩
  | cons p l ih =>
    have hh := srt_head hs
    rcases Int.lt_trichotomy p.f0 k with h1 | h1 | h1
    · have e1 : lo (p :: l) k = p :: lo l k := by unfold lo; rw [List.filter_cons_of_pos (by simpa using h1)]
      have e2 : hi (p :: l) k = hi l k := by unfold hi; rw [List.filter_cons_of_neg (by simp; omega)]
      have e3 : khas (p :: l) k = khas l k := by
        unfold khas
        rw [List.any_cons, decide_eq_false (by omega), Bool.false_or]
      rw [e1, e2, e3]
      rcases ih (srt_tail hs) with ⟨ha, v, hv⟩ | ⟨ha, hv⟩
      · exact .inl ⟨ha, v, by rw [List.cons_append, ← hv]⟩
      · exact .inr ⟨ha, by rw [List.cons_append, ← hv]⟩
    · have e1 : lo (p :: l) k = [] := lo_none (fun q hq => by rcases List.mem_cons.1 hq with rfl | hq; omega; have := hh q hq; omega)
      have e2 : hi (p :: l) k = l := by
        unfold hi
        rw [List.filter_cons_of_neg (by simp; omega)]
        exact hi_all (fun q hq => by have := hh q hq; omega)
      rw [e1, e2]
      refine .inl ⟨by unfold khas; rw [List.any_cons, decide_eq_true h1, Bool.true_or], p.f1, ?_⟩
      rw [List.nil_append, ← h1]
    · have e1 : lo (p :: l) k = [] := lo_none (fun q hq => by rcases List.mem_cons.1 hq with rfl | hq; omega; have := hh q hq; omega)
      have e2 : hi (p :: l) k = p :: l := hi_all (fun q hq => by rcases List.mem_cons.1 hq with rfl | hq; omega; have := hh q hq; omega)
      rw [e1, e2]
      refine .inr ⟨?_, rfl⟩
      rw [Bool.eq_false_iff]
      intro hc
      unfold khas at hc
      rw [List.any_eq_true] at hc
      obtain ⟨q, hq, he⟩ := hc
      have he : q.f0 = k := by simpa using he
      rcases List.mem_cons.1 hq with rfl | hq
      · omega
      · have := hh q hq; omega

theorem Put_l0_done (a v : Int) : ∀ (rest pre acc : List S40) (k : Nat), 2 * rest.length < k → (pre ++ rest).length < 1000000 → acc.length + rest.length < 2000000 →
    boscagelaw02_Put.l0 k a v acc true (pre ++ rest) ((pre ++ rest).length : Int) (pre.length : Int) = some (acc ++ rest.filter (fun p => decide (p.f0 ≠ a)))
  | [], pre, acc, k, hk, hn, ha => by
    obtain ⟨k, rfl⟩ : ∃ m, k = m + 1 := ⟨k - 1, by omega⟩
    simp only [boscagelaw02_Put.l0]
    rw [if_neg (by simp), if_pos trivial]
    simp
  | p :: rest, pre, acc, k, hk, hn, ha => by
    obtain ⟨k, rfl⟩ : ∃ m, k = m + 2 := ⟨k - 2, by simp at hk; omega⟩
    simp only [List.length_append, List.length_cons] at hk hn ha
    have ih := fun acc' h => Put_l0_done a v rest (pre ++ [p]) acc' k (by omega) (by simp; omega) h
    simp only [boscagelaw02_Put.l0]
    rw [if_pos (by simp; omega), if_pos (by omega), if_pos (by simp; omega), if_pos trivial, rd_mid]
    simp only [boscagelaw02_Put.j1]
    rw [if_neg (by simp), wrap_succ _ (by omega)]
    have e1 : ((pre.length + 1 : Nat) : Int) = ((pre ++ [p]).length : Int) := by simp
    have e2 : pre ++ p :: rest = (pre ++ [p]) ++ rest := by simp
    rw [e1, e2]
    by_cases h : p.f0 = a
    · rw [if_pos h, ih acc (by omega), List.filter_cons_of_neg (by simpa using h)]
    · rw [if_neg h, if_pos (by omega), ih _ (by simp; omega), List.filter_cons_of_pos (by simpa using h), eta40]
      simp
theorem Put_l0 (a v : Int) : ∀ (rest pre acc : List S40) (k : Nat), srt rest → 2 * rest.length < k → (pre ++ rest).length < 1000000 → acc.length + rest.length < 1000000 →
    boscagelaw02_Put.l0 k a v acc false (pre ++ rest) ((pre ++ rest).length : Int) (pre.length : Int) = some (acc ++ putL rest a v)
  | [], pre, acc, k, hs, hk, hn, ha => by
    obtain ⟨k, rfl⟩ : ∃ m, k = m + 1 := ⟨k - 1, by omega⟩
    simp only [boscagelaw02_Put.l0]
    rw [if_neg (by simp), if_neg (by simp), if_pos (by simp at ha; omega)]
    rfl
  | p :: rest, pre, acc, k, hs, hk, hn, ha => by
    obtain ⟨k, rfl⟩ : ∃ m, k = m + 2 := ⟨k - 2, by simp at hk; omega⟩
    simp only [List.length_append, List.length_cons] at hk hn ha
    have hh := srt_head hs
    have ih := fun acc' h => Put_l0 a v rest (pre ++ [p]) acc' k (srt_tail hs) (by omega) (by simp; omega) h
    have idn := fun acc' h => Put_l0_done a v rest (pre ++ [p]) acc' k (by omega) (by simp; omega) h
    simp only [boscagelaw02_Put.l0]
    rw [if_pos (by simp; omega), if_pos (by omega), if_pos (by simp; omega), if_neg (by simp), rd_mid]
    simp only [boscagelaw02_Put.j1]
    rw [wrap_succ _ (by omega)]
    have e1 : ((pre.length + 1 : Nat) : Int) = ((pre ++ [p]).length : Int) := by simp
    have e2 : pre ++ p :: rest = (pre ++ [p]) ++ rest := by simp
    rw [e1, e2]
    by_cases h : p.f0 ≥ a
    · rw [if_pos (by simpa using h), if_pos (by omega)]
      simp only [Option.bind_some]
      have ef : rest.filter (fun q => decide (q.f0 ≠ a)) = hi rest a := by
        rw [List.filter_eq_self.2 (fun q hq => by have := hh q hq; simp; omega)]
        exact (hi_all (fun q hq => by have := hh q hq; omega)).symm
      have el : lo (p :: rest) a = [] := lo_none (fun q hq => by rcases List.mem_cons.1 hq with rfl | hq; omega; have := hh q hq; omega)
      by_cases he : p.f0 = a
      · have eh : hi (p :: rest) a = hi rest a := by unfold hi; rw [List.filter_cons_of_neg (by simp; omega)]
        rw [if_pos he, idn _ (by simp; omega), ef]
        unfold putL
        rw [el, eh]
        simp
      · have eh : hi (p :: rest) a = p :: hi rest a := by unfold hi; rw [List.filter_cons_of_pos (by simp; omega)]
        rw [if_neg he, if_pos (by simp; omega), idn _ (by simp; omega), ef, eta40]
        unfold putL
        rw [el, eh]
        simp
    · have el : lo (p :: rest) a = p :: lo rest a := by unfold lo; rw [List.filter_cons_of_pos (by simp; omega)]
      have eh : hi (p :: rest) a = hi rest a := by unfold hi; rw [List.filter_cons_of_neg (by simp; omega)]
      rw [if_neg (by simpa using h), if_neg (by omega), if_pos (by omega), ih _ (by simp; omega), eta40]
      unfold putL
      rw [el, eh]
      simp
theorem Put_f {l : List S40} (hs : srt l) (a v : Int) (k : Nat) (hl : l.length < 1000) (hk : 2000 ≤ k) : boscagelaw02_Put.f k l a v = some (putL l a v) := by
  have := Put_l0 a v l [] [] k hs (by omega) (by simp; omega) (by simp; omega)
  simpa [boscagelaw02_Put.f] using this
theorem putL_length {l : List S40} (hs : srt l) (a v : Int) : (putL l a v).length ≤ l.length + 1 := by
  have h1 : (lo l a).length + (hi l a).length ≤ l.length := by
    rcases (view hs a).2 with ⟨_, w, hv⟩ | ⟨_, hv⟩
    · have := congrArg List.length hv; simp at this; omega
    · have := congrArg List.length hv; simp at this; omega
  unfold putL
  simp
  omega

/-- The pairs of some keys, each put in with its place and 100. -/
def risingL (raw : List Int) (i : Int) (acc : List S40) : List S40 := match raw with
  | [] => acc
  | a :: r => risingL r (i + 1) (putL acc a (i + 100))
theorem srt_rising : ∀ (raw : List Int) (i : Int) (acc : List S40), srt acc → srt (risingL raw i acc)
  | [], _, _, h => h
  | a :: r, i, acc, h => srt_rising r (i + 1) _ (srt_put h a _)
theorem rising_length : ∀ (raw : List Int) (i : Int) (acc : List S40), srt acc → (risingL raw i acc).length ≤ acc.length + raw.length
  | [], _, _, _ => by simp [risingL]
  | a :: r, i, acc, h => by
    have h1 := rising_length r (i + 1) (putL acc a (i + 100)) (srt_put h a _)
    have h2 := putL_length h a (i + 100)
    simp only [risingL, List.length_cons]
    omega
theorem Rising_l0 : ∀ (rest pre : List Int) (acc : List S40) (k : Nat), srt acc → rest.length + 3000 < k → (pre ++ rest).length < 900 → acc.length + rest.length < 1000 →
    boscagelaw02_Rising.l0 k acc (pre ++ rest) ((pre ++ rest).length : Int) (pre.length : Int) = some (risingL rest (pre.length : Int) acc)
  | [], pre, acc, k, hs, hk, hn, ha => by
    obtain ⟨k, rfl⟩ : ∃ m, k = m + 1 := ⟨k - 1, by omega⟩
    simp only [boscagelaw02_Rising.l0]
    rw [if_neg (by simp)]
    rfl
  | p :: rest, pre, acc, k, hs, hk, hn, ha => by
    obtain ⟨k, rfl⟩ : ∃ m, k = m + 1 := ⟨k - 1, by omega⟩
    simp only [List.length_append, List.length_cons] at hk hn ha
    simp only [boscagelaw02_Rising.l0]
    rw [if_pos (by simp; omega), if_pos (by omega), if_pos (by simp; omega), rdi_mid, wrap_in _ (by omega) (by omega), Put_f hs _ _ k (by omega) (by omega)]
    simp only [Option.bind_some]
    rw [wrap_succ _ (by omega)]
    have e1 : ((pre.length + 1 : Nat) : Int) = ((pre ++ [p]).length : Int) := by simp
    have e2 : pre ++ p :: rest = (pre ++ [p]) ++ rest := by simp
    have := putL_length hs p ((pre.length : Int) + 100)
    rw [e1, e2, Rising_l0 rest (pre ++ [p]) _ k (srt_put hs _ _) (by omega) (by simp; omega) (by omega)]
    simp [risingL]
/-- The pairs of some keys. -/
def rise (raw : List Int) : List S40 := risingL raw 0 []
theorem srt_rise (raw : List Int) : srt (rise raw) := srt_rising raw 0 [] List.Pairwise.nil
theorem rise_length (raw : List Int) : (rise raw).length ≤ raw.length := by
  have := rising_length raw 0 [] List.Pairwise.nil
  simpa [rise] using this
theorem Rising_f (raw : List Int) (k : Nat) (hl : raw.length < 900) (hk : 5000 ≤ k) : boscagelaw02_Rising.f k raw = some (rise raw) := by
  have := Rising_l0 raw [] [] k List.Pairwise.nil (by omega) (by simpa using hl) (by simp; omega)
  simpa [boscagelaw02_Rising.f, rise] using this
end Go.Proofs.Ytkoiffkonjpoiaa.Y
