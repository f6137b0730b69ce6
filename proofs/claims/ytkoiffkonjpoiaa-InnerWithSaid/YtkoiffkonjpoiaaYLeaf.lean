/- Plain lemmas on lists of pairs whose keys rise, and what the leaf's functions come to as plain Lean functions. No memory in it. -/
import Derived.Test.YtkoiffkonjpoiaaQA2
import Derived.Test.YtkoiffkonjpoiaaQA3
import Derived.Test.YtkoiffkonjpoiaaQA4
namespace Go.Proofs.Ytkoiffkonjpoiaa.Y
open Go.RowKit Go.Proofs.Ytkoiffkonjpoiaa.Q Go.Proofs.YtkoiffkonjpoiaaW.PrintWords
set_option linter.unusedVariables false
set_option linter.unusedSimpArgs false

/-! ### indices -/
theorem wrap_succ (n : Nat) (h : n < 9223372036854775807) : wrap64 ((n : Int) + 1) = ((n + 1 : Nat) : Int) := by unfold wrap64; omega
theorem wrap_nat (n : Nat) (h : n ≤ 9223372036854775807) : wrap64 (n : Int) = (n : Int) := by unfold wrap64; omega
theorem wrap_in (x : Int) (h0 : -9223372036854775808 ≤ x) (h1 : x ≤ 9223372036854775807) : wrap64 x = x := by unfold wrap64; omega
theorem rd_mid (A B : List S40) (p : S40) : rd_T40 (A ++ p :: B) (A.length : Int) = p := by
  simp [rd_T40]
theorem rdi_mid (A B : List Int) (p : Int) : rd (A ++ p :: B) (A.length : Int) = p := by
  simp [rd]
theorem eta40 (p : S40) : (⟨p.f0, p.f1⟩ : S40) = p := rfl

theorem eq40 (a b : S40) : a = b ↔ a.f0 = b.f0 ∧ a.f1 = b.f1 := by
  obtain ⟨a0, a1⟩ := a
  obtain ⟨b0, b1⟩ := b
  simp
instance : DecidableEq S40 := fun a b => decidable_of_iff (a.f0 = b.f0 ∧ a.f1 = b.f1) (eq40 a b).symm

/-! ### lists whose keys rise -/
def lo (l : List S40) (k : Int) : List S40 := l.filter (fun p => decide (p.f0 < k))
def hi (l : List S40) (k : Int) : List S40 := l.filter (fun p => decide (k < p.f0))
def putL (l : List S40) (k v : Int) : List S40 := lo l k ++ ⟨k, v⟩ :: hi l k
def cutL (l : List S40) (k : Int) : List S40 := lo l k ++ hi l k
theorem mem_lo {l : List S40} {k : Int} {p : S40} (h : p ∈ lo l k) : p ∈ l ∧ p.f0 < k := by simpa [lo] using h
theorem mem_hi {l : List S40} {k : Int} {p : S40} (h : p ∈ hi l k) : p ∈ l ∧ k < p.f0 := by simpa [hi] using h
theorem srt_tail {p : S40} {l : List S40} (h : srt (p :: l)) : srt l := (List.pairwise_cons.1 h).2
theorem srt_head {p : S40} {l : List S40} (h : srt (p :: l)) : ∀ q ∈ l, p.f0 < q.f0 := (List.pairwise_cons.1 h).1
theorem lo_all {l : List S40} {k : Int} (h : ∀ q ∈ l, q.f0 < k) : lo l k = l := by
  unfold lo; rw [List.filter_eq_self]; intro q hq; simpa using h q hq
theorem hi_all {l : List S40} {k : Int} (h : ∀ q ∈ l, k < q.f0) : hi l k = l := by
  unfold hi; rw [List.filter_eq_self]; intro q hq; simpa using h q hq
theorem lo_none {l : List S40} {k : Int} (h : ∀ q ∈ l, k ≤ q.f0) : lo l k = [] := by
  unfold lo; rw [List.filter_eq_nil_iff]; intro q hq; have := h q hq; simp; omega
theorem hi_none {l : List S40} {k : Int} (h : ∀ q ∈ l, q.f0 ≤ k) : hi l k = [] := by
  unfold hi; rw [List.filter_eq_nil_iff]; intro q hq; have := h q hq; simp; omega
theorem lo_app (A B : List S40) (k : Int) : lo (A ++ B) k = lo A k ++ lo B k := by simp [lo]
theorem hi_app (A B : List S40) (k : Int) : hi (A ++ B) k = hi A k ++ hi B k := by simp [hi]
theorem srt_put {l : List S40} (h : srt l) (k v : Int) : srt (putL l k v) := by
  unfold putL srt
  rw [List.pairwise_append]
  refine ⟨h.sublist List.filter_sublist, ?_, ?_⟩
  · rw [List.pairwise_cons]
    exact ⟨fun q hq => (mem_hi hq).2, h.sublist List.filter_sublist⟩
  · intro p hp q hq
    have h1 := (mem_lo hp).2
    rcases List.mem_cons.1 hq with rfl | hq
    · exact h1
    · have h2 := (mem_hi hq).2
      omega
theorem srt_cut {l : List S40} (h : srt l) (k : Int) : srt (cutL l k) := by
  unfold cutL srt
  rw [List.pairwise_append]
  refine ⟨h.sublist List.filter_sublist, h.sublist List.filter_sublist, ?_⟩
  intro p hp q hq
  have h1 := (mem_lo hp).2
  have h2 := (mem_hi hq).2
  omega
/-- A list whose keys rise, seen from a key. -/
theorem view {l : List S40} (hs : srt l) (k : Int) : kcnt l k = (lo l k).length ∧ ((khas l k = true ∧ ∃ v, l = lo l k ++ ⟨k, v⟩ :: hi l k) ∨ (khas l k = false ∧ l = lo l k ++ hi l k)) := by
  refine ⟨by unfold kcnt lo; rw [List.countP_eq_length_filter], ?_⟩
  induction l with
  | nil => exact .inr ⟨rfl, rfl⟩
  | cons p l ih =>
    have hh := srt_head hs
    rcases Int.lt_trichotomy p.f0 k with h1 | h1 | h1
    · have e1 : lo (p :: l) k = p :: lo l k := by unfold lo; rw [List.filter_cons_of_pos (by simpa using h1)]
      have e2 : hi (p :: l) k = hi l k := by unfold hi; rw [List.filter_cons_of_neg (by simp; omega)]
      have e3 : khas (p :: l) k = khas l k := by
        unfold khas
        rw [List.any_cons, decide_eq_false (by omega), Bool.false_or]
      rw [e1, e2, e3]
      rcases ih (srt_tail hs) with ⟨ha, v, hv⟩ | ⟨ha, hv⟩
      · exact .inl ⟨ha, v, by rw [List.cons_append, ← hv]⟩
      · exact .inr ⟨ha, by rw [List.cons_append, ← hv]⟩
    · have e1 : lo (p :: l) k = [] := lo_none (fun q hq => by rcases List.mem_cons.1 hq with rfl | hq; omega; have := hh q hq; omega)
      have e2 : hi (p :: l) k = l := by
        unfold hi
        rw [List.filter_cons_of_neg (by simp; omega)]
        exact hi_all (fun q hq => by have := hh q hq; omega)
      rw [e1, e2]
      refine .inl ⟨by unfold khas; rw [List.any_cons, decide_eq_true h1, Bool.true_or], p.f1, ?_⟩
      rw [List.nil_append, ← h1]
    · have e1 : lo (p :: l) k = [] := lo_none (fun q hq => by rcases List.mem_cons.1 hq with rfl | hq; omega; have := hh q hq; omega)
      have e2 : hi (p :: l) k = p :: l := hi_all (fun q hq => by rcases List.mem_cons.1 hq with rfl | hq; omega; have := hh q hq; omega)
      rw [e1, e2]
      refine .inr ⟨?_, rfl⟩
      rw [Bool.eq_false_iff]
      intro hc
      unfold khas at hc
      rw [List.any_eq_true] at hc
      obtain ⟨q, hq, he⟩ := hc
      have he : q.f0 = k := by simpa using he
      rcases List.mem_cons.1 hq with rfl | hq
      · omega
      · have := hh q hq; omega

/-! ### the statement's own functions -/
theorem Put_l0_done (a v : Int) : ∀ (rest pre acc : List S40) (k : Nat), 2 * rest.length < k → (pre ++ rest).length < 1000000 → acc.length + rest.length < 2000000 →
    boscagelaw02_Put.l0 k a v acc true (pre ++ rest) ((pre ++ rest).length : Int) (pre.length : Int) = some (acc ++ rest.filter (fun p => decide (p.f0 ≠ a)))
  | [], pre, acc, k, hk, hn, ha => by
    obtain ⟨k, rfl⟩ : ∃ m, k = m + 1 := ⟨k - 1, by omega⟩
    simp only [boscagelaw02_Put.l0]
    rw [if_neg (by simp), if_pos trivial]
    simp
  | p :: rest, pre, acc, k, hk, hn, ha => by
    obtain ⟨k, rfl⟩ : ∃ m, k = m + 2 := ⟨k - 2, by simp at hk; omega⟩
    simp only [List.length_append, List.length_cons] at hk hn ha
    have ih := fun acc' h => Put_l0_done a v rest (pre ++ [p]) acc' k (by omega) (by simp; omega) h
    simp only [boscagelaw02_Put.l0]
    rw [if_pos (by simp; omega), if_pos (by omega), if_pos (by simp; omega), if_pos trivial, rd_mid]
    simp only [boscagelaw02_Put.j1]
    rw [if_neg (by simp), wrap_succ _ (by omega)]
    have e1 : ((pre.length + 1 : Nat) : Int) = ((pre ++ [p]).length : Int) := by simp
    have e2 : pre ++ p :: rest = (pre ++ [p]) ++ rest := by simp
    rw [e1, e2]
    by_cases h : p.f0 = a
    · rw [if_pos h, ih acc (by omega), List.filter_cons_of_neg (by simpa using h)]
    · rw [if_neg h, if_pos (by omega), ih _ (by simp; omega), List.filter_cons_of_pos (by simpa using h), eta40]
      simp
theorem Put_l0 (a v : Int) : ∀ (rest pre acc : List S40) (k : Nat), srt rest → 2 * rest.length < k → (pre ++ rest).length < 1000000 → acc.length + rest.length < 1000000 →
    boscagelaw02_Put.l0 k a v acc false (pre ++ rest) ((pre ++ rest).length : Int) (pre.length : Int) = some (acc ++ putL rest a v)
  | [], pre, acc, k, hs, hk, hn, ha => by
    obtain ⟨k, rfl⟩ : ∃ m, k = m + 1 := ⟨k - 1, by omega⟩
    simp only [boscagelaw02_Put.l0]
    rw [if_neg (by simp), if_neg (by simp), if_pos (by simp at ha; omega)]
    rfl
  | p :: rest, pre, acc, k, hs, hk, hn, ha => by
    obtain ⟨k, rfl⟩ : ∃ m, k = m + 2 := ⟨k - 2, by simp at hk; omega⟩
    simp only [List.length_append, List.length_cons] at hk hn ha
    have hh := srt_head hs
    have ih := fun acc' h => Put_l0 a v rest (pre ++ [p]) acc' k (srt_tail hs) (by omega) (by simp; omega) h
    have idn := fun acc' h => Put_l0_done a v rest (pre ++ [p]) acc' k (by omega) (by simp; omega) h
    simp only [boscagelaw02_Put.l0]
    rw [if_pos (by simp; omega), if_pos (by omega), if_pos (by simp; omega), if_neg (by simp), rd_mid]
    simp only [boscagelaw02_Put.j1]
    rw [wrap_succ _ (by omega)]
    have e1 : ((pre.length + 1 : Nat) : Int) = ((pre ++ [p]).length : Int) := by simp
    have e2 : pre ++ p :: rest = (pre ++ [p]) ++ rest := by simp
    rw [e1, e2]
    by_cases h : p.f0 ≥ a
    · rw [if_pos (by simpa using h), if_pos (by omega)]
      simp only [Option.bind_some]
      have ef : rest.filter (fun q => decide (q.f0 ≠ a)) = hi rest a := by
        rw [List.filter_eq_self.2 (fun q hq => by have := hh q hq; simp; omega)]
        exact (hi_all (fun q hq => by have := hh q hq; omega)).symm
      have el : lo (p :: rest) a = [] := lo_none (fun q hq => by rcases List.mem_cons.1 hq with rfl | hq; omega; have := hh q hq; omega)
      by_cases he : p.f0 = a
      · have eh : hi (p :: rest) a = hi rest a := by unfold hi; rw [List.filter_cons_of_neg (by simp; omega)]
        rw [if_pos he, idn _ (by simp; omega), ef]
        unfold putL
        rw [el, eh]
        simp
      · have eh : hi (p :: rest) a = p :: hi rest a := by unfold hi; rw [List.filter_cons_of_pos (by simp; omega)]
        rw [if_neg he, if_pos (by simp; omega), idn _ (by simp; omega), ef, eta40]
        unfold putL
        rw [el, eh]
        simp
    · have el : lo (p :: rest) a = p :: lo rest a := by unfold lo; rw [List.filter_cons_of_pos (by simp; omega)]
      have eh : hi (p :: rest) a = hi rest a := by unfold hi; rw [List.filter_cons_of_neg (by simp; omega)]
      rw [if_neg (by simpa using h), if_neg (by omega), if_pos (by omega), ih _ (by simp; omega), eta40]
      unfold putL
      rw [el, eh]
      simp
theorem Put_f {l : List S40} (hs : srt l) (a v : Int) (k : Nat) (hl : l.length < 1000) (hk : 2000 ≤ k) : boscagelaw02_Put.f k l a v = some (putL l a v) := by
  have := Put_l0 a v l [] [] k hs (by omega) (by simp; omega) (by simp; omega)
  simpa [boscagelaw02_Put.f] using this
theorem putL_length {l : List S40} (hs : srt l) (a v : Int) : (putL l a v).length ≤ l.length + 1 := by
  have h1 : (lo l a).length + (hi l a).length ≤ l.length := by
    rcases (view hs a).2 with ⟨_, w, hv⟩ | ⟨_, hv⟩
    · have := congrArg List.length hv; simp at this; omega
    · have := congrArg List.length hv; simp at this; omega
  unfold putL
  simp
  omega

/-- The pairs of some keys, each put in with its place and 100. -/
def risingL (raw : List Int) (i : Int) (acc : List S40) : List S40 := match raw with
  | [] => acc
  | a :: r => risingL r (i + 1) (putL acc a (i + 100))
theorem srt_rising : ∀ (raw : List Int) (i : Int) (acc : List S40), srt acc → srt (risingL raw i acc)
  | [], _, _, h => h
  | a :: r, i, acc, h => srt_rising r (i + 1) _ (srt_put h a _)
theorem rising_length : ∀ (raw : List Int) (i : Int) (acc : List S40), srt acc → (risingL raw i acc).length ≤ acc.length + raw.length
  | [], _, _, _ => by simp [risingL]
  | a :: r, i, acc, h => by
    have h1 := rising_length r (i + 1) (putL acc a (i + 100)) (srt_put h a _)
    have h2 := putL_length h a (i + 100)
    simp only [risingL, List.length_cons]
    omega
theorem Rising_l0 : ∀ (rest pre : List Int) (acc : List S40) (k : Nat), srt acc → rest.length + 3000 < k → (pre ++ rest).length < 900 → acc.length + rest.length < 1000 →
    boscagelaw02_Rising.l0 k acc (pre ++ rest) ((pre ++ rest).length : Int) (pre.length : Int) = some (risingL rest (pre.length : Int) acc)
  | [], pre, acc, k, hs, hk, hn, ha => by
    obtain ⟨k, rfl⟩ : ∃ m, k = m + 1 := ⟨k - 1, by omega⟩
    simp only [boscagelaw02_Rising.l0]
    rw [if_neg (by simp)]
    rfl
  | p :: rest, pre, acc, k, hs, hk, hn, ha => by
    obtain ⟨k, rfl⟩ : ∃ m, k = m + 1 := ⟨k - 1, by omega⟩
    simp only [List.length_append, List.length_cons] at hk hn ha
    simp only [boscagelaw02_Rising.l0]
    rw [if_pos (by simp; omega), if_pos (by omega), if_pos (by simp; omega), rdi_mid, wrap_in _ (by omega) (by omega), Put_f hs _ _ k (by omega) (by omega)]
    simp only [Option.bind_some]
    rw [wrap_succ _ (by omega)]
    have e1 : ((pre.length + 1 : Nat) : Int) = ((pre ++ [p]).length : Int) := by simp
    have e2 : pre ++ p :: rest = (pre ++ [p]) ++ rest := by simp
    have := putL_length hs p ((pre.length : Int) + 100)
    rw [e1, e2, Rising_l0 rest (pre ++ [p]) _ k (srt_put hs _ _) (by omega) (by simp; omega) (by omega)]
    simp [risingL]
/-- The pairs of some keys. -/
def rise (raw : List Int) : List S40 := risingL raw 0 []
theorem srt_rise (raw : List Int) : srt (rise raw) := srt_rising raw 0 [] List.Pairwise.nil
theorem rise_length (raw : List Int) : (rise raw).length ≤ raw.length := by
  have := rising_length raw 0 [] List.Pairwise.nil
  simpa [rise] using this
theorem Rising_f (raw : List Int) (k : Nat) (hl : raw.length < 900) (hk : 5000 ≤ k) : boscagelaw02_Rising.f k raw = some (rise raw) := by
  have := Rising_l0 raw [] [] k List.Pairwise.nil (by omega) (by simpa using hl) (by simp; omega)
  simpa [boscagelaw02_Rising.f, rise] using this

/-- Where a key is; -1: nowhere. -/
def findI (l : List S40) (k : Int) (i : Int) : Int := match l with
  | [] => -1
  | p :: r => if p.f0 = k then i else findI r k (i + 1)
theorem Find_l0 (x : Int) : ∀ (rest pre : List S40) (k : Nat), rest.length < k → (pre ++ rest).length < 1000000 →
    boscagelaw02_Find.l0 k x (pre ++ rest) ((pre ++ rest).length : Int) (pre.length : Int) = some (findI rest x (pre.length : Int))
  | [], pre, k, hk, hn => by
    obtain ⟨k, rfl⟩ : ∃ m, k = m + 1 := ⟨k - 1, by omega⟩
    simp only [boscagelaw02_Find.l0]
    rw [if_neg (by simp)]
    rfl
  | p :: rest, pre, k, hk, hn => by
    obtain ⟨k, rfl⟩ : ∃ m, k = m + 1 := ⟨k - 1, by omega⟩
    simp only [List.length_append, List.length_cons] at hk hn
    simp only [boscagelaw02_Find.l0]
    rw [if_pos (by simp; omega), if_pos (by omega), if_pos (by simp; omega), rd_mid]
    simp only [findI]
    by_cases h : p.f0 = x
    · rw [if_pos h, if_pos h]
    · rw [if_neg h, if_neg h, wrap_succ _ (by omega)]
      have e1 : ((pre.length + 1 : Nat) : Int) = ((pre ++ [p]).length : Int) := by simp
      have e2 : pre ++ p :: rest = (pre ++ [p]) ++ rest := by simp
      rw [e1, e2, Find_l0 x rest (pre ++ [p]) k (by omega) (by simp; omega)]
      simp
theorem Find_f (l : List S40) (x : Int) (k : Nat) (hl : l.length < 1000) (hk : 1000 ≤ k) : boscagelaw02_Find.f k l x = some (findI l x 0) := by
  have := Find_l0 x l [] k (by omega) (by simp; omega)
  simpa [boscagelaw02_Find.f] using this
theorem findI_app (A B : List S40) (k i : Int) (h : ∀ p ∈ A, p.f0 ≠ k) : findI (A ++ B) k i = findI B k (i + A.length) := by
  induction A generalizing i with
  | nil => simp
  | cons p A ih =>
    rw [List.cons_append]
    simp only [findI]
    rw [if_neg (h p List.mem_cons_self), ih _ (fun q hq => h q (List.mem_cons_of_mem _ hq)), List.length_cons]
    congr 1
    omega
theorem findI_none (B : List S40) (k i : Int) (h : ∀ p ∈ B, p.f0 ≠ k) : findI B k i = -1 := by
  have := findI_app B [] k i h
  rw [List.append_nil] at this
  exact this
theorem findI_srt {l : List S40} (hs : srt l) (k : Int) : findI l k 0 = if khas l k = true then (kcnt l k : Int) else -1 := by
  obtain ⟨hc, ⟨hk, v, hv⟩ | ⟨hk, hv⟩⟩ := view hs k
  · rw [if_pos hk, hc, hv]
    rw [findI_app _ _ _ _ (fun p hp => by have := (mem_lo hp).2; omega)]
    simp only [findI]
    have e : lo l k ++ ⟨k, v⟩ :: hi l k = l := hv.symm
    rw [e, if_pos trivial]
    omega
  · rw [if_neg (by rw [hk]; simp), hv]
    refine findI_none _ _ _ (fun p hp => ?_)
    rcases List.mem_append.1 hp with hp | hp
    · have := (mem_lo hp).2; omega
    · have := (mem_hi hp).2; omega

theorem Same_l0 : ∀ (r1 r2 p1 p2 : List S40) (k : Nat), r1.length < k → p1.length = p2.length → r1.length = r2.length → (p1 ++ r1).length < 1000000 →
    boscagelaw02_Same.l0 k (p1 ++ r1) (p2 ++ r2) ((p1 ++ r1).length : Int) (p1.length : Int) = some (decide (r1 = r2))
  | [], [], p1, p2, k, hk, hp, hr, hn => by
    obtain ⟨k, rfl⟩ : ∃ m, k = m + 1 := ⟨k - 1, by omega⟩
    simp only [boscagelaw02_Same.l0]
    rw [if_neg (by simp)]
    simp
  | [], _ :: _, _, _, _, _, _, hr, _ => by simp at hr
  | _ :: _, [], _, _, _, _, _, hr, _ => by simp at hr
  | a :: r1, b :: r2, p1, p2, k, hk, hp, hr, hn => by
    obtain ⟨k, rfl⟩ : ∃ m, k = m + 1 := ⟨k - 1, by omega⟩
    simp only [List.length_append, List.length_cons] at hk hn hr
    simp only [boscagelaw02_Same.l0]
    rw [if_pos (by simp; omega), if_pos (by omega), if_pos (by simp; omega), if_pos (by simp; omega), rd_mid, hp, rd_mid]
    by_cases h : a = b
    · subst h
      rw [if_neg (by simp), wrap_succ _ (by omega)]
      have e1 : ((p2.length + 1 : Nat) : Int) = ((p1 ++ [a]).length : Int) := by simp [hp]
      have e2 : p1 ++ a :: r1 = (p1 ++ [a]) ++ r1 := by simp
      have e3 : p2 ++ a :: r2 = (p2 ++ [a]) ++ r2 := by simp
      rw [e1, e2, e3, Same_l0 r1 r2 (p1 ++ [a]) (p2 ++ [a]) k (by omega) (by simp [hp]) (by omega) (by simp; omega)]
      simp
    · rw [if_pos]
      · simp [h]
      · have hne : a.f0 ≠ b.f0 ∨ a.f1 ≠ b.f1 := by
          rw [eq40] at h
          rcases Decidable.em (a.f0 = b.f0) with h1 | h1
          · exact .inr (fun h2 => h ⟨h1, h2⟩)
          · exact .inl h1
        rcases hne with h1 | h1 <;> simp [h1]
theorem Same_f (l o : List S40) (k : Nat) (hl : l.length < 1000) (hk : 1000 ≤ k) : boscagelaw02_Same.f k l o = some (decide (l = o)) := by
  unfold boscagelaw02_Same.f
  by_cases h : l.length = o.length
  · rw [if_pos (by omega)]
    have := Same_l0 l o [] [] k (by omega) rfl h (by simp; omega)
    simpa using this
  · rw [if_neg (by omega)]
    have : l ≠ o := fun e => h (by rw [e])
    simp [this]
theorem Equal_l0 : ∀ (r1 r2 p1 p2 : List S40) (k : Nat), r1.length < k → p1.length = p2.length → r1.length = r2.length → (p1 ++ r1).length < 1000000 →
    leaf_Pair_115.l0 k (p1 ++ r1) (p2 ++ r2) ((p1 ++ r1).length : Int) (p1.length : Int) = some (decide (r1 = r2))
  | [], [], p1, p2, k, hk, hp, hr, hn => by
    obtain ⟨k, rfl⟩ : ∃ m, k = m + 1 := ⟨k - 1, by omega⟩
    simp only [leaf_Pair_115.l0]
    rw [if_neg (by simp)]
    simp
  | [], _ :: _, _, _, _, _, _, hr, _ => by simp at hr
  | _ :: _, [], _, _, _, _, _, hr, _ => by simp at hr
  | a :: r1, b :: r2, p1, p2, k, hk, hp, hr, hn => by
    obtain ⟨k, rfl⟩ : ∃ m, k = m + 1 := ⟨k - 1, by omega⟩
    simp only [List.length_append, List.length_cons] at hk hn hr
    simp only [leaf_Pair_115.l0]
    rw [if_pos (by simp; omega), if_pos (by omega), if_pos (by simp; omega), if_pos (by simp; omega), rd_mid, hp, rd_mid]
    by_cases h : a = b
    · subst h
      rw [if_neg (by simp), wrap_succ _ (by omega)]
      have e1 : ((p2.length + 1 : Nat) : Int) = ((p1 ++ [a]).length : Int) := by simp [hp]
      have e2 : p1 ++ a :: r1 = (p1 ++ [a]) ++ r1 := by simp
      have e3 : p2 ++ a :: r2 = (p2 ++ [a]) ++ r2 := by simp
      rw [e1, e2, e3, Equal_l0 r1 r2 (p1 ++ [a]) (p2 ++ [a]) k (by omega) (by simp [hp]) (by omega) (by simp; omega)]
      simp
    · rw [if_pos]
      · simp [h]
      · have hne : a.f0 ≠ b.f0 ∨ a.f1 ≠ b.f1 := by
          rw [eq40] at h
          rcases Decidable.em (a.f0 = b.f0) with h1 | h1
          · exact .inr (fun h2 => h ⟨h1, h2⟩)
          · exact .inl h1
        rcases hne with h1 | h1 <;> simp [h1]
theorem Equal_f (l o : List S40) (k : Nat) (hl : l.length < 1000) (hk : 1000 ≤ k) : leaf_Pair_115.f k l o = some (decide (l = o)) := by
  unfold leaf_Pair_115.f
  by_cases h : l.length = o.length
  · rw [if_pos (by omega)]
    have := Equal_l0 l o [] [] k (by omega) rfl h (by simp; omega)
    simpa using this
  · rw [if_neg (by omega)]
    have : l ≠ o := fun e => h (by rw [e])
    simp [this]

/-! ### the leaf's own functions -/
theorem find_f {l : List S40} (hs : srt l) (hl : l.length < 1000) (k : Int) : leaf_Leaf_find.f l k = some ((kcnt l k : Int), khas l k) := by
  unfold leaf_Leaf_find.f; rw [if_pos ⟨hs, by omega⟩]
theorem clone_f (l : List S40) (hl : l.length < 1000000) : leaf_Pair_99.f l = some l := by
  unfold leaf_Pair_99.f; rw [if_pos (by omega)]
/-- A key's value. -/
def valL (l : List S40) (k : Int) : Int := if khas l k = true then (rd_T40 l (kcnt l k : Int)).f1 else 0
theorem Get_f {l : List S40} (hs : srt l) (hl : l.length < 1000) (k : Int) : leaf_Leaf_Get.f l k = some (valL l k, khas l k) := by
  unfold leaf_Leaf_Get.f valL
  rw [find_f hs hl]
  simp only [Option.bind_some]
  obtain ⟨hc, ⟨hk, v, hv⟩ | ⟨hk, hv⟩⟩ := view hs k
  · have hlt : kcnt l k < l.length := by
      have := congrArg List.length hv; simp at this; omega
    rw [hk]
    simp only [if_true]
    rw [if_pos (by omega), if_pos (by omega)]
  · rw [hk]; simp
theorem put_same {l : List S40} (hs : srt l) (k v : Int) (w : Int) (hv : l = lo l k ++ ⟨k, w⟩ :: hi l k) : l.set (kcnt l k) ⟨k, v⟩ = putL l k v := by
  have hc := (view hs k).1
  rw [hc]
  unfold putL
  conv => lhs; rw [hv]
  have e : (lo (lo l k ++ ⟨k, w⟩ :: hi l k) k) = lo l k := by rw [← hv]
  rw [e]
  simp
theorem LPut_f {l : List S40} (hs : srt l) (hl : l.length < 1000) (k v : Int) : leaf_Leaf_Put.f l k v = some (putL l k v, valL l k, khas l k) := by
  unfold leaf_Leaf_Put.f valL
  rw [find_f hs hl, clone_f l (by omega)]
  simp only [Option.bind_some]
  obtain ⟨hc, ⟨hk, w, hv⟩ | ⟨hk, hv⟩⟩ := view hs k
  · have hlt : kcnt l k < l.length := by
      have := congrArg List.length hv; simp at this; omega
    rw [hk]
    simp only [if_true]
    rw [if_pos (by omega), if_pos (by omega), if_pos (by omega)]
    have e : rd_T40 l (kcnt l k : Int) = ⟨k, w⟩ := by
      rw [hc]; conv => lhs; arg 1; rw [hv]
      exact rd_mid _ _ _
    rw [e, Int.toNat_natCast, put_same hs k v w hv]
  · rw [hk]
    rw [if_neg (by simp)]
    unfold leaf_Pair_109.f
    have hle := kcnt_le l k
    rw [if_pos ⟨by omega, by omega, by simp; omega⟩]
    simp only [Option.bind_some, Int.toNat_natCast]
    have e1 : l.take (kcnt l k) = lo l k := by
      rw [hc]; conv => lhs; rw [hv]
      have e : (lo (lo l k ++ hi l k) k) = lo l k := by rw [← hv]
      rw [e]
      exact List.take_left
    have e2 : l.drop (kcnt l k) = hi l k := by
      rw [hc]; conv => lhs; rw [hv]
      have e : (lo (lo l k ++ hi l k) k) = lo l k := by rw [← hv]
      rw [e]
      exact List.drop_left
    rw [e1, e2]
    simp [putL]
theorem LCut_f {l : List S40} (hs : srt l) (hl : l.length < 1000) (k : Int) : leaf_Leaf_Cut.f l k = some (cutL l k, valL l k, khas l k) := by
  unfold leaf_Leaf_Cut.f valL
  rw [find_f hs hl, clone_f l (by omega)]
  simp only [Option.bind_some]
  obtain ⟨hc, ⟨hk, w, hv⟩ | ⟨hk, hv⟩⟩ := view hs k
  · have hlt : kcnt l k < l.length := by
      have := congrArg List.length hv; simp at this; omega
    rw [hk]
    simp only [if_true]
    rw [wrap_succ _ (by omega)]
    unfold leaf_Pair_108.f
    rw [if_pos ⟨by omega, by omega, by omega⟩]
    simp only [Option.bind_some, Int.toNat_natCast]
    rw [if_pos (by omega), if_pos (by omega)]
    have e1 : l.take (kcnt l k) = lo l k := by
      rw [hc]; conv => lhs; rw [hv]
      have e : (lo (lo l k ++ ⟨k, w⟩ :: hi l k) k) = lo l k := by rw [← hv]
      rw [e]
      exact List.take_left
    have e2 : l.drop (kcnt l k + 1) = hi l k := by
      rw [hc]; conv => lhs; rw [hv]
      have e : (lo (lo l k ++ ⟨k, w⟩ :: hi l k) k) = lo l k := by rw [← hv]
      rw [e, ← List.drop_drop, List.drop_left]
      rfl
    rw [e1, e2]
    rfl
  · rw [hk]
    rw [if_neg (by simp)]
    have e : cutL l k = l := hv.symm
    rw [e]
    simp
theorem Cut_l0 (a : Int) : ∀ (rest pre acc : List S40) (k : Nat), rest.length < k → (pre ++ rest).length < 1000000 → acc.length + rest.length < 1000000 →
    boscagelaw02_Cut.l0 k a acc (pre ++ rest) ((pre ++ rest).length : Int) (pre.length : Int) = some (acc ++ rest.filter (fun p => decide (p.f0 ≠ a)))
  | [], pre, acc, k, hk, hn, ha => by
    obtain ⟨k, rfl⟩ : ∃ m, k = m + 1 := ⟨k - 1, by omega⟩
    simp only [boscagelaw02_Cut.l0]
    rw [if_neg (by simp)]
    simp
  | p :: rest, pre, acc, k, hk, hn, ha => by
    obtain ⟨k, rfl⟩ : ∃ m, k = m + 1 := ⟨k - 1, by omega⟩
    simp only [List.length_append, List.length_cons] at hk hn ha
    have ih := fun acc' h => Cut_l0 a rest (pre ++ [p]) acc' k (by omega) (by simp; omega) h
    simp only [boscagelaw02_Cut.l0]
    rw [if_pos (by simp; omega), if_pos (by omega), if_pos (by simp; omega), rd_mid, wrap_succ _ (by omega)]
    have e1 : ((pre.length + 1 : Nat) : Int) = ((pre ++ [p]).length : Int) := by simp
    have e2 : pre ++ p :: rest = (pre ++ [p]) ++ rest := by simp
    rw [e1, e2]
    by_cases h : p.f0 = a
    · rw [if_pos h, ih acc (by omega), List.filter_cons_of_neg (by simpa using h)]
    · rw [if_neg h, if_pos (by omega), ih _ (by simp; omega), List.filter_cons_of_pos (by simpa using h), eta40]
      simp
theorem filter_ne {l : List S40} (hs : srt l) (k : Int) : l.filter (fun p => decide (p.f0 ≠ k)) = cutL l k := by
  unfold cutL
  have h1 : (lo l k).filter (fun p => decide (p.f0 ≠ k)) = lo l k := List.filter_eq_self.2 (fun q hq => by have := (mem_lo hq).2; simp; omega)
  have h2 : (hi l k).filter (fun p => decide (p.f0 ≠ k)) = hi l k := List.filter_eq_self.2 (fun q hq => by have := (mem_hi hq).2; simp; omega)
  obtain ⟨hc, ⟨hk, v, hv⟩ | ⟨hk, hv⟩⟩ := view hs k
  · conv => lhs; rw [hv]
    rw [List.filter_append, List.filter_cons_of_neg (by simp), h1, h2]
  · conv => lhs; rw [hv]
    rw [List.filter_append, h1, h2]
theorem Cut_f {l : List S40} (hs : srt l) (a : Int) (k : Nat) (hl : l.length < 1000) (hk : 1000 ≤ k) : boscagelaw02_Cut.f k l a = some (cutL l a) := by
  have := Cut_l0 a l [] [] k (by omega) (by simp; omega) (by simp; omega)
  rw [filter_ne hs] at this
  simpa [boscagelaw02_Cut.f] using this

/-! ### halves -/
theorem half_in (n : Nat) (h : n < 1000000) : wrap64 ((n : Int) / 2) = ((n / 2 : Nat) : Int) := by unfold wrap64; omega
theorem Halves_f (l : List S40) (hl : l.length < 1000000) : leaf_Leaf_Halves.f l = some (l.take (l.length / 2), l.drop (l.length / 2), if l.length = 0 then 0 else (rd_T40 l ((l.length / 2 : Nat) : Int)).f0) := by
  unfold leaf_Leaf_Halves.f
  by_cases h : l.length = 0
  · rw [if_pos (by omega), if_pos h]
    rw [List.eq_nil_of_length_eq_zero h]
    rfl
  · rw [if_neg (by omega), if_neg h, half_in _ hl, if_pos (by omega), if_pos (by omega), Int.toNat_natCast, clone_f _ (by simp; omega), clone_f _ (by simp; omega)]
    simp only [Option.bind_some]
    rw [if_pos (by omega)]
theorem Awake02 : boscagelaw02_Awake.f = some true := by
  unfold boscagelaw02_Awake.f
  simp only [Option.bind_some]
  rw [Halves_f _ (by decide), Get_f (by decide) (by decide)]
  rfl

/-! ### put in, and cut -/
theorem lo_lo (l : List S40) (k : Int) : lo (lo l k) k = lo l k := lo_all (fun q hq => (mem_lo hq).2)
theorem hi_hi (l : List S40) (k : Int) : hi (hi l k) k = hi l k := hi_all (fun q hq => (mem_hi hq).2)
theorem lo_hi (l : List S40) (k : Int) : lo (hi l k) k = [] := lo_none (fun q hq => by have := (mem_hi hq).2; omega)
theorem hi_lo (l : List S40) (k : Int) : hi (lo l k) k = [] := hi_none (fun q hq => by have := (mem_lo hq).2; omega)
theorem lo_putL (l : List S40) (k v : Int) : lo (putL l k v) k = lo l k := by
  unfold putL
  rw [lo_app, lo_lo]
  have : lo (⟨k, v⟩ :: hi l k) k = [] := lo_none (fun q hq => by rcases List.mem_cons.1 hq with rfl | hq; exact Int.le_refl _; have := (mem_hi hq).2; omega)
  rw [this, List.append_nil]
theorem hi_putL (l : List S40) (k v : Int) : hi (putL l k v) k = hi l k := by
  unfold putL
  rw [hi_app, hi_lo, List.nil_append]
  have : hi (⟨k, v⟩ :: hi l k) k = hi (hi l k) k := by
    conv => lhs; unfold hi
    rw [List.filter_cons_of_neg (by simp)]
    rfl
  rw [this, hi_hi]
theorem lo_cutL (l : List S40) (k : Int) : lo (cutL l k) k = lo l k := by
  unfold cutL; rw [lo_app, lo_lo, lo_hi, List.append_nil]
theorem hi_cutL (l : List S40) (k : Int) : hi (cutL l k) k = hi l k := by
  unfold cutL; rw [hi_app, hi_lo, hi_hi, List.nil_append]
theorem khas_putL (l : List S40) (k v : Int) : khas (putL l k v) k = true := by
  unfold khas putL
  rw [List.any_eq_true]
  exact ⟨⟨k, v⟩, by simp, by simp⟩
theorem khas_cutL (l : List S40) (k : Int) : khas (cutL l k) k = false := by
  rw [Bool.eq_false_iff]
  intro h
  unfold khas cutL at h
  rw [List.any_eq_true] at h
  obtain ⟨q, hq, he⟩ := h
  have he : q.f0 = k := by simpa using he
  rcases List.mem_append.1 hq with hq | hq
  · have := (mem_lo hq).2; omega
  · have := (mem_hi hq).2; omega
theorem valL_of {l : List S40} (hs : srt l) (k w : Int) (hv : l = lo l k ++ ⟨k, w⟩ :: hi l k) : khas l k = true ∧ valL l k = w := by
  obtain ⟨hc, h⟩ := view hs k
  have hk : khas l k = true := by
    rw [hv]
    unfold khas
    rw [List.any_eq_true]
    exact ⟨⟨k, w⟩, by simp, by simp⟩
  refine ⟨hk, ?_⟩
  unfold valL
  rw [if_pos hk, hc]
  conv => lhs; arg 1; arg 1; rw [hv]
  rw [rd_mid]
theorem valL_putL {l : List S40} (hs : srt l) (k v : Int) : valL (putL l k v) k = v := by
  refine (valL_of (srt_put hs k v) k v ?_).2
  rw [lo_putL, hi_putL]
  rfl
theorem cut_put (l : List S40) (k v : Int) : cutL (putL l k v) k = lo l k ++ hi l k := by
  unfold cutL; rw [lo_putL, hi_putL]
theorem put_cut (l : List S40) (k v : Int) : putL (cutL l k) k v = lo l k ++ ⟨k, v⟩ :: hi l k := by
  unfold putL; rw [lo_cutL, hi_cutL]
theorem cutL_length (l : List S40) (k : Int) : (cutL l k).length ≤ 2 * l.length := by
  unfold cutL lo hi
  rw [List.length_append]
  have h1 := List.length_filter_le (fun p : S40 => decide (p.f0 < k)) l
  have h2 := List.length_filter_le (fun p : S40 => decide (k < p.f0)) l
  omega
end Go.Proofs.Ytkoiffkonjpoiaa.Y
