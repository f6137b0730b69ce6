/- Several texts of this claim in one: contracts of the program's functions, and plain lemmas about what they compute; each is stated under its own conditions. -/
import Derived.Test.YtkoiffkonjpoiaaQM4
import Derived.Test.YtkoiffkonjpoiaaQM1
import Derived.Test.YtkoiffkonjpoiaaQM2
import Derived.Test.YtkoiffkonjpoiaaQM3
set_option linter.unusedVariables false
set_option linter.unusedSimpArgs false
namespace Go.Proofs.Ytkoiffkonjpoiaa.X
open Go.RowKit Go.Proofs.YtkoiffkonjpoiaaX Go.Proofs.YtkoiffkonjpoiaaW.PrintWords Go.Proofs.YtkoiffkonjpoiaaW.PrintMore
def ok126 (x : Q.S126) : Prop := ok78 x.f0 ∧ wf8 x.f1 ∧ wf8 x.f2 ∧ wf8 x.f3
theorem rd5 : Rd Try.prog 5 (Kd.int .u8) wf8 := Rd.int Try.underlying5
theorem rd126 : Rd Try.prog 126 Q.k126 ok126 :=
  Rd.iso (fun p => ⟨p.1, p.2.1, p.2.2.1, p.2.2.2⟩) (fun _ => rfl) (Rd.struct Try.underlying126 (by kernel_rfl) (RdF.cons rfl (by kernel_rfl) rd78 (RdF.cons rfl (by kernel_rfl) rd5 (RdF.cons rfl (by kernel_rfl) rd5 (RdF.one rfl (by kernel_rfl) rd5)))))
theorem wf8_bounds {n : Int} (h : wf8 n) : 0 ≤ n ∧ n < 256 := by
  have h' : (decide (IntKind.u8.min ≤ n) && decide (n ≤ IntKind.u8.max)) = true := h
  rw [Bool.and_eq_true, decide_eq_true_iff, decide_eq_true_iff] at h'
  have e1 : IntKind.u8.min = 0 := by decide
  have e2 : IntKind.u8.max = 255 := by decide
  omega
end Go.Proofs.Ytkoiffkonjpoiaa.X
namespace Go.Proofs.Ytkoiffkonjpoiaa.Y
open Go.RowKit Go.Proofs.Ytkoiffkonjpoiaa.Q Go.Proofs.YtkoiffkonjpoiaaW.PrintWords
set_option linter.unusedVariables false
set_option linter.unusedSimpArgs false

theorem wrap_succ (n : Nat) (h : n < 9223372036854775807) : wrap64 ((n : Int) + 1) = ((n + 1 : Nat) : Int) := by unfold wrap64; omega
theorem wrap_in (x : Int) (h0 : -9223372036854775808 ≤ x) (h1 : x ≤ 9223372036854775807) : wrap64 x = x := by unfold wrap64; omega
theorem rd_mid (A B : List S40) (p : S40) : rd_T40 (A ++ p :: B) (A.length : Int) = p := by
  simp [rd_T40]
theorem rdi_mid (A B : List Int) (p : Int) : rd (A ++ p :: B) (A.length : Int) = p := by
  simp [rd]
theorem eta40 (p : S40) : (⟨p.f0, p.f1⟩ : S40) = p := rfl

theorem eq40 (a b : S40) : a = b ↔ a.f0 = b.f0 ∧ a.f1 = b.f1 := by
  obtain ⟨a0, a1⟩ := a
  obtain ⟨b0, b1⟩ := b
  simp
instance : DecidableEq S40 := fun a b => decidable_of_iff (a.f0 = b.f0 ∧ a.f1 = b.f1) (eq40 a b).symm

end Go.Proofs.Ytkoiffkonjpoiaa.Y
namespace Go.Proofs.Ytkoiffkonjpoiaa.Y
open Go.RowKit Go.Proofs.Ytkoiffkonjpoiaa.Q Go.Proofs.YtkoiffkonjpoiaaW.PrintWords Go.Proofs.YtkoiffkonjpoiaaW.PrintLast Go.Proofs.YtkoiffkonjpoiaaW.PrintMore
theorem wf_bounds {n : Int} (h : (Lit.int .i64 n).wf = true) : -9223372036854775808 ≤ n ∧ n ≤ 9223372036854775807 := by
  have h' : (decide (IntKind.i64.min ≤ n) && decide (n ≤ IntKind.i64.max)) = true := h
  rw [Bool.and_eq_true, decide_eq_true_iff, decide_eq_true_iff] at h'
  have e1 : IntKind.i64.min = -9223372036854775808 := by decide
  have e2 : IntKind.i64.max = 9223372036854775807 := by decide
  omega
end Go.Proofs.Ytkoiffkonjpoiaa.Y
namespace Go.Proofs.Ytkoiffkonjpoiaa.Y
open Go.RowKit Go.Proofs.Ytkoiffkonjpoiaa.Q Go.Proofs.YtkoiffkonjpoiaaW.PrintWords
set_option linter.unusedVariables false
set_option linter.unusedSimpArgs false

def lo (l : List S40) (k : Int) : List S40 := l.filter (fun p => decide (p.f0 < k))
def hi (l : List S40) (k : Int) : List S40 := l.filter (fun p => decide (k < p.f0))
def putL (l : List S40) (k v : Int) : List S40 := lo l k ++ ⟨k, v⟩ :: hi l k
def cutL (l : List S40) (k : Int) : List S40 := lo l k ++ hi l k
theorem mem_lo {l : List S40} {k : Int} {p : S40} (h : p ∈ lo l k) : p ∈ l ∧ p.f0 < k := by simpa [lo] using h
theorem mem_hi {l : List S40} {k : Int} {p : S40} (h : p ∈ hi l k) : p ∈ l ∧ k < p.f0 := by simpa [hi] using h
theorem srt_tail {p : S40} {l : List S40} (h : srt (p :: l)) : srt l := (List.pairwise_cons.1 h).2
theorem srt_head {p : S40} {l : List S40} (h : srt (p :: l)) : ∀ q ∈ l, p.f0 < q.f0 := (List.pairwise_cons.1 h).1
theorem hi_all {l : List S40} {k : Int} (h : ∀ q ∈ l, k < q.f0) : hi l k = l := by
  unfold hi; rw [List.filter_eq_self]; intro q hq; simpa using h q hq
theorem lo_none {l : List S40} {k : Int} (h : ∀ q ∈ l, k ≤ q.f0) : lo l k = [] := by
  unfold lo; rw [List.filter_eq_nil_iff]; intro q hq; have := h q hq; simp; omega
theorem srt_put {l : List S40} (h : srt l) (k v : Int) : srt (putL l k v) := by
  unfold putL srt
  rw [List.pairwise_append]
  refine ⟨h.sublist List.filter_sublist, ?_, ?_⟩
  · rw [List.pairwise_cons]
    exact ⟨fun q hq => (mem_hi hq).2, h.sublist List.filter_sublist⟩
  · intro p hp q hq
    have h1 := (mem_lo hp).2
    rcases List.mem_cons.1 hq with rfl | hq
    · exact h1
    · have h2 := (mem_hi hq).2
      omega
theorem srt_cut {l : List S40} (h : srt l) (k : Int) : srt (cutL l k) := by
  unfold cutL srt
  rw [List.pairwise_append]
  refine ⟨h.sublist List.filter_sublist, h.sublist List.filter_sublist, ?_⟩
  intro p hp q hq
  have h1 := (mem_lo hp).2
  have h2 := (mem_hi hq).2
  omega
/-- A list whose keys rise, seen from a key. -/
theorem view {l : List S40} (hs : srt l) (k : Int) : kcnt l k = (lo l k).length ∧ ((khas l k = true ∧ ∃ v, l = lo l k ++ ⟨k, v⟩ :: hi l k) ∨ (khas l k = false ∧ l = lo l k ++ hi l k)) := by
  refine ⟨by unfold kcnt lo; rw [List.countP_eq_length_filter], ?_⟩
  induction l with
  | nil => exact .inr ⟨rfl, rfl⟩
  | cons p l ih =>
    have hh := srt_head hs
    rcases Int.lt_trichotomy p.f0 k with h1 | h1 | h1
    · have e1 : lo (p :: l) k = p :: lo l k := by unfold lo; rw [List.filter_cons_of_pos (by simpa using h1)]
      have e2 : hi (p :: l) k = hi l k := by unfold hi; rw [List.filter_cons_of_neg (by simp; omega)]
      have e3 : khas (p :: l) k = khas l k := by
        unfold khas
        rw [List.any_cons, decide_eq_false (by omega), Bool.false_or]
      rw [e1, e2, e3]
      rcases ih (srt_tail hs) with ⟨ha, v, hv⟩ | ⟨ha, hv⟩
      · exact .inl ⟨ha, v, by rw [List.cons_append, ← hv]⟩
      · exact .inr ⟨ha, by rw [List.cons_append, ← hv]⟩
    · have e1 : lo (p :: l) k = [] := lo_none (fun q hq => by rcases List.mem_cons.1 hq with rfl | hq; omega; have := hh q hq; omega)
      have e2 : hi (p :: l) k = l := by
        unfold hi
        rw [List.filter_cons_of_neg (by simp; omega)]
        exact hi_all (fun q hq => by have := hh q hq; omega)
      rw [e1, e2]
      refine .inl ⟨by unfold khas; rw [List.any_cons, decide_eq_true h1, Bool.true_or], p.f1, ?_⟩
      rw [List.nil_append, ← h1]
    · have e1 : lo (p :: l) k = [] := lo_none (fun q hq => by rcases List.mem_cons.1 hq with rfl | hq; omega; have := hh q hq; omega)
      have e2 : hi (p :: l) k = p :: l := hi_all (fun q hq => by rcases List.mem_cons.1 hq with rfl | hq; omega; have := hh q hq; omega)
      rw [e1, e2]
      refine .inr ⟨?_, rfl⟩
      rw [Bool.eq_false_iff]
      intro hc
      unfold khas at hc
      rw [List.any_eq_true] at hc
      obtain ⟨q, hq, he⟩ := hc
      have he : q.f0 = k := by simpa using he
      rcases List.mem_cons.1 hq with rfl | hq
      · omega
      · have := hh q hq; omega

theorem Put_l0_done (a v : Int) : ∀ (rest pre acc : List S40) (k : Nat), 2 * rest.length < k → (pre ++ rest).length < 1000000 → acc.length + rest.length < 2000000 →
    boscagelaw02_Put.l0 k a v acc true (pre ++ rest) ((pre ++ rest).length : Int) (pre.length : Int) = some (acc ++ rest.filter (fun p => decide (p.f0 ≠ a)))
  | [], pre, acc, k, hk, hn, ha => by
    obtain ⟨k, rfl⟩ : ∃ m, k = m + 1 := ⟨k - 1, by omega⟩
    simp only [boscagelaw02_Put.l0]
    rw [if_neg (by simp), if_pos trivial]
    simp
  | p :: rest, pre, acc, k, hk, hn, ha => by
    obtain ⟨k, rfl⟩ : ∃ m, k = m + 2 := ⟨k - 2, by simp at hk; omega⟩
    simp only [List.length_append, List.length_cons] at hk hn ha
    have ih := fun acc' h => Put_l0_done a v rest (pre ++ [p]) acc' k (by omega) (by simp; omega) h
    simp only [boscagelaw02_Put.l0]
    rw [if_pos (by simp; omega), if_pos (by omega), if_pos (by simp; omega), if_pos trivial, rd_mid]
    simp only [boscagelaw02_Put.j1]
    rw [if_neg (by simp), wrap_succ _ (by omega)]
    have e1 : ((pre.length + 1 : Nat) : Int) = ((pre ++ [p]).length : Int) := by simp
    have e2 : pre ++ p :: rest = (pre ++ [p]) ++ rest := by simp
    rw [e1, e2]
    by_cases h : p.f0 = a
    · rw [if_pos h, ih acc (by omega), List.filter_cons_of_neg (by simpa using h)]
    · rw [if_neg h, if_pos (by omega), ih _ (by simp; omega), List.filter_cons_of_pos (by simpa using h), eta40]
      simp
theorem Put_l0 (a v : Int) : ∀ (rest pre acc : List S40) (k : Nat), srt rest → 2 * rest.length < k → (pre ++ rest).length < 1000000 → acc.length + rest.length < 1000000 →
    boscagelaw02_Put.l0 k a v acc false (pre ++ rest) ((pre ++ rest).length : Int) (pre.length : Int) = some (acc ++ putL rest a v)
  | [], pre, acc, k, hs, hk, hn, ha => by
    obtain ⟨k, rfl⟩ : ∃ m, k = m + 1 := ⟨k - 1, by omega⟩
    simp only [boscagelaw02_Put.l0]
    rw [if_neg (by simp), if_neg (by simp), if_pos (by simp at ha; omega)]
    rfl
  | p :: rest, pre, acc, k, hs, hk, hn, ha => by
    obtain ⟨k, rfl⟩ : ∃ m, k = m + 2 := ⟨k - 2, by simp at hk; omega⟩
    simp only [List.length_append, List.length_cons] at hk hn ha
    have hh := srt_head hs
    have ih := fun acc' h => Put_l0 a v rest (pre ++ [p]) acc' k (srt_tail hs) (by omega) (by simp; omega) h
    have idn := fun acc' h => Put_l0_done a v rest (pre ++ [p]) acc' k (by omega) (by simp; omega) h
    simp only [boscagelaw02_Put.l0]
    rw [if_pos (by simp; omega), if_pos (by omega), if_pos (by simp; omega), if_neg (by simp), rd_mid]
    simp only [boscagelaw02_Put.j1]
    rw [wrap_succ _ (by omega)]
    have e1 : ((pre.length + 1 : Nat) : Int) = ((pre ++ [p]).length : Int) := by simp
    have e2 : pre ++ p :: rest = (pre ++ [p]) ++ rest := by simp
    rw [e1, e2]
    by_cases h : p.f0 ≥ a
    · rw [if_pos (by simpa using h), if_pos (by omega)]
      simp only [Option.bind_some]
      have ef : rest.filter (fun q => decide (q.f0 ≠ a)) = hi rest a := by
        rw [List.filter_eq_self.2 (fun q hq => by have := hh q hq; simp; omega)]
        exact (hi_all (fun q hq => by have := hh q hq; omega)).symm
      have el : lo (p :: rest) a = [] := lo_none (fun q hq => by rcases List.mem_cons.1 hq with rfl | hq; omega; have := hh q hq; omega)
      by_cases he : p.f0 = a
      · have eh : hi (p :: rest) a = hi rest a := by unfold hi; rw [List.filter_cons_of_neg (by simp; omega)]
        rw [if_pos he, idn _ (by simp; omega), ef]
        unfold putL
        rw [el, eh]
        simp
      · have eh : hi (p :: rest) a = p :: hi rest a := by unfold hi; rw [List.filter_cons_of_pos (by simp; omega)]
        rw [if_neg he, if_pos (by simp; omega), idn _ (by simp; omega), ef, eta40]
        unfold putL
        rw [el, eh]
        simp
    · have el : lo (p :: rest) a = p :: lo rest a := by unfold lo; rw [List.filter_cons_of_pos (by simp; omega)]
      have eh : hi (p :: rest) a = hi rest a := by unfold hi; rw [List.filter_cons_of_neg (by simp; omega)]
      rw [if_neg (by simpa using h), if_neg (by omega), if_pos (by omega), ih _ (by simp; omega), eta40]
      unfold putL
      rw [el, eh]
      simp
theorem Put_f {l : List S40} (hs : srt l) (a v : Int) (k : Nat) (hl : l.length < 1000) (hk : 2000 ≤ k) : boscagelaw02_Put.f k l a v = some (putL l a v) := by
  have := Put_l0 a v l [] [] k hs (by omega) (by simp; omega) (by simp; omega)
  simpa [boscagelaw02_Put.f] using this
theorem putL_length {l : List S40} (hs : srt l) (a v : Int) : (putL l a v).length ≤ l.length + 1 := by
  have h1 : (lo l a).length + (hi l a).length ≤ l.length := by
    rcases (view hs a).2 with ⟨_, w, hv⟩ | ⟨_, hv⟩
    · have := congrArg List.length hv; simp at this; omega
    · have := congrArg List.length hv; simp at this; omega
  unfold putL
  simp
  omega

/-- The pairs of some keys, each put in with its place and 100. -/
def risingL (raw : List Int) (i : Int) (acc : List S40) : List S40 := match raw with
  | [] => acc
  | a :: r => risingL r (i + 1) (putL acc a (i + 100))
theorem srt_rising : ∀ (raw : List Int) (i : Int) (acc : List S40), srt acc → srt (risingL raw i acc)
  | [], _, _, h => h
  | a :: r, i, acc, h => srt_rising r (i + 1) _ (srt_put h a _)
theorem rising_length : ∀ (raw : List Int) (i : Int) (acc : List S40), srt acc → (risingL raw i acc).length ≤ acc.length + raw.length
  | [], _, _, _ => by simp [risingL]
  | a :: r, i, acc, h => by
    have h1 := rising_length r (i + 1) (putL acc a (i + 100)) (srt_put h a _)
    have h2 := putL_length h a (i + 100)
    simp only [risingL, List.length_cons]
    omega
theorem Rising_l0 : ∀ (rest pre : List Int) (acc : List S40) (k : Nat), srt acc → rest.length + 3000 < k → (pre ++ rest).length < 900 → acc.length + rest.length < 1000 →
    boscagelaw02_Rising.l0 k acc (pre ++ rest) ((pre ++ rest).length : Int) (pre.length : Int) = some (risingL rest (pre.length : Int) acc)
  | [], pre, acc, k, hs, hk, hn, ha => by
    obtain ⟨k, rfl⟩ : ∃ m, k = m + 1 := ⟨k - 1, by omega⟩
    simp only [boscagelaw02_Rising.l0]
    rw [if_neg (by simp)]
    rfl
  | p :: rest, pre, acc, k, hs, hk, hn, ha => by
    obtain ⟨k, rfl⟩ : ∃ m, k = m + 1 := ⟨k - 1, by omega⟩
    simp only [List.length_append, List.length_cons] at hk hn ha
    simp only [boscagelaw02_Rising.l0]
    rw [if_pos (by simp; omega), if_pos (by omega), if_pos (by simp; omega), rdi_mid, wrap_in _ (by omega) (by omega), Put_f hs _ _ k (by omega) (by omega)]
    simp only [Option.bind_some]
    rw [wrap_succ _ (by omega)]
    have e1 : ((pre.length + 1 : Nat) : Int) = ((pre ++ [p]).length : Int) := by simp
    have e2 : pre ++ p :: rest = (pre ++ [p]) ++ rest := by simp
    have := putL_length hs p ((pre.length : Int) + 100)
    rw [e1, e2, Rising_l0 rest (pre ++ [p]) _ k (srt_put hs _ _) (by omega) (by simp; omega) (by omega)]
    simp [risingL]
/-- The pairs of some keys. -/
def rise (raw : List Int) : List S40 := risingL raw 0 []
theorem srt_rise (raw : List Int) : srt (rise raw) := srt_rising raw 0 [] List.Pairwise.nil
theorem rise_length (raw : List Int) : (rise raw).length ≤ raw.length := by
  have := rising_length raw 0 [] List.Pairwise.nil
  simpa [rise] using this
theorem Rising_f (raw : List Int) (k : Nat) (hl : raw.length < 900) (hk : 5000 ≤ k) : boscagelaw02_Rising.f k raw = some (rise raw) := by
  have := Rising_l0 raw [] [] k List.Pairwise.nil (by omega) (by simpa using hl) (by simp; omega)
  simpa [boscagelaw02_Rising.f, rise] using this
end Go.Proofs.Ytkoiffkonjpoiaa.Y
namespace Go.Proofs.Ytkoiffkonjpoiaa.Y
open Go.RowKit Go.Proofs.Ytkoiffkonjpoiaa.Q Go.Proofs.YtkoiffkonjpoiaaW.PrintWords
set_option linter.unusedVariables false
set_option linter.unusedSimpArgs false

/-- Where a key is; -1: nowhere. -/
def findI (l : List S40) (k : Int) (i : Int) : Int := match l with
  | [] => -1
  | p :: r => if p.f0 = k then i else findI r k (i + 1)
theorem Find_l0 (x : Int) : ∀ (rest pre : List S40) (k : Nat), rest.length < k → (pre ++ rest).length < 1000000 →
    boscagelaw02_Find.l0 k x (pre ++ rest) ((pre ++ rest).length : Int) (pre.length : Int) = some (findI rest x (pre.length : Int))
  | [], pre, k, hk, hn => by
    obtain ⟨k, rfl⟩ : ∃ m, k = m + 1 := ⟨k - 1, by omega⟩
    simp only [boscagelaw02_Find.l0]
    rw [if_neg (by simp)]
    rfl
  | p :: rest, pre, k, hk, hn => by
    obtain ⟨k, rfl⟩ : ∃ m, k = m + 1 := ⟨k - 1, by omega⟩
    simp only [List.length_append, List.length_cons] at hk hn
    simp only [boscagelaw02_Find.l0]
    rw [if_pos (by simp; omega), if_pos (by omega), if_pos (by simp; omega), rd_mid]
    simp only [findI]
    by_cases h : p.f0 = x
    · rw [if_pos h, if_pos h]
    · rw [if_neg h, if_neg h, wrap_succ _ (by omega)]
      have e1 : ((pre.length + 1 : Nat) : Int) = ((pre ++ [p]).length : Int) := by simp
      have e2 : pre ++ p :: rest = (pre ++ [p]) ++ rest := by simp
      rw [e1, e2, Find_l0 x rest (pre ++ [p]) k (by omega) (by simp; omega)]
      simp
theorem Find_f (l : List S40) (x : Int) (k : Nat) (hl : l.length < 1000) (hk : 1000 ≤ k) : boscagelaw02_Find.f k l x = some (findI l x 0) := by
  have := Find_l0 x l [] k (by omega) (by simp; omega)
  simpa [boscagelaw02_Find.f] using this
theorem findI_app (A B : List S40) (k i : Int) (h : ∀ p ∈ A, p.f0 ≠ k) : findI (A ++ B) k i = findI B k (i + A.length) := by
  induction A generalizing i with
  | nil => simp
  | cons p A ih =>
    rw [List.cons_append]
    simp only [findI]
    rw [if_neg (h p List.mem_cons_self), ih _ (fun q hq => h q (List.mem_cons_of_mem _ hq)), List.length_cons]
    congr 1
    omega
theorem findI_none (B : List S40) (k i : Int) (h : ∀ p ∈ B, p.f0 ≠ k) : findI B k i = -1 := by
  have := findI_app B [] k i h
  rw [List.append_nil] at this
  exact this
theorem findI_srt {l : List S40} (hs : srt l) (k : Int) : findI l k 0 = if khas l k = true then (kcnt l k : Int) else -1 := by
  obtain ⟨hc, ⟨hk, v, hv⟩ | ⟨hk, hv⟩⟩ := view hs k
  · rw [if_pos hk, hc, hv]
    rw [findI_app _ _ _ _ (fun p hp => by have := (mem_lo hp).2; omega)]
    simp only [findI]
    have e : lo l k ++ ⟨k, v⟩ :: hi l k = l := hv.symm
    rw [e, if_pos trivial]
    omega
  · rw [if_neg (by rw [hk]; simp), hv]
    refine findI_none _ _ _ (fun p hp => ?_)
    rcases List.mem_append.1 hp with hp | hp
    · have := (mem_lo hp).2; omega
    · have := (mem_hi hp).2; omega

theorem Equal_l0 : ∀ (r1 r2 p1 p2 : List S40) (k : Nat), r1.length < k → p1.length = p2.length → r1.length = r2.length → (p1 ++ r1).length < 1000000 →
    leaf_Pair_115.l0 k (p1 ++ r1) (p2 ++ r2) ((p1 ++ r1).length : Int) (p1.length : Int) = some (decide (r1 = r2))
  | [], [], p1, p2, k, hk, hp, hr, hn => by
    obtain ⟨k, rfl⟩ : ∃ m, k = m + 1 := ⟨k - 1, by omega⟩
    simp only [leaf_Pair_115.l0]
    rw [if_neg (by simp)]
    simp
  | [], _ :: _, _, _, _, _, _, hr, _ => by simp at hr
  | _ :: _, [], _, _, _, _, _, hr, _ => by simp at hr
  | a :: r1, b :: r2, p1, p2, k, hk, hp, hr, hn => by
    obtain ⟨k, rfl⟩ : ∃ m, k = m + 1 := ⟨k - 1, by omega⟩
    simp only [List.length_append, List.length_cons] at hk hn hr
    simp only [leaf_Pair_115.l0]
    rw [if_pos (by simp; omega), if_pos (by omega), if_pos (by simp; omega), if_pos (by simp; omega), rd_mid, hp, rd_mid]
    by_cases h : a = b
    · subst h
      rw [if_neg (by simp), wrap_succ _ (by omega)]
      have e1 : ((p2.length + 1 : Nat) : Int) = ((p1 ++ [a]).length : Int) := by simp [hp]
      have e2 : p1 ++ a :: r1 = (p1 ++ [a]) ++ r1 := by simp
      have e3 : p2 ++ a :: r2 = (p2 ++ [a]) ++ r2 := by simp
      rw [e1, e2, e3, Equal_l0 r1 r2 (p1 ++ [a]) (p2 ++ [a]) k (by omega) (by simp [hp]) (by omega) (by simp; omega)]
      simp
    · rw [if_pos]
      · simp [h]
      · have hne : a.f0 ≠ b.f0 ∨ a.f1 ≠ b.f1 := by
          rw [eq40] at h
          rcases Decidable.em (a.f0 = b.f0) with h1 | h1
          · exact .inr (fun h2 => h ⟨h1, h2⟩)
          · exact .inl h1
        rcases hne with h1 | h1 <;> simp [h1]
theorem Equal_f (l o : List S40) (k : Nat) (hl : l.length < 1000) (hk : 1000 ≤ k) : leaf_Pair_115.f k l o = some (decide (l = o)) := by
  unfold leaf_Pair_115.f
  by_cases h : l.length = o.length
  · rw [if_pos (by omega)]
    have := Equal_l0 l o [] [] k (by omega) rfl h (by simp; omega)
    simpa using this
  · rw [if_neg (by omega)]
    have : l ≠ o := fun e => h (by rw [e])
    simp [this]

theorem find_f {l : List S40} (hs : srt l) (hl : l.length < 1000) (k : Int) : leaf_Leaf_find.f l k = some ((kcnt l k : Int), khas l k) := by
  unfold leaf_Leaf_find.f; rw [if_pos ⟨hs, by omega⟩]
theorem clone_f (l : List S40) (hl : l.length < 1000000) : leaf_Pair_99.f l = some l := by
  unfold leaf_Pair_99.f; rw [if_pos (by omega)]
/-- A key's value. -/
def valL (l : List S40) (k : Int) : Int := if khas l k = true then (rd_T40 l (kcnt l k : Int)).f1 else 0
theorem Get_f {l : List S40} (hs : srt l) (hl : l.length < 1000) (k : Int) : leaf_Leaf_Get.f l k = some (valL l k, khas l k) := by
  unfold leaf_Leaf_Get.f valL
  rw [find_f hs hl]
  simp only [Option.bind_some]
  obtain ⟨hc, ⟨hk, v, hv⟩ | ⟨hk, hv⟩⟩ := view hs k
  · have hlt : kcnt l k < l.length := by
      have := congrArg List.length hv; simp at this; omega
    rw [hk]
    simp only [if_true]
    rw [if_pos (by omega), if_pos (by omega)]
  · rw [hk]; simp
theorem put_same {l : List S40} (hs : srt l) (k v : Int) (w : Int) (hv : l = lo l k ++ ⟨k, w⟩ :: hi l k) : l.set (kcnt l k) ⟨k, v⟩ = putL l k v := by
  have hc := (view hs k).1
  rw [hc]
  unfold putL
  conv => lhs; rw [hv]
  have e : (lo (lo l k ++ ⟨k, w⟩ :: hi l k) k) = lo l k := by rw [← hv]
  rw [e]
  simp
theorem LPut_f {l : List S40} (hs : srt l) (hl : l.length < 1000) (k v : Int) : leaf_Leaf_Put.f l k v = some (putL l k v, valL l k, khas l k) := by
  unfold leaf_Leaf_Put.f valL
  rw [find_f hs hl, clone_f l (by omega)]
  simp only [Option.bind_some]
  obtain ⟨hc, ⟨hk, w, hv⟩ | ⟨hk, hv⟩⟩ := view hs k
  · have hlt : kcnt l k < l.length := by
      have := congrArg List.length hv; simp at this; omega
    rw [hk]
    simp only [if_true]
    rw [if_pos (by omega), if_pos (by omega), if_pos (by omega)]
    have e : rd_T40 l (kcnt l k : Int) = ⟨k, w⟩ := by
      rw [hc]; conv => lhs; arg 1; rw [hv]
      exact rd_mid _ _ _
    rw [e, Int.toNat_natCast, put_same hs k v w hv]
  · rw [hk]
    rw [if_neg (by simp)]
    unfold leaf_Pair_109.f
    have hle := kcnt_le l k
    rw [if_pos ⟨by omega, by omega, by simp; omega⟩]
    simp only [Option.bind_some, Int.toNat_natCast]
    have e1 : l.take (kcnt l k) = lo l k := by
      rw [hc]; conv => lhs; rw [hv]
      have e : (lo (lo l k ++ hi l k) k) = lo l k := by rw [← hv]
      rw [e]
      exact List.take_left
    have e2 : l.drop (kcnt l k) = hi l k := by
      rw [hc]; conv => lhs; rw [hv]
      have e : (lo (lo l k ++ hi l k) k) = lo l k := by rw [← hv]
      rw [e]
      exact List.drop_left
    rw [e1, e2]
    simp [putL]
theorem LCut_f {l : List S40} (hs : srt l) (hl : l.length < 1000) (k : Int) : leaf_Leaf_Cut.f l k = some (cutL l k, valL l k, khas l k) := by
  unfold leaf_Leaf_Cut.f valL
  rw [find_f hs hl, clone_f l (by omega)]
  simp only [Option.bind_some]
  obtain ⟨hc, ⟨hk, w, hv⟩ | ⟨hk, hv⟩⟩ := view hs k
  · have hlt : kcnt l k < l.length := by
      have := congrArg List.length hv; simp at this; omega
    rw [hk]
    simp only [if_true]
    rw [wrap_succ _ (by omega)]
    unfold leaf_Pair_108.f
    rw [if_pos ⟨by omega, by omega, by omega⟩]
    simp only [Option.bind_some, Int.toNat_natCast]
    rw [if_pos (by omega), if_pos (by omega)]
    have e1 : l.take (kcnt l k) = lo l k := by
      rw [hc]; conv => lhs; rw [hv]
      have e : (lo (lo l k ++ ⟨k, w⟩ :: hi l k) k) = lo l k := by rw [← hv]
      rw [e]
      exact List.take_left
    have e2 : l.drop (kcnt l k + 1) = hi l k := by
      rw [hc]; conv => lhs; rw [hv]
      have e : (lo (lo l k ++ ⟨k, w⟩ :: hi l k) k) = lo l k := by rw [← hv]
      rw [e, ← List.drop_drop, List.drop_left]
      rfl
    rw [e1, e2]
    rfl
  · rw [hk]
    rw [if_neg (by simp)]
    have e : cutL l k = l := hv.symm
    rw [e]
    simp
theorem Cut_l0 (a : Int) : ∀ (rest pre acc : List S40) (k : Nat), rest.length < k → (pre ++ rest).length < 1000000 → acc.length + rest.length < 1000000 →
    boscagelaw02_Cut.l0 k a acc (pre ++ rest) ((pre ++ rest).length : Int) (pre.length : Int) = some (acc ++ rest.filter (fun p => decide (p.f0 ≠ a)))
  | [], pre, acc, k, hk, hn, ha => by
    obtain ⟨k, rfl⟩ : ∃ m, k = m + 1 := ⟨k - 1, by omega⟩
    simp only [boscagelaw02_Cut.l0]
    rw [if_neg (by simp)]
    simp
  | p :: rest, pre, acc, k, hk, hn, ha => by
    obtain ⟨k, rfl⟩ : ∃ m, k = m + 1 := ⟨k - 1, by omega⟩
    simp only [List.length_append, List.length_cons] at hk hn ha
    have ih := fun acc' h => Cut_l0 a rest (pre ++ [p]) acc' k (by omega) (by simp; omega) h
    simp only [boscagelaw02_Cut.l0]
    rw [if_pos (by simp; omega), if_pos (by omega), if_pos (by simp; omega), rd_mid, wrap_succ _ (by omega)]
    have e1 : ((pre.length + 1 : Nat) : Int) = ((pre ++ [p]).length : Int) := by simp
    have e2 : pre ++ p :: rest = (pre ++ [p]) ++ rest := by simp
    rw [e1, e2]
    by_cases h : p.f0 = a
    · rw [if_pos h, ih acc (by omega), List.filter_cons_of_neg (by simpa using h)]
    · rw [if_neg h, if_pos (by omega), ih _ (by simp; omega), List.filter_cons_of_pos (by simpa using h), eta40]
      simp
theorem filter_ne {l : List S40} (hs : srt l) (k : Int) : l.filter (fun p => decide (p.f0 ≠ k)) = cutL l k := by
  unfold cutL
  have h1 : (lo l k).filter (fun p => decide (p.f0 ≠ k)) = lo l k := List.filter_eq_self.2 (fun q hq => by have := (mem_lo hq).2; simp; omega)
  have h2 : (hi l k).filter (fun p => decide (p.f0 ≠ k)) = hi l k := List.filter_eq_self.2 (fun q hq => by have := (mem_hi hq).2; simp; omega)
  obtain ⟨hc, ⟨hk, v, hv⟩ | ⟨hk, hv⟩⟩ := view hs k
  · conv => lhs; rw [hv]
    rw [List.filter_append, List.filter_cons_of_neg (by simp), h1, h2]
  · conv => lhs; rw [hv]
    rw [List.filter_append, h1, h2]
theorem Cut_f {l : List S40} (hs : srt l) (a : Int) (k : Nat) (hl : l.length < 1000) (hk : 1000 ≤ k) : boscagelaw02_Cut.f k l a = some (cutL l a) := by
  have := Cut_l0 a l [] [] k (by omega) (by simp; omega) (by simp; omega)
  rw [filter_ne hs] at this
  simpa [boscagelaw02_Cut.f] using this

end Go.Proofs.Ytkoiffkonjpoiaa.Y
namespace Go.Proofs.Ytkoiffkonjpoiaa.Y
open Go.RowKit Go.Proofs.Ytkoiffkonjpoiaa.Q Go.Proofs.YtkoiffkonjpoiaaW.PrintWords
set_option linter.unusedVariables false
set_option linter.unusedSimpArgs false

theorem Between_l0 (x y : Int) : ∀ (rest pre acc : List S40) (k : Nat), rest.length < k → (pre ++ rest).length < 1000000 → acc.length + rest.length < 1000000 →
    boscagelaw02_Between.l0 k x y acc (pre ++ rest) ((pre ++ rest).length : Int) (pre.length : Int) = some (acc ++ rest.filter (fun p => decide (x ≤ p.f0 ∧ p.f0 ≤ y)))
  | [], pre, acc, k, hk, hn, ha => by
    obtain ⟨k, rfl⟩ : ∃ m, k = m + 1 := ⟨k - 1, by omega⟩
    simp only [boscagelaw02_Between.l0]
    rw [if_neg (by simp)]
    simp
  | p :: rest, pre, acc, k, hk, hn, ha => by
    obtain ⟨k, rfl⟩ : ∃ m, k = m + 1 := ⟨k - 1, by omega⟩
    simp only [List.length_append, List.length_cons] at hk hn ha
    simp only [boscagelaw02_Between.l0]
    have e1 : ((pre.length + 1 : Nat) : Int) = ((pre ++ [p]).length : Int) := by simp
    have e2 : pre ++ p :: rest = (pre ++ [p]) ++ rest := by simp
    rw [if_pos (by simp; omega), if_pos (by omega), if_pos (by simp; omega), rd_mid, wrap_succ _ (by omega), e1, e2]
    by_cases h1 : x ≤ p.f0
    · by_cases h2 : p.f0 ≤ y
      · rw [if_pos h1, if_pos h2, if_pos (by omega), Between_l0 x y rest (pre ++ [p]) _ k (by omega) (by simp; omega) (by simp; omega), List.filter_cons_of_pos (by simp [h1, h2])]
        simp
      · rw [if_pos h1, if_neg h2, Between_l0 x y rest (pre ++ [p]) _ k (by omega) (by simp; omega) (by omega), List.filter_cons_of_neg (by simp; omega)]
    · rw [if_neg h1, Between_l0 x y rest (pre ++ [p]) _ k (by omega) (by simp; omega) (by omega), List.filter_cons_of_neg (by simp; omega)]
theorem Between_f (l : List S40) (x y : Int) (k : Nat) (hl : l.length < 1000) (hk : 1000 ≤ k) : boscagelaw02_Between.f k l x y = some (l.filter (fun p => decide (x ≤ p.f0 ∧ p.f0 ≤ y))) := by
  have := Between_l0 x y l [] [] k (by omega) (by simp; omega) (by simp; omega)
  simpa [boscagelaw02_Between.f] using this
theorem LBetween_eq : ∀ k, leaf_Leaf_Between.l0 k = boscagelaw02_Between.l0 k
  | 0 => by funext a b c d e f; simp only [leaf_Leaf_Between.l0, boscagelaw02_Between.l0]
  | k + 1 => by funext a b c d e f; simp only [leaf_Leaf_Between.l0, boscagelaw02_Between.l0, LBetween_eq k, ge_iff_le]
theorem LBetween_f (l : List S40) (x y : Int) (k : Nat) (hl : l.length < 1000) (hk : 1000 ≤ k) : leaf_Leaf_Between.f k l x y = some (l.filter (fun p => decide (x ≤ p.f0 ∧ p.f0 ≤ y))) := by
  rw [← Between_f l x y k hl hk]
  unfold leaf_Leaf_Between.f boscagelaw02_Between.f
  rw [LBetween_eq]
end Go.Proofs.Ytkoiffkonjpoiaa.Y
namespace Go.Proofs.Ytkoiffkonjpoiaa.Y
open Go.RowKit Go.Proofs.Ytkoiffkonjpoiaa.Q Go.Proofs.YtkoiffkonjpoiaaW.PrintWords Go.Proofs.YtkoiffkonjpoiaaW.PrintLast Go.Proofs.YtkoiffkonjpoiaaW.PrintMore
set_option linter.unusedVariables false
theorem mem_putL {l : List S40} {k v : Int} {p : S40} (h : p ∈ putL l k v) : p ∈ l ∨ p = ⟨k, v⟩ := by
  unfold putL at h
  rcases List.mem_append.1 h with h | h
  · exact .inl (mem_lo h).1
  · rcases List.mem_cons.1 h with h | h
    · exact .inr h
    · exact .inl (mem_hi h).1
theorem oneR_left (A B : List S40) (i : Int) (h : i < (A.length : Int)) : oneR (A ++ B) i = oneR A i := by
  unfold oneR
  by_cases h0 : 0 ≤ i
  · rw [if_pos h0, if_pos h0, List.getElem?_append_left (by omega)]
  · rw [if_neg h0, if_neg h0]
theorem oneR_right (A B : List S40) (i : Int) (h : i = (A.length : Int)) : oneR (A ++ B) i = oneR B 0 := by
  unfold oneR
  rw [if_pos (by omega), if_pos (by omega), List.getElem?_append_right (by omega)]
  have : i.toNat - A.length = (0 : Int).toNat := by omega
  rw [this]
theorem span_app (k : Nat) (L : List S40) (a b c d x y : Int) (h : model_Op_Span.f k a b c d = some (x, y, true)) (hl : L.length < 1000) (hk : 1000 ≤ k) :
    model_Apply.f k L a b c d = some (L, (ofR a b (L.filter (fun p => decide (x ≤ p.f0 ∧ p.f0 ≤ y)))).1, (ofR a b (L.filter (fun p => decide (x ≤ p.f0 ∧ p.f0 ≤ y)))).2.1, (ofR a b (L.filter (fun p => decide (x ≤ p.f0 ∧ p.f0 ≤ y)))).2.2.1, (ofR a b (L.filter (fun p => decide (x ≤ p.f0 ∧ p.f0 ≤ y)))).2.2.2.1, (ofR a b (L.filter (fun p => decide (x ≤ p.f0 ∧ p.f0 ≤ y)))).2.2.2.2.1, (ofR a b (L.filter (fun p => decide (x ≤ p.f0 ∧ p.f0 ≤ y)))).2.2.2.2.2) := by
  have hf := List.length_filter_le (fun p : S40 => decide (x ≤ p.f0 ∧ p.f0 ≤ y)) L
  unfold model_Apply.f
  rw [h, Option.bind_some]
  dsimp only
  rw [if_pos rfl, clone_f _ (by omega), Option.bind_some, LBetween_f _ _ _ _ hl hk, Option.bind_some]
  unfold model_Op_Of.f
  rw [if_pos (by omega), Option.bind_some]
theorem filter_all {L : List S40} {f : S40 → Bool} (h : ∀ p ∈ L, f p = true) : L.filter f = L := List.filter_eq_self.2 h
theorem filter_nil {L : List S40} {f : S40 → Bool} (h : ∀ p ∈ L, f p = false) : L.filter f = [] := List.filter_eq_nil_iff.2 (fun p hp => by rw [h p hp]; simp)
theorem fl_le {L : List S40} (b : Int) (hw : ∀ p ∈ L, -9223372036854775808 ≤ p.f0) :
    L.filter (fun p => decide (-9223372036854775808 ≤ p.f0 ∧ p.f0 ≤ b)) = L.filter (fun p => decide (p.f0 ≤ b)) := by
  refine List.filter_congr (fun p hp => ?_)
  have := hw p hp
  exact decide_eq_decide.2 ⟨fun h => h.2, fun h => ⟨this, h⟩⟩
theorem fl_ge {L : List S40} (b : Int) (hw : ∀ p ∈ L, p.f0 ≤ 9223372036854775807) :
    L.filter (fun p => decide (b ≤ p.f0 ∧ p.f0 ≤ 9223372036854775807)) = L.filter (fun p => decide (b ≤ p.f0)) := by
  refine List.filter_congr (fun p hp => ?_)
  have := hw p hp
  exact decide_eq_decide.2 ⟨fun h => h.1, fun h => ⟨h, this⟩⟩
theorem le_has {L : List S40} {b v : Int} (hv : L = lo L b ++ ⟨b, v⟩ :: hi L b) : L.filter (fun p => decide (p.f0 ≤ b)) = lo L b ++ [⟨b, v⟩] := by
  conv => lhs; rw [hv]
  rw [List.filter_append, filter_all (fun p hp => decide_eq_true (by have := (mem_lo hp).2; omega)), List.filter_cons_of_pos (by simp), filter_nil (L := hi L b) (fun p hp => decide_eq_false (by have := (mem_hi hp).2; omega))]
theorem le_not {L : List S40} {b : Int} (hv : L = lo L b ++ hi L b) : L.filter (fun p => decide (p.f0 ≤ b)) = lo L b := by
  conv => lhs; rw [hv]
  rw [List.filter_append, filter_all (fun p hp => decide_eq_true (by have := (mem_lo hp).2; omega)), filter_nil (L := hi L b) (fun p hp => decide_eq_false (by have := (mem_hi hp).2; omega)), List.append_nil]
theorem ge_has {L : List S40} {b v : Int} (hv : L = lo L b ++ ⟨b, v⟩ :: hi L b) : L.filter (fun p => decide (b ≤ p.f0)) = ⟨b, v⟩ :: hi L b := by
  conv => lhs; rw [hv]
  rw [List.filter_append, filter_nil (L := lo L b) (fun p hp => decide_eq_false (by have := (mem_lo hp).2; omega)), List.filter_cons_of_pos (by simp), filter_all (L := hi L b) (fun p hp => decide_eq_true (by have := (mem_hi hp).2; omega)), List.nil_append]
theorem ge_not {L : List S40} {b : Int} (hv : L = lo L b ++ hi L b) : L.filter (fun p => decide (b ≤ p.f0)) = hi L b := by
  conv => lhs; rw [hv]
  rw [List.filter_append, filter_nil (L := lo L b) (fun p hp => decide_eq_false (by have := (mem_lo hp).2; omega)), filter_all (L := hi L b) (fun p hp => decide_eq_true (by have := (mem_hi hp).2; omega)), List.nil_append]
theorem one_floor {L A H : List S40} {q : S40} (hv : L = A ++ q :: H) : oneR (A ++ [q]) (((A ++ [q]).length : Int) - 1) = oneR L (A.length : Int) := by
  subst hv
  have e1 : (((A ++ [q]).length : Int) - 1) = (A.length : Int) := by simp
  have e2 : A ++ q :: H = (A ++ [q]) ++ H := by simp
  rw [e1, e2]
  exact (oneR_left (A ++ [q]) H _ (by simp; omega)).symm
theorem one_floor2 {L A H : List S40} (hv : L = A ++ H) : oneR A ((A.length : Int) - 1) = oneR L ((A.length : Int) - 1) := by
  subst hv
  rw [oneR_left _ _ _ (by omega)]
theorem one_ceil {L A H : List S40} (hv : L = A ++ H) : oneR H 0 = oneR L (A.length : Int) := by
  subst hv
  exact (oneR_right A H _ rfl).symm
end Go.Proofs.Ytkoiffkonjpoiaa.Y
namespace Go.Proofs.Ytkoiffkonjpoiaa.Y
open Go.RowKit Go.Proofs.Ytkoiffkonjpoiaa.Q Go.Proofs.YtkoiffkonjpoiaaW.PrintWords Go.Proofs.YtkoiffkonjpoiaaW.PrintLast
theorem below_l0 (x : Int) : ∀ (rest pre : List S40) (acc : Nat) (k : Nat), rest.length < k → (pre ++ rest).length < 1000000 → acc + rest.length < 1000000 →
    boscagelaw18_below.l0 k x (acc : Int) (pre ++ rest) ((pre ++ rest).length : Int) (pre.length : Int) = some ((acc + (lo rest x).length : Nat) : Int)
  | [], pre, acc, k, hk, hn, ha => by
    obtain ⟨k, rfl⟩ : ∃ m, k = m + 1 := ⟨k - 1, by omega⟩
    simp only [boscagelaw18_below.l0]
    rw [if_neg (by simp)]
    simp [lo]
  | p :: rest, pre, acc, k, hk, hn, ha => by
    obtain ⟨k, rfl⟩ : ∃ m, k = m + 1 := ⟨k - 1, by omega⟩
    simp only [List.length_append, List.length_cons] at hk hn ha
    simp only [boscagelaw18_below.l0]
    have e1 : ((pre.length + 1 : Nat) : Int) = ((pre ++ [p]).length : Int) := by simp
    have e2 : pre ++ p :: rest = (pre ++ [p]) ++ rest := by simp
    rw [if_pos (by simp; omega), if_pos (by omega), if_pos (by simp; omega), rd_mid, wrap_succ acc (by omega), wrap_succ pre.length (by omega), e1, e2]
    by_cases h : p.f0 < x
    · rw [if_pos h, below_l0 x rest (pre ++ [p]) (acc + 1) k (by omega) (by simp; omega) (by omega)]
      congr 2
      unfold lo
      rw [List.filter_cons_of_pos (by simp [h]), List.length_cons]
      omega
    · rw [if_neg h, below_l0 x rest (pre ++ [p]) acc k (by omega) (by simp; omega) (by omega)]
      congr 2
      unfold lo
      rw [List.filter_cons_of_neg (by simp [h])]
theorem below_f (l : List S40) (x : Int) (k : Nat) (hl : l.length < 1000) (hk : 1000 ≤ k) : boscagelaw18_below.f k l x = some ((lo l x).length : Int) := by
  have := below_l0 x l [] 0 k (by omega) (by simp; omega) (by omega)
  simpa [boscagelaw18_below.f] using this
theorem pick_f (l : List S40) (i : Int) : boscagelaw18_pick.f l i = some (0, (oneR l i).1, (oneR l i).2.1, (oneR l i).2.2, [], false) := by
  unfold boscagelaw18_pick.f oneR
  by_cases h0 : i < 0
  · rw [if_pos h0]; simp [show ¬ (0 ≤ i) by omega]
  · by_cases h1 : i ≥ (l.length : Int)
    · rw [if_neg h0, if_pos h1, if_pos (by omega), List.getElem?_eq_none (by omega)]
    · have hi : i.toNat < l.length := by omega
      rw [if_neg h0, if_neg h1, if_pos (by omega), if_pos (by omega), if_pos (by omega), List.getElem?_eq_getElem hi]
      have e : rd_T40 l i = l[i.toNat] := by simp [rd_T40, hi]
      rw [e]
theorem law_app (k : Nat) {L : List S40} (hs : srt L) (a b c d : Int) (hl : L.length < 1000) (hk : 1000 ≤ k) :
    boscagelaw18_Apply.f k L a b c d = boscagelaw18_Apply.j0 k L (if khas L b = true then (kcnt L b : Int) else -1) a b c d 0 (khas L b) 0 (valL L b) false := by
  unfold boscagelaw18_Apply.f
  rw [Find_f _ _ _ hl hk, Option.bind_some, findI_srt hs]
  obtain ⟨hc, ⟨hk2, v, hv⟩ | ⟨hk2, hv⟩⟩ := view hs b
  · have hlt : kcnt L b < L.length := by rw [hc]; conv => rhs; rw [hv]
                                         simp
    rw [hk2, if_pos rfl, if_pos (by omega), if_pos (by omega), if_pos (by omega)]
    unfold valL
    rw [hk2, if_pos rfl]
  · rw [hk2]
    simp only [Bool.false_eq_true, if_false]
    rw [if_neg (by omega)]
    unfold valL
    rw [hk2]
    simp only [Bool.false_eq_true, if_false]
theorem lo_le (L : List S40) (b : Int) : (lo L b).length ≤ L.length := List.length_filter_le _ _
theorem cut_len {L : List S40} (hs : srt L) (b : Int) : (cutL L b).length ≤ L.length := by
  obtain ⟨hc, ⟨hh, v, hv⟩ | ⟨hh, hv⟩⟩ := view hs b
  · have h := congrArg List.length hv
    simp only [List.length_append, List.length_cons] at h
    unfold cutL
    rw [List.length_append]
    omega
  · have h := congrArg List.length hv
    simp only [List.length_append] at h
    unfold cutL
    rw [List.length_append]
    omega
/-- Both maps do alike: the same pairs, the same answer; the pairs rise again. -/
def MCR (m : Nat) (L : List S40) (a b c d : Int) : Prop := ∃ (l' : List S40) (r1 : Int) (r2 : Bool) (r3 r4 : Int) (q : List S40) (t : Bool), model_Apply.f m L a b c d = some (l', r1, r2, r3, r4, q, false) ∧ boscagelaw18_Apply.f m L a b c d = some (l', r1, r2, r3, r4, q, t) ∧ srt l' ∧ (∀ p ∈ l', X.wf p.f0) ∧ l'.length ≤ L.length + 1 ∧ q.length ≤ L.length ∧ (l' = L ∨ l' = putL L b d ∨ l' = cutL L b)
/-- The same, and what error there may be. -/
def MCE (m : Nat) (L : List S40) (a b c d : Int) : Prop := ∃ (l' : List S40) (r1 : Int) (r2 : Bool) (r3 r4 : Int) (q : List S40) (t : Bool), model_Apply.f m L a b c d = some (l', r1, r2, r3, r4, q, false) ∧ boscagelaw18_Apply.f m L a b c d = some (l', r1, r2, r3, r4, q, t) ∧ srt l' ∧ (∀ p ∈ l', X.wf p.f0) ∧ l'.length ≤ L.length + 1 ∧ q.length ≤ L.length ∧ (l' = L ∨ l' = putL L b d ∨ l' = cutL L b) ∧ (r1 = 0 ∨ r1 = 10)
theorem MC_tail (m : Nat) (L : List S40) (hs : srt L) (hw : ∀ p ∈ L, X.wf p.f0) (a b c d : Int) (hb : X.wf b) (l' : List S40) (r1 : Int) (r2 : Bool) (r3 r4 : Int) (q : List S40) (t : Bool)
    (h1 : model_Apply.f m L a b c d = some (l', r1, r2, r3, r4, q, false)) (h2 : boscagelaw18_Apply.f m L a b c d = some (l', r1, r2, r3, r4, q, t)) (hl' : l' = L ∨ l' = putL L b d ∨ l' = cutL L b) (hq : q.length ≤ L.length) (he : r1 = 0 ∨ r1 = 10 := by decide) : MCE m L a b c d := by
  refine ⟨l', r1, r2, r3, r4, q, t, h1, h2, ?_, fun p hp => ?_, ?_, hq, hl', he⟩
  · rcases hl' with rfl | rfl | rfl
    · exact hs
    · exact srt_put hs _ _
    · exact srt_cut hs _
  · rcases hl' with rfl | rfl | rfl
    · exact hw p hp
    · rcases mem_putL hp with h | rfl
      · exact hw p h
      · exact hb
    · unfold cutL at hp
      rcases List.mem_append.1 hp with h | h
      · exact hw p (mem_lo h).1
      · exact hw p (mem_hi h).1
  · have := putL_length hs b d
    have := cut_len hs b
    rcases hl' with rfl | rfl | rfl <;> omega
set_option maxRecDepth 4000 in
theorem MC_err (m : Nat) (L : List S40) (hs : srt L) (hl : L.length < 900) (a b c d : Int) (hm : 6000 ≤ m) (hwk : ∀ p ∈ L, X.wf p.f0) (hwb : X.wf b) : MCE (m + 1) L a b c d := by
  have hb := wf_bounds hwb
  have hlaw := fun a => law_app (m + 1) hs a b c d (by omega) (by omega)
  have hlow : ∀ p ∈ L, -9223372036854775808 ≤ p.f0 := fun p hp => (wf_bounds (hwk p hp)).1
  have hup : ∀ p ∈ L, p.f0 ≤ 9223372036854775807 := fun p hp => (wf_bounds (hwk p hp)).2
  have hlo := lo_le L b
  have hput := putL_length hs b d
  have hcut := cut_len hs b
  have hbel := below_f L b m (by omega) (by omega)
  have tail := fun a => @MC_tail (m + 1) L hs hwk a b c d hwb
  by_cases h0 : a = 0
  · subst h0
    have hsp : model_Op_Span.f (m + 1) 0 b c d = some (0, 0, false) := by simp [model_Op_Span.f, model_Op_Span.j0]
    refine tail 0 L 0 (khas L b) 0 (valL L b) [] false ?_ ?_ (by first | exact .inl rfl | exact .inr (.inl rfl) | exact .inr (.inr rfl)) (by first | simp | omega)
    · unfold model_Apply.f
      rw [hsp, Option.bind_some]
      dsimp only
      rw [if_neg (by simp), if_pos rfl, Get_f hs (by omega), Option.bind_some, clone_f _ (by omega), Option.bind_some]
    · rw [hlaw 0]
      simp only [boscagelaw18_Apply.j0]
      rw [hbel, Option.bind_some, if_pos trivial]
  by_cases h1 : a = 1
  · subst h1
    have hsp : model_Op_Span.f (m + 1) 1 b c d = some (0, 0, false) := by simp [model_Op_Span.f, model_Op_Span.j0]
    refine tail 1 (putL L b d) 0 (khas L b) 0 (valL L b) [] false ?_ ?_ (by first | exact .inl rfl | exact .inr (.inl rfl) | exact .inr (.inr rfl)) (by first | simp | omega)
    · unfold model_Apply.f
      rw [hsp, Option.bind_some]
      dsimp only
      rw [if_neg (by simp), if_neg (by decide), if_pos rfl, LPut_f hs (by omega), Option.bind_some]
    · rw [hlaw 1]
      simp only [boscagelaw18_Apply.j0]
      rw [hbel, Option.bind_some, if_neg (by decide), if_pos trivial, Put_f hs _ _ _ (by omega) (by omega), Option.bind_some]
  by_cases h2 : a = 2
  · subst h2
    have hsp : model_Op_Span.f (m + 1) 2 b c d = some (0, 0, false) := by simp [model_Op_Span.f, model_Op_Span.j0]
    by_cases hh : khas L b = true
    · refine tail 2 L 0 true 0 (valL L b) [] false ?_ ?_ (by first | exact .inl rfl | exact .inr (.inl rfl) | exact .inr (.inr rfl)) (by first | simp | omega)
      · unfold model_Apply.f
        rw [hsp, Option.bind_some]
        dsimp only
        rw [if_neg (by simp), if_neg (by decide), if_neg (by decide), if_pos rfl, Get_f hs (by omega), Option.bind_some]
        dsimp only
        rw [if_pos hh, clone_f _ (by omega), Option.bind_some]
      · rw [hlaw 2, if_pos hh, hh]
        simp only [boscagelaw18_Apply.j0]
        rw [hbel, Option.bind_some, if_neg (by decide), if_neg (by decide), if_pos trivial, if_pos (by omega)]
    · have hf : khas L b = false := by simpa using hh
      have hv0 : valL L b = 0 := by unfold valL; rw [if_neg hh]
      refine tail 2 (putL L b d) 0 false 0 0 [] false ?_ ?_ (by first | exact .inl rfl | exact .inr (.inl rfl) | exact .inr (.inr rfl)) (by first | simp | omega)
      · unfold model_Apply.f
        rw [hsp, Option.bind_some]
        dsimp only
        rw [if_neg (by simp), if_neg (by decide), if_neg (by decide), if_pos rfl, Get_f hs (by omega), Option.bind_some]
        dsimp only
        rw [if_neg hh, LPut_f hs (by omega), Option.bind_some]
      · rw [hlaw 2, if_neg hh, hf, hv0]
        simp only [boscagelaw18_Apply.j0]
        rw [hbel, Option.bind_some, if_neg (by decide), if_neg (by decide), if_pos trivial, if_neg (by omega), Put_f hs _ _ _ (by omega) (by omega), Option.bind_some]
  by_cases h3 : a = 3
  · subst h3
    have hsp : model_Op_Span.f (m + 1) 3 b c d = some (0, 0, false) := by simp [model_Op_Span.f, model_Op_Span.j0]
    refine tail 3 (cutL L b) 0 (khas L b) 0 (valL L b) [] false ?_ ?_ (by first | exact .inl rfl | exact .inr (.inl rfl) | exact .inr (.inr rfl)) (by first | simp | omega)
    · unfold model_Apply.f
      rw [hsp, Option.bind_some]
      dsimp only
      rw [if_neg (by simp), if_neg (by decide), if_neg (by decide), if_neg (by decide), if_pos rfl, LCut_f hs (by omega), Option.bind_some]
    · rw [hlaw 3]
      simp only [boscagelaw18_Apply.j0]
      rw [hbel, Option.bind_some, if_neg (by decide), if_neg (by decide), if_neg (by decide), if_pos trivial, Cut_f hs _ _ (by omega) (by omega), Option.bind_some]
  by_cases h4 : a = 4
  · subst h4
    have hsp : model_Op_Span.f (m + 1) 4 b c d = some (-9223372036854775808, b, true) := by simp [model_Op_Span.f]
    have hap := span_app (m + 1) L 4 b c d _ _ hsp (by omega) (by omega)
    rw [fl_le b hlow] at hap
    obtain ⟨hc, ⟨hh, v, hv⟩ | ⟨hh, hv⟩⟩ := view hs b
    · rw [le_has hv] at hap
      have e := one_floor hv
      refine tail 4 L 0 _ _ _ [] false hap ?_ (.inl rfl) (by first | (simp; done) | omega)
      rw [hlaw 4, hh, if_pos rfl]
      simp only [boscagelaw18_Apply.j0]
      have ew : wrap64 (wrap64 (((lo L b).length : Int) + 1) - 1) = ((lo L b).length : Int) := by unfold wrap64; omega
      rw [hbel, Option.bind_some, if_neg (by decide), if_neg (by decide), if_neg (by decide), if_neg (by decide), if_pos trivial, if_pos (by omega), ew, pick_f, Option.bind_some, ← e]
      rfl
    · rw [le_not hv] at hap
      have e := one_floor2 hv
      refine tail 4 L 0 _ _ _ [] false hap ?_ (.inl rfl) (by first | (simp; done) | omega)
      rw [hlaw 4, hh, if_neg (by simp)]
      simp only [boscagelaw18_Apply.j0]
      have ew : wrap64 (((lo L b).length : Int) - 1) = ((lo L b).length : Int) - 1 := by unfold wrap64; omega
      rw [hbel, Option.bind_some, if_neg (by decide), if_neg (by decide), if_neg (by decide), if_neg (by decide), if_pos trivial, if_neg (by omega), ew, pick_f, Option.bind_some, ← e]
      rfl
  by_cases h5 : a = 5
  · subst h5
    have hsp : model_Op_Span.f (m + 1) 5 b c d = some (b, 9223372036854775807, true) := by simp [model_Op_Span.f]
    have hap := span_app (m + 1) L 5 b c d _ _ hsp (by omega) (by omega)
    rw [fl_ge b hup] at hap
    have e : oneR (L.filter (fun p => decide (b ≤ p.f0))) 0 = oneR L ((lo L b).length : Int) := by
      obtain ⟨hc, ⟨hh, v, hv⟩ | ⟨hh, hv⟩⟩ := view hs b
      · rw [ge_has hv]
        exact one_ceil hv
      · rw [ge_not hv]
        exact one_ceil hv
    refine tail 5 L 0 _ _ _ [] false hap ?_ (.inl rfl) (by first | (simp; done) | omega)
    rw [hlaw 5]
    simp only [boscagelaw18_Apply.j0]
    rw [hbel, Option.bind_some, if_neg (by decide), if_neg (by decide), if_neg (by decide), if_neg (by decide), if_neg (by decide), if_pos trivial, pick_f, Option.bind_some, ← e]
    rfl
  have hall : L.filter (fun p => decide (-9223372036854775808 ≤ p.f0 ∧ p.f0 ≤ 9223372036854775807)) = L := filter_all (fun p hp => decide_eq_true ⟨hlow p hp, hup p hp⟩)
  by_cases h6 : a = 6
  · subst h6
    have hsp : model_Op_Span.f (m + 1) 6 b c d = some (-9223372036854775808, 9223372036854775807, true) := by simp [model_Op_Span.f, model_Op_Span.j0]
    have hap := span_app (m + 1) L 6 b c d _ _ hsp (by omega) (by omega)
    rw [hall] at hap
    refine tail 6 L 0 _ _ _ [] false hap ?_ (.inl rfl) (by first | (simp; done) | omega)
    rw [hlaw 6]
    simp only [boscagelaw18_Apply.j0]
    rw [hbel, Option.bind_some, if_neg (by decide), if_neg (by decide), if_neg (by decide), if_neg (by decide), if_neg (by decide), if_neg (by decide), if_pos trivial, pick_f, Option.bind_some]
    rfl
  by_cases h7 : a = 7
  · subst h7
    have hsp : model_Op_Span.f (m + 1) 7 b c d = some (-9223372036854775808, 9223372036854775807, true) := by simp [model_Op_Span.f, model_Op_Span.j0]
    have hap := span_app (m + 1) L 7 b c d _ _ hsp (by omega) (by omega)
    rw [hall] at hap
    refine tail 7 L 0 _ _ _ [] false hap ?_ (.inl rfl) (by first | (simp; done) | omega)
    rw [hlaw 7]
    simp only [boscagelaw18_Apply.j0]
    have ew : wrap64 ((L.length : Int) - 1) = (L.length : Int) - 1 := by unfold wrap64; omega
    rw [hbel, Option.bind_some, if_neg (by decide), if_neg (by decide), if_neg (by decide), if_neg (by decide), if_neg (by decide), if_neg (by decide), if_neg (by decide), if_pos trivial, ew, pick_f, Option.bind_some]
    rfl
  by_cases h8 : a = 8
  · subst h8
    have hfin : ∀ x y, model_Op_Span.f (m + 1) 8 b c d = some (x, y, true) → L.filter (fun p => decide (x ≤ p.f0 ∧ p.f0 ≤ y)) = lo L b → MCE (m + 1) L 8 b c d := by
      intro x y hsp hfl
      have hap := span_app (m + 1) L 8 b c d _ _ hsp (by omega) (by omega)
      rw [hfl] at hap
      refine tail 8 L 0 _ _ _ [] false hap ?_ (.inl rfl) (by first | (simp; done) | omega)
      rw [hlaw 8]
      simp only [boscagelaw18_Apply.j0]
      rw [hbel, Option.bind_some, if_neg (by decide), if_neg (by decide), if_neg (by decide), if_neg (by decide), if_neg (by decide), if_neg (by decide), if_neg (by decide), if_neg (by decide), if_pos trivial]
      rfl
    by_cases hz : b = -9223372036854775808
    · refine hfin 1 0 (by simp [model_Op_Span.f, model_Op_Span.j0, hz]) ?_
      rw [filter_nil (fun p hp => decide_eq_false (by omega))]
      exact (filter_nil (fun p hp => decide_eq_false (by have := hlow p hp; omega))).symm
    · have hw : wrap64 (b - 1) = b - 1 := by unfold wrap64; omega
      refine hfin (-9223372036854775808) (b - 1) (by simp [model_Op_Span.f, model_Op_Span.j0, hz, hw]) ?_
      refine List.filter_congr (fun p hp => decide_eq_decide.2 ?_)
      have := hlow p hp
      omega
  by_cases h9 : a = 9
  · subst h9
    have hsp : model_Op_Span.f (m + 1) 9 b c d = some (-9223372036854775808, 9223372036854775807, true) := by simp [model_Op_Span.f, model_Op_Span.j0]
    have hap := span_app (m + 1) L 9 b c d _ _ hsp (by omega) (by omega)
    rw [hall] at hap
    refine tail 9 L 0 _ _ _ [] false hap ?_ (.inl rfl) (by first | (simp; done) | omega)
    rw [hlaw 9]
    simp only [boscagelaw18_Apply.j0]
    rw [hbel, Option.bind_some, if_neg (by decide), if_neg (by decide), if_neg (by decide), if_neg (by decide), if_neg (by decide), if_neg (by decide), if_neg (by decide), if_neg (by decide), if_neg (by decide), if_pos trivial]
    have ho : ∀ i : Int, (i < 0 ∨ i ≥ (L.length : Int)) → oneR L i = (false, 0, 0) := by
      intro i hi
      unfold oneR
      by_cases h0 : 0 ≤ i
      · rw [if_pos h0, List.getElem?_eq_none (by omega)]
      · rw [if_neg h0]
    have hof : ofR 9 b L = (0, (oneR L b).1, (oneR L b).2.1, (oneR L b).2.2, [], false) := rfl
    rw [hof]
    by_cases hz : b < 0
    · rw [if_pos hz, ho b (.inl hz)]
    · by_cases hy : b ≥ (L.length : Int)
      · rw [if_neg hz, if_pos hy, ho b (.inr hy)]
      · rw [if_neg hz, if_neg hy, pick_f, Option.bind_some]
  by_cases h10 : a = 10
  · subst h10
    have hsp : model_Op_Span.f (m + 1) 10 b c d = some (b, c, true) := by simp [model_Op_Span.f, model_Op_Span.j0]
    have hap := span_app (m + 1) L 10 b c d _ _ hsp (by omega) (by omega)
    have hf := List.length_filter_le (fun p : S40 => decide (b ≤ p.f0 ∧ p.f0 ≤ c)) L
    refine tail 10 L 0 _ _ _ [] false hap ?_ (.inl rfl) (by first | (simp; done) | omega)
    rw [hlaw 10]
    simp only [boscagelaw18_Apply.j0]
    rw [hbel, Option.bind_some, if_neg (by decide), if_neg (by decide), if_neg (by decide), if_neg (by decide), if_neg (by decide), if_neg (by decide), if_neg (by decide), if_neg (by decide), if_neg (by decide), if_neg (by decide), if_pos trivial, Between_f _ _ _ _ (by omega) (by omega), Option.bind_some]
    rfl
  by_cases h11 : a = 11
  · subst h11
    have hsp : model_Op_Span.f (m + 1) 11 b c d = some (b, c, true) := by simp [model_Op_Span.f, model_Op_Span.j0]
    have hap := span_app (m + 1) L 11 b c d _ _ hsp (by omega) (by omega)
    have hf := List.length_filter_le (fun p : S40 => decide (b ≤ p.f0 ∧ p.f0 ≤ c)) L
    refine tail 11 L 0 _ _ _ (L.filter (fun p => decide (b ≤ p.f0 ∧ p.f0 ≤ c))) false hap ?_ (.inl rfl) (by first | (simp; done) | omega)
    rw [hlaw 11]
    simp only [boscagelaw18_Apply.j0]
    rw [hbel, Option.bind_some, if_neg (by decide), if_neg (by decide), if_neg (by decide), if_neg (by decide), if_neg (by decide), if_neg (by decide), if_neg (by decide), if_neg (by decide), if_neg (by decide), if_neg (by decide), if_neg (by decide), if_pos trivial, Between_f _ _ _ _ (by omega) (by omega), Option.bind_some]
    rfl
  have hsp : model_Op_Span.f (m + 1) a b c d = some (0, 0, false) := by simp [model_Op_Span.f, model_Op_Span.j0, h4, h5, h6, h7, h8, h9, h10, h11]
  refine tail a L 10 false 0 0 [] false ?_ ?_ (by first | exact .inl rfl | exact .inr (.inl rfl) | exact .inr (.inr rfl)) (by first | simp | omega)
  · unfold model_Apply.f
    rw [hsp, Option.bind_some]
    dsimp only
    rw [if_neg (by simp), if_neg h0, if_neg h1, if_neg h2, if_neg h3, clone_f _ (by omega), Option.bind_some]
  · rw [hlaw a]
    simp only [boscagelaw18_Apply.j0]
    rw [hbel, Option.bind_some, if_neg h0, if_neg h1, if_neg h2, if_neg h3, if_neg h4, if_neg h5, if_neg h6, if_neg h7, if_neg h8, if_neg h9, if_neg h10, if_neg h11]
theorem MC_cases (m : Nat) (L : List S40) (hs : srt L) (hl : L.length < 900) (a b c d : Int) (hm : 6000 ≤ m) (hwk : ∀ p ∈ L, X.wf p.f0) (hwb : X.wf b) : MCR (m + 1) L a b c d := by
  obtain ⟨l', r1, r2, r3, r4, q, t, h1, h2, h3, h4, h5, h6, h7, _⟩ := MC_err m L hs hl a b c d hm hwk hwb
  exact ⟨l', r1, r2, r3, r4, q, t, h1, h2, h3, h4, h5, h6, h7⟩
end Go.Proofs.Ytkoiffkonjpoiaa.Y
namespace Go.Proofs.Ytkoiffkonjpoiaa.Y
open Go.RowKit Go.Proofs.Ytkoiffkonjpoiaa.Q Go.Proofs.YtkoiffkonjpoiaaW.PrintWords
theorem wrap_u64 (n : Int) : IntKind.u64.wrap n = n % 18446744073709551616 := by simp [IntKind.wrap, IntKind.bits, IntKind.signed]
theorem b8_inj {n m : Int} (hn : -9223372036854775808 ≤ n ∧ n ≤ 9223372036854775807) (hm : -9223372036854775808 ≤ m ∧ m ≤ 9223372036854775807) (h : b8 n = b8 m) : n = m := by
  have e : ∀ j, j < 8 → by1 n j = by1 m j := fun j hj => by
    have := congrArg (fun l => l[j]?) h
    simp only [b8, List.getElem?_map, List.getElem?_range hj, Option.map_some] at this
    exact Option.some.inj this
  have e0 := e 0 (by decide)
  have e1 := e 1 (by decide)
  have e2 := e 2 (by decide)
  have e3 := e 3 (by decide)
  have e4 := e 4 (by decide)
  have e5 := e 5 (by decide)
  have e6 := e 6 (by decide)
  have e7 := e 7 (by decide)
  clear e h
  simp only [by1, wrap_u64] at e0 e1 e2 e3 e4 e5 e6 e7
  simp at e0 e1 e2 e3 e4 e5 e6 e7
  omega
def wfP (p : S40) : Prop := (-9223372036854775808 ≤ p.f0 ∧ p.f0 ≤ 9223372036854775807) ∧ (-9223372036854775808 ≤ p.f1 ∧ p.f1 ≤ 9223372036854775807)
theorem b8_length (n : Int) : (b8 n).length = 8 := by simp [b8]
theorem textL_cons (p : S40) (l : List S40) : textL (p :: l) = b8 p.f0 ++ (b8 p.f1 ++ textL l) := by simp [textL]
theorem textL_inj : ∀ (l l' : List S40), (∀ p ∈ l, wfP p) → (∀ p ∈ l', wfP p) → textL l = textL l' → l = l'
  | [], [], _, _, _ => rfl
  | [], p :: l', _, _, h => by
    have := congrArg List.length h
    rw [textL_length, textL_length] at this
    simp at this
  | p :: l, [], _, _, h => by
    have := congrArg List.length h
    rw [textL_length, textL_length] at this
    simp at this
  | p :: l, q :: l', h1, h2, h => by
    rw [textL_cons, textL_cons] at h
    obtain ⟨ha, h⟩ := List.append_inj h (by rw [b8_length, b8_length])
    obtain ⟨hb, h⟩ := List.append_inj h (by rw [b8_length, b8_length])
    have hp := h1 p List.mem_cons_self
    have hq := h2 q List.mem_cons_self
    have e1 := b8_inj hp.1 hq.1 ha
    have e2 := b8_inj hp.2 hq.2 hb
    have e3 := textL_inj l l' (fun x hx => h1 x (List.mem_cons_of_mem _ hx)) (fun x hx => h2 x (List.mem_cons_of_mem _ hx)) h
    obtain ⟨a, b⟩ := p
    obtain ⟨c, d⟩ := q
    simp only at e1 e2
    rw [e1, e2, e3]
theorem map_inj {α β : Type} (f : α → β) : ∀ (l l' : List α), (∀ x ∈ l, ∀ y ∈ l', f x = f y → x = y) → l.map f = l'.map f → l = l'
  | [], [], _, _ => rfl
  | [], _ :: _, _, h => by simp at h
  | _ :: _, [], _, h => by simp at h
  | a :: l, b :: l', hf, h => by
    simp only [List.map_cons, List.cons.injEq] at h
    rw [hf a List.mem_cons_self b List.mem_cons_self h.1, map_inj f l l' (fun x hx y hy => hf x (List.mem_cons_of_mem _ hx) y (List.mem_cons_of_mem _ hy)) h.2]
theorem txtU_inj {l l' : List S40} (h1 : ∀ p ∈ l, wfP p) (h2 : ∀ p ∈ l', wfP p) (h : txtU l = txtU l') : l = l' := by
  refine textL_inj l l' h1 h2 (map_inj _ _ _ (fun x hx y hy he => ?_) h)
  have hbx := textL_byte l x hx
  have hby := textL_byte l' y hy
  have := congrArg UInt8.toNat he
  rw [UInt8.toNat_ofNat', UInt8.toNat_ofNat'] at this
  omega
end Go.Proofs.Ytkoiffkonjpoiaa.Y
namespace Go.Proofs.Ytkoiffkonjpoiaa.Y
open Go.RowKit Go.Proofs.Ytkoiffkonjpoiaa.Q Go.Proofs.YtkoiffkonjpoiaaW.PrintWords Go.Proofs.YtkoiffkonjpoiaaW.PrintLast
theorem MSame_f (k : Nat) (a0 : Int) (a1 : Bool) (a2 a3 : Int) (l : List S40) (a5 : Bool) (b0 : Int) (b1 : Bool) (b2 b3 : Int) (m : List S40) (b5 : Bool) (hl : l.length < 1000) (hk : 1000 ≤ k) :
    model_Same.f k a0 a1 a2 a3 l a5 b0 b1 b2 b3 m b5 = some (decide (a0 = b0 ∧ a1 = b1 ∧ a2 = b2 ∧ a3 = b3 ∧ l = m)) := by
  unfold model_Same.f
  by_cases h0 : a0 = b0
  · by_cases h1 : a1 = b1
    · by_cases h2 : a2 = b2
      · by_cases h3 : a3 = b3
        · rw [if_pos h0, if_pos (by simp [h1]), if_pos h2, if_pos h3, Equal_f _ _ _ hl hk, Option.bind_some]
          simp [h0, h1, h2, h3]
        · rw [if_pos h0, if_pos (by simp [h1]), if_pos h2, if_neg h3]; simp [h3]
      · rw [if_pos h0, if_pos (by simp [h1]), if_neg h2]; simp [h2]
    · rw [if_pos h0, if_neg (by simp [h1])]; simp [h1]
  · rw [if_neg h0]; simp [h0]
/-- Pairs that rise, of numbers of 64 bits. -/
def goodP (p : List S40) : Prop := srt p ∧ ∀ q ∈ p, wfP q
def okE (e : S128) : Prop := X.wf e.f1.f1 ∧ X.wf e.f1.f3
theorem goodP_keys {p : List S40} (h : goodP p) : ∀ q ∈ p, X.wf q.f0 := fun q hq => by
  have hb := (h.2 q hq).1
  show (decide (IntKind.i64.min ≤ q.f0) && decide (q.f0 ≤ IntKind.i64.max)) = true
  have e1 : IntKind.i64.min = -9223372036854775808 := by decide
  have e2 : IntKind.i64.max = 9223372036854775807 := by decide
  rw [e1, e2, decide_eq_true hb.1, decide_eq_true hb.2]
  rfl
theorem step_ok (m : Nat) (hm : 6000 ≤ m) {p : List S40} (hp : goodP p) (hl : p.length < 900) {e : S128} (he : okE e) : ∃ x, stepE (m + 1) p e = some x ∧ ∀ q, x = some q → goodP q ∧ q.length ≤ p.length + 1 := by
  obtain ⟨l', r1, r2, r3, r4, q, t, h1, h2, hs', hw', hl', hq, hd⟩ := MC_cases m p hp.1 hl e.f1.f0 e.f1.f1 e.f1.f2 e.f1.f3 hm (goodP_keys hp) he.1
  have hg : goodP l' ∧ l'.length ≤ p.length + 1 := by
    refine ⟨⟨hs', fun x hx => ?_⟩, hl'⟩
    rcases hd with rfl | rfl | rfl
    · exact hp.2 x hx
    · rcases mem_putL hx with h | rfl
      · exact hp.2 x h
      · exact ⟨wf_bounds he.1, wf_bounds he.2⟩
    · unfold cutL at hx
      rcases List.mem_append.1 hx with h | h
      · exact hp.2 x (mem_lo h).1
      · exact hp.2 x (mem_hi h).1
  unfold stepE
  rw [h1, Option.bind_some]
  dsimp only
  rw [if_pos (by omega)]
  by_cases h0 : 0 ≤ e.f3
  · rw [if_pos h0, MSame_f _ _ _ _ _ _ _ _ _ _ _ _ _ (by omega) (by omega), Option.bind_some]
    refine ⟨_, rfl, fun y hy => ?_⟩
    split at hy
    · cases hy; exact hg
    · cases hy
  · rw [if_neg h0]
    exact ⟨_, rfl, fun y hy => by cases hy; exact hg⟩
theorem evs_at (k : Nat) (l : List S128) (i : Nat) : (l.map (evOf k))[i]? = (l[i]?).map (evOf k) := List.getElem?_map ..
/-- The search from the beginning: the first legal order, or there is none. -/
theorem order_spec (m : Nat) (hm : 6000 ≤ m) (first : List S40) (l : List S128) (hf : goodP first) (hl : first.length < 700) (hn : l.length ≤ 62) (hok : ∀ e ∈ l, okE e) :
    ∃ so, Order.f (m + 1) first l = some ((Srch.srch (stOf (m + 1) l) 100 0 first).isSome, so) ∧ ((Srch.srch (stOf (m + 1) l) 100 0 first).isSome = true → Srch.srch (stOf (m + 1) l) 100 0 first = some so) ∧ ((Srch.srch (stOf (m + 1) l) 100 0 first).isSome = false → so = []) := by
  have hS : (stOf (m + 1) l).n = l.length := List.length_map ..
  obtain ⟨b, seen', so', h1, h2, h3, h4⟩ := Srch.find_top (stOf (m + 1) l) txtU (stepF (m + 1) l) (fun f p => goodP p ∧ p.length + f < 900) goodP (fun _ _ h => h.1) (fun p q hp hq h => txtU_inj hp.2 hq.2 h) (fun f p hp i hi => by
    rw [hS] at hi
    have hli : l[i]? = some l[i] := List.getElem?_eq_getElem hi
    obtain ⟨x, hx, hy⟩ := step_ok m hm hp.1 (by omega) (hok _ (List.getElem_mem hi))
    have e1 : (stOf (m + 1) l).step p i = x := by
      show Srch.stepAt _ p i = x
      unfold Srch.stepAt
      rw [evs_at, hli]
      show (stepE (m + 1) p l[i]).join = x
      rw [hx]
      rfl
    refine ⟨?_, fun q hq => ?_⟩
    · rw [e1]
      unfold stepF
      rw [hli]
      exact hx
    · rw [e1] at hq
      obtain ⟨g1, g2⟩ := hy q hq
      exact ⟨g1, by omega⟩) 100 first ⟨hf, by omega⟩ (by rw [hS]; omega)
  refine ⟨so', ?_, fun h => h3 (h2.trans h), fun h => h4 (h2.trans h)⟩
  unfold Order.f
  rw [if_neg (by omega), if_pos (by omega)]
  show (Srch.find (stOf (m + 1) l) txtU (stepF (m + 1) l) 100 0 first [] []).bind _ = _
  rw [h1, Option.bind_some, ← h2]
  cases b with
  | true => rfl
  | false => rw [h4 rfl]; rfl
end Go.Proofs.Ytkoiffkonjpoiaa.Y
namespace Go.Proofs.Ytkoiffkonjpoiaa.Y
open Go.RowKit Go.Proofs.Ytkoiffkonjpoiaa.Q Go.Proofs.YtkoiffkonjpoiaaW.PrintWords Go.Proofs.YtkoiffkonjpoiaaW.PrintLast
theorem rd128_at (l : List S128) {i : Nat} (hi : i < l.length) : l[i]? = some (rd_T128 l (i : Int)) := by simp [rd_T128, hi]
end Go.Proofs.Ytkoiffkonjpoiaa.Y
namespace Go.Proofs.Ytkoiffkonjpoiaa.Y
open Go.RowKit Go.Proofs.Ytkoiffkonjpoiaa.Q Go.Proofs.YtkoiffkonjpoiaaW.PrintWords Go.Proofs.YtkoiffkonjpoiaaW.PrintLast
end Go.Proofs.Ytkoiffkonjpoiaa.Y
namespace Go.Proofs.Ytkoiffkonjpoiaa.Y
open Go.RowKit Go.Proofs.Ytkoiffkonjpoiaa.Q Go.Proofs.YtkoiffkonjpoiaaW.PrintWords Go.Proofs.YtkoiffkonjpoiaaW.PrintLast
end Go.Proofs.Ytkoiffkonjpoiaa.Y
namespace Go.Proofs.Ytkoiffkonjpoiaa.Y
open Go.RowKit Go.Proofs.Ytkoiffkonjpoiaa.Q Go.Proofs.YtkoiffkonjpoiaaW.PrintWords Go.Proofs.YtkoiffkonjpoiaaW.PrintLast
end Go.Proofs.Ytkoiffkonjpoiaa.Y
namespace Go.Proofs.Ytkoiffkonjpoiaa.Y
open Go.RowKit Go.Proofs.Ytkoiffkonjpoiaa.Q Go.Proofs.YtkoiffkonjpoiaaW.PrintWords Go.Proofs.YtkoiffkonjpoiaaW.PrintLast
/-- An event's bounds. -/
def bndE (e : S128) : Prop := okE e ∧ -100 ≤ e.f2 ∧ e.f2 ≤ 1000 ∧ -1 ≤ e.f3 ∧ e.f3 ≤ 1000
/-- An event was done at its time, or did nothing. -/
structure Did (k i : Nat) (now now' : List S40) (e : S128) : Prop where
  bnd : bndE e
  beg : e.f2 ≤ 10 * (i : Int) + 5
  fin : mustE e = true → 10 * (i : Int) + 5 ≤ e.f3
  how : (stepE k now e = some (some now') ∧ noneE e = false) ∨ (mustE e = false ∧ now' = now)
  good : goodP now'
  len : now'.length ≤ now.length + 1
inductive Told (k : Nat) : Nat → List S40 → List S128 → Prop
  | nil (i : Nat) (now : List S40) : Told k i now []
  | cons {i : Nat} {now now' : List S40} {e : S128} {r : List S128} : Did k i now now' e → Told k (i + 1) now' r → Told k i now (e :: r)
def okD (d : S126) : Prop := (X.wf d.f0.f1 ∧ X.wf d.f0.f3) ∧ 0 ≤ d.f1 ∧ 0 ≤ d.f2
theorem none_err {i b n : Int} {o : S78} {a : S84} (h : a.f0 = 0 ∨ a.f0 = 10) : noneE ⟨i, o, b, n, a⟩ = false := by
  unfold noneE
  rcases h with h | h <;> simp [h]
theorem must_open {i b n : Int} {o : S78} {a : S84} (hn : n < 0) : mustE ⟨i, o, b, n, a⟩ = false := by
  unfold mustE
  rw [decide_eq_false (by show ¬ 0 ≤ n; omega)]
  rfl
theorem must_err {i b n : Int} {o : S78} {a : S84} (h : a.f0 = 3 ∨ a.f0 = 4) : mustE ⟨i, o, b, n, a⟩ = false := by
  unfold mustE
  rcases h with h | h <;> simp [h]
theorem hist_did (m : Nat) (hm : 6000 ≤ m) (now : List S40) (i : Nat) (d : S126) (hg : goodP now) (hl : now.length < 900) (hd : okD d) (hi : i < 90) :
    ∃ x, histE (m + 1) now i d = some x ∧ Did (m + 1) i now x.1 x.2 ∧ (d.f3.tmod 8 ≠ 5 → d.f3.tmod 8 ≠ 6 → d.f3.tmod 8 ≠ 7 → stepE (m + 1) now x.2 = some (some x.1) ∧ noneE x.2 = false ∧ x.2.f2 = 10 * (i : Int) + 5 - d.f1.tmod 50 ∧ x.2.f3 = 10 * (i : Int) + 5 + d.f2.tmod 50) := by
  obtain ⟨⟨hd1, hd2⟩, hb, ha⟩ := hd
  obtain ⟨l', r1, r2, r3, r4, q, t, h1, h2, hs', hw', hl', hq, _, hr1⟩ := MC_err m now hg.1 hl d.f0.f0 d.f0.f1 d.f0.f2 d.f0.f3 hm (goodP_keys hg) hd1
  have b0 := Int.tmod_nonneg 50 hb
  have b1 := Int.tmod_lt_of_pos d.f1 (show (0 : Int) < 50 by decide)
  have a0 := Int.tmod_nonneg 50 ha
  have a1 := Int.tmod_lt_of_pos d.f2 (show (0 : Int) < 50 by decide)
  have hok : ∀ (j b n : Int) (a : S84), okE ⟨j, d.f0, b, n, a⟩ := fun _ _ _ _ => ⟨hd1, hd2⟩
  have hst : ∀ e : S128, okE e → stepE (m + 1) now e = some (some l') → goodP l' ∧ l'.length ≤ now.length + 1 := fun e he hs => by
    obtain ⟨x, hx, hy⟩ := step_ok m hm hg hl he
    rw [hs] at hx
    cases hx
    exact hy l' rfl
  unfold histE
  by_cases c5 : d.f3.tmod 8 = 5
  · rw [if_pos c5, h2, Option.bind_some]
    have hs : stepE (m + 1) now ⟨i, d.f0, 10 * (i : Int) + 5 - d.f1.tmod 50, -1, zA⟩ = some (some l') := by
      unfold stepE
      rw [h1, Option.bind_some]
      dsimp only
      rw [if_pos (by omega), if_neg (by decide)]
    obtain ⟨g1, g2⟩ := hst _ (hok _ _ _ _) hs
    refine ⟨_, rfl, ⟨⟨hok _ _ _ _, ?_, ?_, ?_, ?_⟩, ?_, fun h => ?_, .inl ⟨hs, ?_⟩, g1, g2⟩, fun h => absurd c5 h⟩
    · show -100 ≤ 10 * (i : Int) + 5 - d.f1.tmod 50; omega
    · show 10 * (i : Int) + 5 - d.f1.tmod 50 ≤ 1000; omega
    · show (-1 : Int) ≤ -1; omega
    · show (-1 : Int) ≤ 1000; omega
    · show 10 * (i : Int) + 5 - d.f1.tmod 50 ≤ 10 * (i : Int) + 5; omega
    · rw [must_open (by omega)] at h; cases h
    · rfl
  · rw [if_neg c5]
    by_cases c6 : d.f3.tmod 8 = 6
    · rw [if_pos c6]
      refine ⟨_, rfl, ⟨⟨hok _ _ _ _, ?_, ?_, ?_, ?_⟩, ?_, fun h => ?_, .inr ⟨must_open (by omega), rfl⟩, hg, Nat.le_succ _⟩, fun _ h => absurd c6 h⟩
      · show -100 ≤ 10 * (i : Int) + 5 - d.f1.tmod 50; omega
      · show 10 * (i : Int) + 5 - d.f1.tmod 50 ≤ 1000; omega
      · show (-1 : Int) ≤ -1; omega
      · show (-1 : Int) ≤ 1000; omega
      · show 10 * (i : Int) + 5 - d.f1.tmod 50 ≤ 10 * (i : Int) + 5; omega
      · rw [must_open (by omega)] at h; cases h
    · rw [if_neg c6]
      by_cases c7 : d.f3.tmod 8 = 7
      · rw [if_pos c7]
        refine ⟨_, rfl, ⟨⟨hok _ _ _ _, ?_, ?_, ?_, ?_⟩, ?_, fun h => ?_, .inr ⟨must_err (.inl rfl), rfl⟩, hg, Nat.le_succ _⟩, fun _ _ h => absurd c7 h⟩
        · show -100 ≤ 10 * (i : Int) + 5 - d.f1.tmod 50; omega
        · show 10 * (i : Int) + 5 - d.f1.tmod 50 ≤ 1000; omega
        · show (-1 : Int) ≤ 10 * (i : Int) + 5 + d.f2.tmod 50; omega
        · show 10 * (i : Int) + 5 + d.f2.tmod 50 ≤ 1000; omega
        · show 10 * (i : Int) + 5 - d.f1.tmod 50 ≤ 10 * (i : Int) + 5; omega
        · rw [must_err (.inl rfl)] at h; cases h
      · rw [if_neg c7, h2, Option.bind_some]
        have hn : noneE ⟨i, d.f0, 10 * (i : Int) + 5 - d.f1.tmod 50, 10 * (i : Int) + 5 + d.f2.tmod 50, ⟨r1, r2, r3, r4, q, t⟩⟩ = false := none_err hr1
        have hs : stepE (m + 1) now ⟨i, d.f0, 10 * (i : Int) + 5 - d.f1.tmod 50, 10 * (i : Int) + 5 + d.f2.tmod 50, ⟨r1, r2, r3, r4, q, t⟩⟩ = some (some l') := by
          unfold stepE
          rw [h1, Option.bind_some]
          dsimp only
          rw [if_pos (by omega), if_pos (by omega), MSame_f _ _ _ _ _ _ _ _ _ _ _ _ _ (by omega) (by omega), Option.bind_some]
          simp
        obtain ⟨g1, g2⟩ := hst _ (hok _ _ _ _) hs
        refine ⟨_, rfl, ⟨⟨hok _ _ _ _, ?_, ?_, ?_, ?_⟩, ?_, fun h => ?_, .inl ⟨hs, hn⟩, g1, g2⟩, fun _ _ _ => ⟨hs, hn, rfl, rfl⟩⟩
        · show -100 ≤ 10 * (i : Int) + 5 - d.f1.tmod 50; omega
        · show 10 * (i : Int) + 5 - d.f1.tmod 50 ≤ 1000; omega
        · show (-1 : Int) ≤ 10 * (i : Int) + 5 + d.f2.tmod 50; omega
        · show 10 * (i : Int) + 5 + d.f2.tmod 50 ≤ 1000; omega
        · show 10 * (i : Int) + 5 - d.f1.tmod 50 ≤ 10 * (i : Int) + 5; omega
        · show 10 * (i : Int) + 5 ≤ 10 * (i : Int) + 5 + d.f2.tmod 50; omega
theorem hist_told (m : Nat) (hm : 6000 ≤ m) : ∀ (l : List S126) (i : Nat) (now : List S40), goodP now → now.length + l.length < 900 → i + l.length < 90 → (∀ d ∈ l, okD d) → ∃ h, histGo (m + 1) i now l = some h ∧ Told (m + 1) i now h ∧ h.length = l.length
  | [], i, now, _, _, _, _ => ⟨[], rfl, .nil i now, rfl⟩
  | d :: r, i, now, hg, hl, hi, hd => by
    rw [List.length_cons] at hl hi
    obtain ⟨x, hx, hD, _⟩ := hist_did m hm now i d hg (by omega) (hd d List.mem_cons_self) (by omega)
    have := hD.len
    obtain ⟨h, h1, h2, h3⟩ := hist_told m hm r (i + 1) x.1 hD.good (by omega) (by omega) (fun d hd' => hd d (List.mem_cons_of_mem _ hd'))
    refine ⟨x.2 :: h, ?_, .cons hD h2, by rw [List.length_cons, List.length_cons, h3]⟩
    simp only [histGo]
    rw [hx, Option.bind_some, h1, Option.bind_some]
theorem told_bnd {k : Nat} : ∀ {h : List S128} {i : Nat} {now : List S40}, Told k i now h → ∀ e ∈ h, bndE e
  | [], _, _, _, e, he => by simp at he
  | a :: r, i, now, .cons hD hT, e, he => by
    rcases List.mem_cons.1 he with rfl | he
    · exact hD.bnd
    · exact told_bnd hT e he
theorem ins_evs (k : Nat) (out : List S128) (m : Nat) (e : S128) : (insAt out m e).map (evOf k) = Srch.ins (out.map (evOf k)) m (evOf k e) := by
  unfold insAt Srch.ins
  rw [List.map_append, List.map_cons, List.map_take, List.map_drop]
theorem mem_insAt {out : List S128} {m : Nat} {e x : S128} (h : x ∈ insAt out m e) : x ∈ out ∨ x = e := by
  unfold insAt at h
  rcases List.mem_append.1 h with h | h
  · exact .inl (List.mem_of_mem_take h)
  · rcases List.mem_cons.1 h with h | h
    · exact .inr h
    · exact .inl (List.mem_of_mem_drop h)
theorem mem_turnGo (by_ : List Int) : ∀ (r out : List S128) (x : S128), x ∈ turnGo by_ out r → x ∈ out ∨ x ∈ r
  | [], out, x, h => .inl h
  | e :: r, out, x, h => by
    rcases mem_turnGo by_ r _ x h with h | h
    · rcases mem_insAt h with h | h
      · exact .inl h
      · exact .inr (h ▸ List.mem_cons_self)
    · exact .inr (List.mem_cons_of_mem _ h)
theorem mem_Turned {l : List S128} {by_ : List Int} {x : S128} (h : x ∈ Turned.f l by_) : x ∈ l := by
  rcases mem_turnGo by_ l [] x h with h | h
  · simp at h
  · exact h
theorem bnd_spoil {what : Int} {e : S128} (h : bndE e) : bndE (spoilE what e) := h
theorem mem_Spoilt {l : List S128} {which what : Int} (P : S128 → Prop) (hP : ∀ e ∈ l, P e) (hS : ∀ e ∈ l, P (spoilE what e)) : ∀ e ∈ Spoilt.f l which what, P e := by
  intro e he
  unfold Spoilt.f at he
  split at he
  · exact hP e he
  · rename_i h0
    have hlt : which.toNat % l.length < l.length := Nat.mod_lt _ (by have : ¬ l.length = 0 := fun h => h0 (.inl h); omega)
    rcases List.mem_or_eq_of_mem_set he with he | rfl
    · exact hP e he
    · exact hS _ (List.mem_of_getElem? (rd128_at l hlt))
theorem rising_good : ∀ (raw : List Int) (i : Int) (acc : List S40), (∀ y ∈ raw, X.wf y) → 0 ≤ i → i + raw.length ≤ 1000 → (∀ p ∈ acc, wfP p) → ∀ p ∈ risingL raw i acc, wfP p
  | [], _, _, _, _, _, ha => ha
  | a :: r, i, acc, hr, h0, h1, ha => by
    rw [List.length_cons] at h1
    refine rising_good r (i + 1) _ (fun y hy => hr y (List.mem_cons_of_mem _ hy)) (by omega) (by omega) (fun p hp => ?_)
    rcases mem_putL hp with h | rfl
    · exact ha p h
    · exact ⟨wf_bounds (hr a List.mem_cons_self), by show (_ : Int) ≤ i + 100 ∧ i + 100 ≤ _; omega⟩
theorem rise_good (raw : List Int) (hr : ∀ y ∈ raw, X.wf y) (hl : raw.length ≤ 1000) : goodP (rise raw) :=
  ⟨srt_rise raw, rising_good raw 0 [] hr (by omega) (by omega) (fun p hp => by simp at hp)⟩
/-- What a law of the story begins with. -/
theorem told_ok (m : Nat) (hm : 6000 ≤ m) (keys : List Int) (l : List S126) (hk : ∀ y ∈ keys, X.wf y) (hkl : keys.length ≤ 8) (hd : ∀ d ∈ l, okD d) (hl : l.length ≤ 30) :
    ∃ first h, boscagelaw02_Rising.f (m + 1) keys = some first ∧ goodP first ∧ first.length ≤ 8 ∧ History.f (m + 1) first l = some h ∧ Told (m + 1) 0 first h ∧ h.length = l.length ∧ ∀ e ∈ h, bndE e := by
  have hrl := rise_length keys
  obtain ⟨h, h1, h2, h3⟩ := hist_told m hm l 0 (rise keys) (rise_good keys hk (by omega)) (by omega) (by omega) hd
  exact ⟨rise keys, h, Rising_f keys _ (by omega) (by omega), rise_good keys hk (by omega), by omega, h1, h2, h3, told_bnd h2⟩
theorem told_all (m : Nat) (hm : 6000 ≤ m) (keys : List Int) (l : List S126) (by_ : List Int) (which what : Int) (hk : ∀ y ∈ keys, X.wf y) (hkl : keys.length ≤ 8) (hd : ∀ d ∈ l, okD d) (hl : l.length ≤ 30) :
    ∃ first h, told (m + 1) keys l by_ which what = some (first, h) ∧ goodP first ∧ first.length ≤ 8 ∧ h.length = l.length ∧ (∀ e ∈ h, bndE e) ∧ ∃ h0, h = Spoilt.f (Turned.f h0 by_) which what ∧ Told (m + 1) 0 first h0 := by
  obtain ⟨first, h, h1, h2, h3, h4, h5, h6, h7⟩ := told_ok m hm keys l hk hkl hd hl
  refine ⟨first, _, ?_, h2, h3, by rw [Spoilt.length, Turned.length, h6], ?_, h, rfl, h5⟩
  · unfold told
    rw [h1, Option.bind_some, h4, Option.bind_some]
  · exact mem_Spoilt bndE (fun e he => h7 e (mem_Turned he)) (fun e he => bnd_spoil (h7 e (mem_Turned he)))
end Go.Proofs.Ytkoiffkonjpoiaa.Y
namespace Go.Proofs.Ytkoiffkonjpoiaa.Y
open Go.RowKit Go.Proofs.Ytkoiffkonjpoiaa.Q Go.Proofs.YtkoiffkonjpoiaaW.PrintWords Go.Proofs.YtkoiffkonjpoiaaW.PrintLast
theorem deeds_ok {l : List S126} (h : ∀ d ∈ l, X.ok126 d) : (∀ d ∈ l, okD d) ∧ okDs l :=
  ⟨fun d hd => ⟨⟨(h d hd).1.2.1, (h d hd).1.2.2.2⟩, (X.wf8_bounds (h d hd).2.1).1, (X.wf8_bounds (h d hd).2.2.1).1⟩, fun d hd => ⟨(X.wf8_bounds (h d hd).2.1).1, (X.wf8_bounds (h d hd).2.2.1).1, (X.wf8_bounds (h d hd).2.2.2).1⟩⟩
theorem bytes_ok {l : List Int} (h : ∀ x ∈ l, X.wf8 x) : okBs l := fun x hx => X.wf8_bounds (h x hx)
theorem byte_ok {x : Int} (h : (Lit.int .u8 x).wf = true) : 0 ≤ x ∧ x < 256 := X.wf8_bounds h
theorem st_n (k : Nat) (l : List S128) : (stOf k l).n = l.length := List.length_map ..
/-- Whether there is an order: just if there is a legal one. -/
theorem linear_spec (m : Nat) (hm : 6000 ≤ m) (first : List S40) (l : List S128) (hf : goodP first) (hl : first.length < 700) (hn : l.length ≤ 62) (hok : ∀ e ∈ l, okE e) :
    ∃ b, Linear.f (m + 1) first l = some b ∧ (b = true ↔ ∃ so, Srch.Legal (stOf (m + 1) l) first so) := by
  obtain ⟨so, h1, _, _⟩ := order_spec m hm first l hf hl hn hok
  refine ⟨_, ?_, Srch.srch_iff _ (f := 100) (p := first) (by rw [st_n]; omega)⟩
  unfold Linear.f
  rw [h1]
  rfl
theorem step_none_off {k : Nat} {p : List S40} {e e' : S128} (h : e'.f1 = e.f1) (h4 : e'.f4 = e.f4) (h3 : 0 ≤ e'.f3 ↔ 0 ≤ e.f3) : stepE k p e' = stepE k p e := by
  unfold stepE
  rw [h, h4]
  by_cases h0 : 0 ≤ e.f3
  · simp only [if_pos h0, if_pos (h3.2 h0)]
  · simp only [if_neg h0, if_neg (fun hh => h0 (h3.1 hh))]
end Go.Proofs.Ytkoiffkonjpoiaa.Y
