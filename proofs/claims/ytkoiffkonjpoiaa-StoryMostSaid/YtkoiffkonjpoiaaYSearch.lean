/- The search for an order, without a program in sight: a search that goes on from what is done finds the first order that is legal, or there is none. No condition. -/
namespace Go.Proofs.Ytkoiffkonjpoiaa.Srch
/-- A story: how many events, which must be in an order, which may be, which must stand ahead of which, and what becomes of the map by one of them. -/
structure St (P : Type) where
  n : Nat
  must : Nat → Bool
  may : Nat → Bool
  before : Nat → Nat → Bool
  step : P → Nat → Option P
  bm : ∀ i j, before i j = true → must i = true
section
set_option linter.unusedSectionVars false
set_option linter.unusedSimpArgs false
variable {P : Type} (S : St P)
def allIn (D : Nat) : Bool := (List.range S.n).all fun i => !S.must i || D.testBit i
def cand (D i : Nat) : Bool := !D.testBit i && S.may i && (List.range S.n).all fun k => D.testBit k || k == i || !S.before k i
def srch : Nat → Nat → P → Option (List Nat)
  | 0, _, _ => none
  | f + 1, D, p => if allIn S D = true then some [] else (List.range S.n).findSome? fun i => if cand S D i = true then (S.step p i).bind fun q => (srch f (D ||| 1 <<< i) q).map (i :: ·) else none
def mask : List Nat → Nat
  | [] => 0
  | i :: r => (1 <<< i) ||| mask r
theorem testBit_mask (so : List Nat) (k : Nat) : (mask so).testBit k = decide (k ∈ so) := by
  induction so with
  | nil => simp [mask]
  | cons i r ih =>
    rw [mask, Nat.testBit_or, ih]
    by_cases h : k = i
    · subst h; simp
    · have h2 : ¬ i = k := fun e => h e.symm
      simp [Nat.one_shiftLeft, Nat.testBit_two_pow, h2, h]
theorem mask_snoc (so : List Nat) (i : Nat) : mask (so ++ [i]) = mask so ||| 1 <<< i := by
  refine Nat.eq_of_testBit_eq fun k => ?_
  rw [Nat.testBit_or, testBit_mask, testBit_mask]
  by_cases h : k = i
  · subst h; simp
  · have h2 : ¬ i = k := fun e => h e.symm
    simp [Nat.one_shiftLeft, Nat.testBit_two_pow, h2, h]
def chain : P → List Nat → Option P
  | p, [] => some p
  | p, i :: r => (S.step p i).bind fun q => chain q r
theorem chain_append (p : P) (a b : List Nat) : chain S p (a ++ b) = (chain S p a).bind fun q => chain S q b := by
  induction a generalizing p with
  | nil => rfl
  | cons i r ih =>
    simp only [List.cons_append, chain]
    cases S.step p i with
    | none => rfl
    | some q => simpa using ih q
def Fits (p : P) (so : List Nat) : Prop := so.Nodup ∧ (∀ i ∈ so, i < S.n ∧ S.may i = true) ∧ so.Pairwise (fun j i => S.before i j = false) ∧ (chain S p so).isSome = true
def Whole (so : List Nat) : Prop := ∀ i, i < S.n → S.must i = true → i ∈ so
def Legal (p : P) (so : List Nat) : Prop := Fits S p so ∧ Whole S so
/-- Nothing that is not in it yet must stand ahead of what is in it. -/
def Open (so : List Nat) : Prop := ∀ j ∈ so, ∀ k, k < S.n → k ∉ so → S.before k j = false
def LegalFrom : Nat → P → List Nat → Prop
  | D, _, [] => allIn S D = true
  | D, p, i :: r => cand S D i = true ∧ i < S.n ∧ ∃ q, S.step p i = some q ∧ LegalFrom (D ||| 1 <<< i) q r
theorem allIn_mask (so : List Nat) : allIn S (mask so) = true ↔ Whole S so := by
  simp only [allIn, Whole, List.all_eq_true, List.mem_range, Bool.or_eq_true, Bool.not_eq_true', testBit_mask, decide_eq_true_eq]
  constructor
  · intro h i hi hm
    rcases h i hi with h | h
    · rw [hm] at h; cases h
    · exact h
  · intro h i hi
    cases hm : S.must i with
    | false => exact .inl rfl
    | true => exact .inr (h i hi hm)
theorem cand_mask (so : List Nat) (i : Nat) : cand S (mask so) i = true ↔ i ∉ so ∧ S.may i = true ∧ ∀ k, k < S.n → k ∉ so → k ≠ i → S.before k i = false := by
  simp only [cand, Bool.and_eq_true, Bool.not_eq_true', List.all_eq_true, List.mem_range, Bool.or_eq_true, testBit_mask, decide_eq_true_eq, decide_eq_false_iff_not, beq_iff_eq, and_assoc]
  refine and_congr_right fun _ => and_congr_right fun _ => forall_congr' fun k => forall_congr' fun hk => ?_
  constructor
  · rintro ((h | h) | h) hn hne
    · exact absurd h hn
    · exact absurd h hne
    · exact h
  · intro h
    by_cases h1 : k ∈ so
    · exact .inl (.inl h1)
    by_cases h2 : k = i
    · exact .inl (.inr h2)
    exact .inr (h h1 h2)
theorem fits_snoc {p q : P} {so : List Nat} (hF : Fits S p so) (hO : Open S so) (hc : chain S p so = some q) (i : Nat) :
    Fits S p (so ++ [i]) ↔ i ∉ so ∧ i < S.n ∧ S.may i = true ∧ (S.step q i).isSome = true := by
  obtain ⟨h1, h2, h3, h4⟩ := hF
  constructor
  · rintro ⟨g1, g2, g3, g4⟩
    have hi := g2 i (by simp)
    refine ⟨fun hm => ?_, hi.1, hi.2, ?_⟩
    · have := (List.nodup_append.1 g1).2.2 i hm i (by simp)
      exact this rfl
    · rw [chain_append, hc] at g4
      simp only [Option.bind_some, chain] at g4
      cases hs : S.step q i with
      | none => rw [hs] at g4; cases g4
      | some r => rfl
  · rintro ⟨g1, g2, g3, g4⟩
    refine ⟨?_, ?_, ?_, ?_⟩
    · refine List.nodup_append.2 ⟨h1, by simp, fun a ha b hb => ?_⟩
      obtain rfl : b = i := by simpa using hb
      exact fun e => g1 (e ▸ ha)
    · intro j hj
      rcases List.mem_append.1 hj with hj | hj
      · exact h2 j hj
      · obtain rfl : j = i := by simpa using hj
        exact ⟨g2, g3⟩
    · refine List.pairwise_append.2 ⟨h3, by simp, fun j hj b hb => ?_⟩
      obtain rfl : b = i := by simpa using hb
      exact hO j hj b g2 g1
    · rw [chain_append, hc]
      simp only [Option.bind_some, chain]
      cases hs : S.step q i with
      | none => rw [hs] at g4; cases g4
      | some r => rfl
theorem chain_snoc {p q r : P} {so : List Nat} {i : Nat} (hc : chain S p so = some q) (hs : S.step q i = some r) : chain S p (so ++ [i]) = some r := by
  rw [chain_append, hc]
  simp [chain, hs]
theorem open_snoc {so : List Nat} (hO : Open S so) {i : Nat} (hi : ∀ k, k < S.n → k ∉ so → k ≠ i → S.before k i = false) : Open S (so ++ [i]) := by
  intro j hj k hk hn
  have hk1 : k ∉ so := fun h => hn (by simp [h])
  have hk2 : k ≠ i := fun h => hn (by simp [h])
  rcases List.mem_append.1 hj with hj | hj
  · exact hO j hj k hk hk1
  · obtain rfl : j = i := by simpa using hj
    exact hi k hk hk1 hk2
/-- What is legal and begins so is found on the way that the search goes, and back. -/
theorem legalFrom_iff (p0 : P) : ∀ (so pre : List Nat) (p : P), Fits S p0 pre → Open S pre → chain S p0 pre = some p → (LegalFrom S (mask pre) p so ↔ Legal S p0 (pre ++ so))
  | [], pre, p, hF, hO, hc => by
    simp only [LegalFrom, List.append_nil, Legal]
    rw [allIn_mask]
    exact ⟨fun h => ⟨hF, h⟩, fun h => h.2⟩
  | i :: so, pre, p, hF, hO, hc => by
    have e : pre ++ i :: so = (pre ++ [i]) ++ so := by simp
    simp only [LegalFrom]
    rw [e, cand_mask]
    constructor
    · rintro ⟨⟨g1, g2, g3⟩, hi, q, hq, hL⟩
      rw [← mask_snoc] at hL
      exact (legalFrom_iff p0 so (pre ++ [i]) q ((fits_snoc S hF hO hc i).2 ⟨g1, hi, g2, by rw [hq]; rfl⟩) (open_snoc S hO g3) (chain_snoc S hc hq)).1 hL
    · intro hL
      have hFi : Fits S p0 (pre ++ [i]) := by
        obtain ⟨⟨a1, a2, a3, a4⟩, _⟩ := hL
        refine ⟨(List.nodup_append.1 a1).1, fun j hj => a2 j (List.mem_append_left _ hj), (List.pairwise_append.1 a3).1, ?_⟩
        rw [chain_append] at a4
        cases hx : chain S p0 (pre ++ [i]) with
        | none => rw [hx] at a4; cases a4
        | some _ => rfl
      obtain ⟨g1, hi, g2, g4⟩ := (fits_snoc S hF hO hc i).1 hFi
      obtain ⟨q, hq⟩ := Option.isSome_iff_exists.1 g4
      have g3 : ∀ k, k < S.n → k ∉ pre → k ≠ i → S.before k i = false := by
        intro k hk hn hne
        cases hb : S.before k i with
        | false => rfl
        | true =>
          have hin := hL.2 k hk (S.bm _ _ hb)
          have hin2 : k ∈ so := by
            rcases List.mem_append.1 hin with h | h
            · rcases List.mem_append.1 h with h | h
              · exact absurd h hn
              · exact absurd (by simpa using h) hne
            · exact h
          have := (List.pairwise_append.1 hL.1.2.2.1).2.2 i (by simp) k hin2
          rw [hb] at this
          cases this
      refine ⟨⟨g1, g2, g3⟩, hi, q, hq, ?_⟩
      rw [← mask_snoc]
      exact (legalFrom_iff p0 so (pre ++ [i]) q hFi (open_snoc S hO g3) (chain_snoc S hc hq)).2 hL
theorem srch_sound : ∀ (f D : Nat) (p : P) (so : List Nat), srch S f D p = some so → LegalFrom S D p so
  | 0, D, p, so, h => by cases h
  | f + 1, D, p, so, h => by
    simp only [srch] at h
    split at h
    · rename_i ha
      cases h
      exact ha
    · obtain ⟨i, hi, h⟩ := List.exists_of_findSome?_eq_some h
      split at h
      · rename_i hcnd
        obtain ⟨q, hq, h⟩ := Option.bind_eq_some_iff.1 h
        obtain ⟨r, hr, rfl⟩ := Option.map_eq_some_iff.1 h
        exact ⟨hcnd, List.mem_range.1 hi, q, hq, srch_sound f _ q r hr⟩
      · cases h
theorem srch_complete : ∀ (f : Nat) (so : List Nat) (D : Nat) (p : P), LegalFrom S D p so → so.length < f → (srch S f D p).isSome = true
  | 0, _, _, _, _, h => by omega
  | f + 1, so, D, p, h, hl => by
    simp only [srch]
    split
    · rfl
    · rename_i hna
      cases so with
      | nil => exact absurd h hna
      | cons i r =>
        obtain ⟨hcnd, hi, q, hq, hL⟩ := h
        rw [List.findSome?_isSome_iff]
        refine ⟨i, List.mem_range.2 hi, ?_⟩
        rw [if_pos hcnd, hq]
        simp only [Option.bind_some, Option.isSome_map]
        exact srch_complete f r _ q hL (by simp only [List.length_cons] at hl; omega)
theorem fits_nil (p : P) : Fits S p [] := ⟨List.nodup_nil, fun _ h => by simp at h, List.Pairwise.nil, rfl⟩
theorem open_nil : Open S [] := fun _ h => by simp at h
theorem legalFrom_nil (p : P) (so : List Nat) : LegalFrom S 0 p so ↔ Legal S p so := by
  have := legalFrom_iff S p so [] p (fits_nil S p) (open_nil S) rfl
  simpa [mask] using this
theorem srch_legal {f : Nat} {p : P} {so : List Nat} (h : srch S f 0 p = some so) : Legal S p so := (legalFrom_nil S p so).1 (srch_sound S f 0 p so h)
theorem nodup_length : ∀ (n : Nat) (l : List Nat), l.Nodup → (∀ i ∈ l, i < n) → l.length ≤ n
  | 0, l, _, h => by
    cases l with
    | nil => simp
    | cons a l => exact absurd (h a (by simp)) (by omega)
  | n + 1, l, hn, h => by
    have h1 : (l.filter (fun i => decide (i ≠ n))).length ≤ n := nodup_length n _ (hn.filter _) (fun i hi => by
      have := List.mem_filter.1 hi
      have h3 := h i this.1
      have h4 : i ≠ n := by simpa using this.2
      omega)
    have h2 : l.length ≤ (l.filter (fun i => decide (i ≠ n))).length + 1 := by
      clear h1 h
      induction l with
      | nil => simp
      | cons a l ih =>
        obtain ⟨ha, hl⟩ := List.nodup_cons.1 hn
        by_cases e : a = n
        · subst e
          have : l.filter (fun i => decide (i ≠ a)) = l := List.filter_eq_self.2 (fun b hb => by
            have : b ≠ a := fun e => ha (e ▸ hb)
            simpa using this)
          rw [List.filter_cons_of_neg (by simp), this]
          simp
        · rw [List.filter_cons_of_pos (by simpa using e)]
          simp only [List.length_cons]
          have := ih hl
          omega
    omega
theorem legal_length {p : P} {so : List Nat} (h : Fits S p so) : so.length ≤ S.n := nodup_length S.n so h.1 (fun i hi => (h.2.1 i hi).1)
theorem srch_iff {f : Nat} {p : P} (hf : S.n < f) : (srch S f 0 p).isSome = true ↔ ∃ so, Legal S p so := by
  constructor
  · intro h
    obtain ⟨so, hs⟩ := Option.isSome_iff_exists.1 h
    exact ⟨so, srch_legal S hs⟩
  · rintro ⟨so, h⟩
    exact srch_complete S f so 0 p ((legalFrom_nil S p so).2 h) (by have := legal_length S h.1; omega)

def first (fits whole : List Nat → Bool) (n : Nat) : Nat → List Nat → Option (List Nat)
  | 0, _ => none
  | f + 1, so => if fits so = true then if whole so = true then some so else (List.range n).findSome? fun i => first fits whole n f (so ++ [i]) else none
variable {fits whole : List Nat → Bool}
variable {K : Type} [DecidableEq K] (key : P → K) (st : P → Nat → Option (Option P))
def go (rec : Nat → P → List (Nat × K) → List Nat → Option (Bool × List (Nat × K) × List Nat)) (D : Nat) (p : P) : List Nat → List (Nat × K) → List Nat → Option (Bool × List (Nat × K) × List Nat)
  | [], seen, so => some (false, seen, so)
  | i :: r, seen, so =>
    if cand S D i = true then (st p i).bind fun
      | none => go rec D p r seen so
      | some q => (rec (D ||| 1 <<< i) q seen (so ++ [i])).bind fun x => if x.1 = true then some x else go rec D p r x.2.1 so
    else go rec D p r seen so
def find : Nat → Nat → P → List (Nat × K) → List Nat → Option (Bool × List (Nat × K) × List Nat)
  | 0, _, _, _, _ => none
  | f + 1, D, p, seen, so => if allIn S D = true then some (true, seen, so) else if (D, key p) ∈ seen then some (false, seen, so) else go S st (find f) D p (List.range S.n) ((D, key p) :: seen) so
theorem go_false {rec : Nat → P → List (Nat × K) → List Nat → Option (Bool × List (Nat × K) × List Nat)} {D : Nat} {p : P} : ∀ (is : List Nat) (seen : List (Nat × K)) (so : List Nat) (x : Bool × List (Nat × K) × List Nat), go S st rec D p is seen so = some x → x.1 = false → x.2.2 = so
  | [], seen, so, x, h, _ => by
    simp only [go] at h
    cases h
    rfl
  | i :: r, seen, so, x, h, hx => by
    simp only [go] at h
    split at h
    · obtain ⟨q, hq, h⟩ := Option.bind_eq_some_iff.1 h
      cases q with
      | none => exact go_false r _ _ x h hx
      | some q =>
        dsimp only at h
        obtain ⟨y, hy, h⟩ := Option.bind_eq_some_iff.1 h
        split at h
        · rename_i hy1
          cases h
          rw [hx] at hy1
          cases hy1
        · exact go_false r _ _ x h hx
    · exact go_false r _ _ x h hx
theorem find_false (f D : Nat) (p : P) (seen : List (Nat × K)) (so : List Nat) (x : Bool × List (Nat × K) × List Nat) (h : find S key st f D p seen so = some x) (hx : x.1 = false) : x.2.2 = so := by
  cases f with
  | zero => cases h
  | succ f =>
    simp only [find] at h
    split at h
    · cases h; cases hx
    · split at h
      · cases h; rfl
      · exact go_false S st _ _ _ x h hx
def None (D : Nat) (p : P) : Prop := ∀ so, ¬ LegalFrom S D p so
def rank (D : Nat) : Nat := ((List.range S.n).filter fun i => !D.testBit i).length
theorem testBit_or_one (D i k : Nat) : (D ||| 1 <<< i).testBit k = (D.testBit k || decide (k = i)) := by
  rw [Nat.testBit_or]
  by_cases h : k = i
  · subst h; simp [Nat.one_shiftLeft]
  · have h2 : ¬ i = k := fun e => h e.symm
    simp [Nat.one_shiftLeft, Nat.testBit_two_pow, h2, h]
theorem lt_or_one {D i : Nat} (h : D.testBit i = false) : D < D ||| 1 <<< i := by
  refine Nat.lt_of_le_of_ne Nat.left_le_or fun e => ?_
  have h2 := testBit_or_one D i i
  rw [← e, h] at h2
  simp at h2
theorem length_filter_lt {α : Type} (l : List α) (f g : α → Bool) (h : ∀ a ∈ l, g a = true → f a = true) (a : α) (ha : a ∈ l) (hf : f a = true) (hg : g a = false) : (l.filter g).length < (l.filter f).length := by
  induction l with
  | nil => simp at ha
  | cons b l ih =>
    have h1 : (l.filter g).length ≤ (l.filter f).length := by
      clear ih ha
      induction l with
      | nil => simp
      | cons c l ih2 =>
        have := ih2 (fun x hx => h x (by rcases List.mem_cons.1 hx with rfl | hx <;> simp_all))
        cases hgc : g c with
        | true =>
          rw [List.filter_cons_of_pos hgc, List.filter_cons_of_pos (h c (by simp) hgc)]
          simpa using this
        | false =>
          rw [List.filter_cons_of_neg (by simp [hgc])]
          refine Nat.le_trans this ?_
          cases hfc : f c with
          | true => rw [List.filter_cons_of_pos hfc]; simp
          | false => rw [List.filter_cons_of_neg (by simp [hfc])]; exact Nat.le_refl _
    rcases List.mem_cons.1 ha with rfl | ha
    · rw [List.filter_cons_of_neg (by simp [hg]), List.filter_cons_of_pos hf]
      simp only [List.length_cons]
      omega
    · have h2 := ih (fun x hx => h x (List.mem_cons_of_mem _ hx)) ha
      cases hgc : g b with
      | true =>
        rw [List.filter_cons_of_pos hgc, List.filter_cons_of_pos (h b (by simp) hgc)]
        simpa using h2
      | false =>
        rw [List.filter_cons_of_neg (by simp [hgc])]
        refine Nat.lt_of_lt_of_le h2 ?_
        cases hfc : f b with
        | true => rw [List.filter_cons_of_pos hfc]; simp
        | false => rw [List.filter_cons_of_neg (by simp [hfc])]; exact Nat.le_refl _
theorem rank_lt {D i : Nat} (hi : i < S.n) (h : D.testBit i = false) : rank S (D ||| 1 <<< i) < rank S D := by
  refine length_filter_lt _ _ _ (fun k _ hk => ?_) i (List.mem_range.2 hi) (by simp [h]) (by rw [testBit_or_one]; simp)
  rw [testBit_or_one] at hk
  simp only [Bool.not_or, Bool.and_eq_true] at hk
  exact hk.1
theorem rank_le (D : Nat) : rank S D ≤ S.n := by
  unfold rank
  exact Nat.le_trans (List.length_filter_le _ _) (by simp)
/-- What is remembered leads nowhere. -/
def Lost (Good : P → Prop) (x : Nat × K) : Prop := ∀ p, Good p → key p = x.2 → None S x.1 p
/-- What a search gives back: what is found first; or nothing, and there is nothing, and what is remembered leads nowhere. -/
def Res (Good : P → Prop) (f D : Nat) (p : P) (seen : List (Nat × K)) (so : List Nat) (r : Option (Bool × List (Nat × K) × List Nat)) : Prop :=
  ∃ b seen' so', r = some (b, seen', so') ∧ (b = true → ∃ t, srch S f D p = some t ∧ so' = so ++ t) ∧ (b = false → None S D p ∧ so' = so ∧ ∀ x ∈ seen', x ∈ seen ∨ Lost S key Good x)
theorem srch_none {f D : Nat} {p : P} (h : None S D p) : srch S f D p = none := by
  cases hs : srch S f D p with
  | none => rfl
  | some t => exact absurd (srch_sound S f D p t hs) (h t)
theorem find_spec (Inv : Nat → P → Prop) (Good : P → Prop) (hgood : ∀ f p, Inv f p → Good p) (hinj : ∀ p q, Good p → Good q → key p = key q → p = q) (hst : ∀ f p, Inv (f + 1) p → ∀ i, i < S.n → st p i = some (S.step p i) ∧ ∀ q, S.step p i = some q → Inv f q) :
    ∀ (f D : Nat) (p : P) (seen : List (Nat × K)) (so : List Nat), Inv f p → rank S D < f → (∀ x ∈ seen, x.1 < D ∨ Lost S key Good x) → Res S key Good f D p seen so (find S key st f D p seen so)
  | 0, _, _, _, _, _, h, _ => by omega
  | f + 1, D, p, seen, so, hI, hr, hs => by
    simp only [find]
    split
    · rename_i ha
      refine ⟨true, seen, so, rfl, fun _ => ⟨[], ?_, by simp⟩, fun h => by cases h⟩
      simp only [srch]
      rw [if_pos ha]
    · rename_i hna
      split
      · rename_i hm
        refine ⟨false, seen, so, rfl, fun h => by (cases h), fun _ => ⟨?_, rfl, fun x hx => .inl hx⟩⟩
        rcases hs _ hm with h | h
        · exact absurd h (Nat.lt_irrefl _)
        · exact h p (hgood _ _ hI) rfl
      · have loop : ∀ (is : List Nat) (sn : List (Nat × K)), (∀ i ∈ is, i < S.n) → (∀ x ∈ sn, x ∈ (D, key p) :: seen ∨ Lost S key Good x) →
            ∃ b sn' so', go S st (find S key st f) D p is sn so = some (b, sn', so') ∧ (b = true → ∃ t, (is.findSome? fun i => if cand S D i = true then (S.step p i).bind fun q => (srch S f (D ||| 1 <<< i) q).map (i :: ·) else none) = some t ∧ so' = so ++ t) ∧
              (b = false → (∀ i ∈ is, cand S D i = true → ∀ q, S.step p i = some q → None S (D ||| 1 <<< i) q) ∧ so' = so ∧ ∀ x ∈ sn', x ∈ (D, key p) :: seen ∨ Lost S key Good x) := by
          intro is
          induction is with
          | nil =>
            intro sn _ h
            exact ⟨false, sn, so, rfl, fun h => by (cases h), fun _ => ⟨fun i hi => by simp at hi, rfl, h⟩⟩
          | cons i r ih =>
            intro sn hin hsn
            have hi := hin i (by simp)
            have hin' : ∀ j ∈ r, j < S.n := fun j hj => hin j (List.mem_cons_of_mem _ hj)
            simp only [go]
            rw [List.findSome?_cons]
            by_cases hcd : cand S D i = true
            · rw [if_pos hcd, if_pos hcd, (hst f p hI i hi).1, Option.bind_some]
              have hbit : D.testBit i = false := by
                simp only [cand, Bool.and_eq_true, Bool.not_eq_true'] at hcd
                exact hcd.1.1
              cases hq : S.step p i with
              | none =>
                obtain ⟨b, sn', so', h1, h2, h3⟩ := ih sn hin' hsn
                refine ⟨b, sn', so', h1, fun hb => ?_, fun hb => ?_⟩
                · exact h2 hb
                · obtain ⟨g1, g2, g3⟩ := h3 hb
                  refine ⟨fun j hj hcj q' hq' => ?_, g2, g3⟩
                  rcases List.mem_cons.1 hj with rfl | hj
                  · rw [hq] at hq'; cases hq'
                  · exact g1 j hj hcj q' hq'
              | some q =>
                dsimp only
                have hlt := lt_or_one hbit
                obtain ⟨b, sn1, so1, h1, h2, h3⟩ := find_spec Inv Good hgood hinj hst f (D ||| 1 <<< i) q sn (so ++ [i]) ((hst f p hI i hi).2 q hq) (by have := rank_lt S hi hbit; omega) (fun x hx => by
                  rcases hsn x hx with h | h
                  · rcases List.mem_cons.1 h with rfl | h
                    · exact .inl hlt
                    · rcases hs x h with h | h
                      · exact .inl (Nat.lt_trans h hlt)
                      · exact .inr h
                  · exact .inr h)
                rw [h1, Option.bind_some, Option.bind_some]
                cases b with
                | true =>
                  obtain ⟨t, ht, rfl⟩ := h2 rfl
                  rw [if_pos rfl, ht]
                  exact ⟨true, sn1, _, rfl, fun _ => ⟨i :: t, rfl, by simp⟩, fun h => by cases h⟩
                | false =>
                  obtain ⟨g1, rfl, g3⟩ := h3 rfl
                  rw [if_neg (by simp), srch_none S g1]
                  obtain ⟨b, sn', so', k1, k2, k3⟩ := ih sn1 hin' (fun x hx => by
                    rcases g3 x hx with h | h
                    · exact hsn x h
                    · exact .inr h)
                  refine ⟨b, sn', so', k1, fun hb => ?_, fun hb => ?_⟩
                  · exact k2 hb
                  · obtain ⟨e1, e2, e3⟩ := k3 hb
                    refine ⟨fun j hj hcj q' hq' => ?_, e2, e3⟩
                    rcases List.mem_cons.1 hj with rfl | hj
                    · rw [hq] at hq'; cases hq'; exact g1
                    · exact e1 j hj hcj q' hq'
            · rw [if_neg hcd, if_neg hcd]
              obtain ⟨b, sn', so', h1, h2, h3⟩ := ih sn hin' hsn
              refine ⟨b, sn', so', h1, fun hb => ?_, fun hb => ?_⟩
              · exact h2 hb
              · obtain ⟨g1, g2, g3⟩ := h3 hb
                refine ⟨fun j hj hcj q' hq' => ?_, g2, g3⟩
                rcases List.mem_cons.1 hj with rfl | hj
                · exact absurd hcj hcd
                · exact g1 j hj hcj q' hq'
        obtain ⟨b, sn', so', h1, h2, h3⟩ := loop (List.range S.n) ((D, key p) :: seen) (fun i hi => List.mem_range.1 hi) (fun x hx => .inl hx)
        refine ⟨b, sn', so', h1, fun hb => ?_, fun hb => ?_⟩
        · obtain ⟨t, ht, e⟩ := h2 hb
          refine ⟨t, ?_, e⟩
          simp only [srch]
          rw [if_neg hna]
          exact ht
        · obtain ⟨g1, g2, g3⟩ := h3 hb
          have hN : None S D p := by
            intro t hL
            cases t with
            | nil => exact hna hL
            | cons i r =>
              obtain ⟨c1, c2, q, c3, c4⟩ := hL
              exact g1 i (List.mem_range.2 c2) c1 q c3 r c4
          refine ⟨hN, g2, fun x hx => ?_⟩
          rcases g3 x hx with h | h
          · rcases List.mem_cons.1 h with rfl | h
            · exact .inr (fun q hq he => hinj _ _ (hgood _ _ hI) hq he.symm ▸ hN)
            · exact .inl h
          · exact .inr h
/-- From the beginning: the first legal order, or there is none. -/
theorem find_top (Inv : Nat → P → Prop) (Good : P → Prop) (hgood : ∀ f p, Inv f p → Good p) (hinj : ∀ p q, Good p → Good q → key p = key q → p = q) (hst : ∀ f p, Inv (f + 1) p → ∀ i, i < S.n → st p i = some (S.step p i) ∧ ∀ q, S.step p i = some q → Inv f q) (f : Nat) (p : P) (hI : Inv f p) (hf : S.n < f) :
    ∃ b seen' so', find S key st f 0 p [] [] = some (b, seen', so') ∧ b = (srch S f 0 p).isSome ∧ (b = true → srch S f 0 p = some so') ∧ (b = false → so' = []) := by
  obtain ⟨b, seen', so', h1, h2, h3⟩ := find_spec S key st Inv Good hgood hinj hst f 0 p [] [] hI (Nat.lt_of_le_of_lt (rank_le S 0) hf) (fun x hx => by simp at hx)
  refine ⟨b, seen', so', h1, ?_, fun hb => ?_, fun hb => (h3 hb).2.1⟩
  · cases b with
    | true => obtain ⟨t, ht, _⟩ := h2 rfl; rw [ht]; rfl
    | false => rw [srch_none S (h3 rfl).1]; rfl
  · obtain ⟨t, ht, e⟩ := h2 hb
    rw [ht, e]
    simp
end
end Go.Proofs.Ytkoiffkonjpoiaa.Srch
