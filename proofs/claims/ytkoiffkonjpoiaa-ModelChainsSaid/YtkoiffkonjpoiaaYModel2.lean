/- Plain lemmas on the model: what an operation answers, of the pairs that it looks at. No memory in it. -/
import Derived.Test.YtkoiffkonjpoiaaYModel
import Derived.Test.YtkoiffkonjpoiaaYLeaf2
import Derived.Test.YtkoiffkonjpoiaaXTypes
namespace Go.Proofs.Ytkoiffkonjpoiaa.Y
open Go.RowKit Go.Proofs.Ytkoiffkonjpoiaa.Q Go.Proofs.YtkoiffkonjpoiaaW.PrintWords Go.Proofs.YtkoiffkonjpoiaaW.PrintLast Go.Proofs.YtkoiffkonjpoiaaW.PrintMore
set_option linter.unusedVariables false
theorem mem_putL {l : List S40} {k v : Int} {p : S40} (h : p ∈ putL l k v) : p ∈ l ∨ p = ⟨k, v⟩ := by
  unfold putL at h
  rcases List.mem_append.1 h with h | h
  · exact .inl (mem_lo h).1
  · rcases List.mem_cons.1 h with h | h
    · exact .inr h
    · exact .inl (mem_hi h).1
theorem rising_wf : ∀ (raw : List Int) (i : Int) (acc : List S40), (∀ y ∈ raw, X.wf y) → (∀ p ∈ acc, X.wf p.f0) → ∀ p ∈ risingL raw i acc, X.wf p.f0
  | [], i, acc, _, ha, p, hp => ha p hp
  | y :: raw, i, acc, hr, ha, p, hp => by
    simp only [risingL] at hp
    refine rising_wf raw _ _ (fun z hz => hr z (List.mem_cons_of_mem _ hz)) (fun q hq => ?_) p hp
    rcases mem_putL hq with hq | hq
    · exact ha q hq
    · rw [hq]; exact hr y List.mem_cons_self
theorem oneR_left (A B : List S40) (i : Int) (h : i < (A.length : Int)) : oneR (A ++ B) i = oneR A i := by
  unfold oneR
  by_cases h0 : 0 ≤ i
  · rw [if_pos h0, if_pos h0, List.getElem?_append_left (by omega)]
  · rw [if_neg h0, if_neg h0]
theorem oneR_right (A B : List S40) (i : Int) (h : i = (A.length : Int)) : oneR (A ++ B) i = oneR B 0 := by
  unfold oneR
  rw [if_pos (by omega), if_pos (by omega), List.getElem?_append_right (by omega)]
  have : i.toNat - A.length = (0 : Int).toNat := by omega
  rw [this]
theorem span_app (k : Nat) (L : List S40) (a b c d x y : Int) (h : model_Op_Span.f k a b c d = some (x, y, true)) (hl : L.length < 1000) (hk : 1000 ≤ k) :
    model_Apply.f k L a b c d = some (L, (ofR a b (L.filter (fun p => decide (x ≤ p.f0 ∧ p.f0 ≤ y)))).1, (ofR a b (L.filter (fun p => decide (x ≤ p.f0 ∧ p.f0 ≤ y)))).2.1, (ofR a b (L.filter (fun p => decide (x ≤ p.f0 ∧ p.f0 ≤ y)))).2.2.1, (ofR a b (L.filter (fun p => decide (x ≤ p.f0 ∧ p.f0 ≤ y)))).2.2.2.1, (ofR a b (L.filter (fun p => decide (x ≤ p.f0 ∧ p.f0 ≤ y)))).2.2.2.2.1, (ofR a b (L.filter (fun p => decide (x ≤ p.f0 ∧ p.f0 ≤ y)))).2.2.2.2.2) := by
  have hf := List.length_filter_le (fun p : S40 => decide (x ≤ p.f0 ∧ p.f0 ≤ y)) L
  unfold model_Apply.f
  rw [h, Option.bind_some]
  dsimp only
  rw [if_pos rfl, clone_f _ (by omega), Option.bind_some, LBetween_f _ _ _ _ hl hk, Option.bind_some]
  unfold model_Op_Of.f
  rw [if_pos (by omega), Option.bind_some]
theorem filter_all {L : List S40} {f : S40 → Bool} (h : ∀ p ∈ L, f p = true) : L.filter f = L := List.filter_eq_self.2 h
theorem filter_nil {L : List S40} {f : S40 → Bool} (h : ∀ p ∈ L, f p = false) : L.filter f = [] := List.filter_eq_nil_iff.2 (fun p hp => by rw [h p hp]; simp)
theorem fl_le {L : List S40} (b : Int) (hw : ∀ p ∈ L, -9223372036854775808 ≤ p.f0) :
    L.filter (fun p => decide (-9223372036854775808 ≤ p.f0 ∧ p.f0 ≤ b)) = L.filter (fun p => decide (p.f0 ≤ b)) := by
  refine List.filter_congr (fun p hp => ?_)
  have := hw p hp
  exact decide_eq_decide.2 ⟨fun h => h.2, fun h => ⟨this, h⟩⟩
theorem fl_ge {L : List S40} (b : Int) (hw : ∀ p ∈ L, p.f0 ≤ 9223372036854775807) :
    L.filter (fun p => decide (b ≤ p.f0 ∧ p.f0 ≤ 9223372036854775807)) = L.filter (fun p => decide (b ≤ p.f0)) := by
  refine List.filter_congr (fun p hp => ?_)
  have := hw p hp
  exact decide_eq_decide.2 ⟨fun h => h.1, fun h => ⟨h, this⟩⟩
theorem le_has {L : List S40} {b v : Int} (hv : L = lo L b ++ ⟨b, v⟩ :: hi L b) : L.filter (fun p => decide (p.f0 ≤ b)) = lo L b ++ [⟨b, v⟩] := by
  conv => lhs; rw [hv]
  rw [List.filter_append, filter_all (fun p hp => decide_eq_true (by have := (mem_lo hp).2; omega)), List.filter_cons_of_pos (by simp), filter_nil (L := hi L b) (fun p hp => decide_eq_false (by have := (mem_hi hp).2; omega))]
theorem le_not {L : List S40} {b : Int} (hv : L = lo L b ++ hi L b) : L.filter (fun p => decide (p.f0 ≤ b)) = lo L b := by
  conv => lhs; rw [hv]
  rw [List.filter_append, filter_all (fun p hp => decide_eq_true (by have := (mem_lo hp).2; omega)), filter_nil (L := hi L b) (fun p hp => decide_eq_false (by have := (mem_hi hp).2; omega)), List.append_nil]
theorem ge_has {L : List S40} {b v : Int} (hv : L = lo L b ++ ⟨b, v⟩ :: hi L b) : L.filter (fun p => decide (b ≤ p.f0)) = ⟨b, v⟩ :: hi L b := by
  conv => lhs; rw [hv]
  rw [List.filter_append, filter_nil (L := lo L b) (fun p hp => decide_eq_false (by have := (mem_lo hp).2; omega)), List.filter_cons_of_pos (by simp), filter_all (L := hi L b) (fun p hp => decide_eq_true (by have := (mem_hi hp).2; omega)), List.nil_append]
theorem ge_not {L : List S40} {b : Int} (hv : L = lo L b ++ hi L b) : L.filter (fun p => decide (b ≤ p.f0)) = hi L b := by
  conv => lhs; rw [hv]
  rw [List.filter_append, filter_nil (L := lo L b) (fun p hp => decide_eq_false (by have := (mem_lo hp).2; omega)), filter_all (L := hi L b) (fun p hp => decide_eq_true (by have := (mem_hi hp).2; omega)), List.nil_append]
theorem one_floor {L A H : List S40} {q : S40} (hv : L = A ++ q :: H) : oneR (A ++ [q]) (((A ++ [q]).length : Int) - 1) = oneR L (A.length : Int) := by
  subst hv
  have e1 : (((A ++ [q]).length : Int) - 1) = (A.length : Int) := by simp
  have e2 : A ++ q :: H = (A ++ [q]) ++ H := by simp
  rw [e1, e2]
  exact (oneR_left (A ++ [q]) H _ (by simp; omega)).symm
theorem one_floor2 {L A H : List S40} (hv : L = A ++ H) : oneR A ((A.length : Int) - 1) = oneR L ((A.length : Int) - 1) := by
  subst hv
  rw [oneR_left _ _ _ (by omega)]
theorem one_ceil {L A H : List S40} (hv : L = A ++ H) : oneR H 0 = oneR L (A.length : Int) := by
  subst hv
  exact (oneR_right A H _ rfl).symm
end Go.Proofs.Ytkoiffkonjpoiaa.Y
