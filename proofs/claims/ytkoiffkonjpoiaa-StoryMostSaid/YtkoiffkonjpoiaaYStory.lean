/- The search for an order, without a program in sight: events as a list; what becomes of legal orders where one more is put in, where some are wider, where all stand one behind the other. No condition. -/
import Derived.Test.YtkoiffkonjpoiaaYSearch
namespace Go.Proofs.Ytkoiffkonjpoiaa.Srch
section
set_option linter.unusedSectionVars false
set_option linter.unusedSimpArgs false
/-- An event: whether it must be in an order, whether it may be; when it began, when it ended; what becomes of the map. -/
structure Ev (P : Type) where
  must : Bool
  may : Bool
  beg : Int
  fin : Int
  step : P → Option P
variable {P : Type}
def mustAt (h : List (Ev P)) (i : Nat) : Bool := match h[i]? with | some e => e.must | none => false
def mayAt (h : List (Ev P)) (i : Nat) : Bool := match h[i]? with | some e => e.may | none => false
def beforeAt (h : List (Ev P)) (i j : Nat) : Bool := match h[i]?, h[j]? with | some e, some f => e.must && decide (e.fin < f.beg) | _, _ => false
def stepAt (h : List (Ev P)) (p : P) (i : Nat) : Option P := match h[i]? with | some e => e.step p | none => none
def sto (h : List (Ev P)) : St P where
  n := h.length
  must := mustAt h
  may := mayAt h
  before := beforeAt h
  step := stepAt h
  bm i j hb := by
    unfold beforeAt at hb
    unfold mustAt
    split at hb
    · rename_i e f h1 h2
      rw [h1]
      simp only [Bool.and_eq_true] at hb
      exact hb.1
    · cases hb
def sh (m i : Nat) : Nat := if i < m then i else i + 1
variable {h : List (Ev P)} {m : Nat} {e : Ev P}
theorem sorted_range : ∀ (n : Nat) (l : List Nat), l.Pairwise (· < ·) → (∀ i, i ∈ l ↔ i < n) → l = List.range n := by
  intro n l hs hm
  have hp : l.Perm (List.range n) := by
    refine (List.perm_ext_iff_of_nodup ?_ List.nodup_range).2 (fun i => by rw [hm, List.mem_range])
    exact hs.imp (fun h => Nat.ne_of_lt h)
  refine List.Perm.eq_of_pairwise (le := (· < ·)) (fun a b _ _ h1 h2 => absurd (Nat.lt_trans h1 h2) (Nat.lt_irrefl _)) hs List.pairwise_lt_range hp
theorem legal_seq {S : St P} (hb : ∀ i j, i < j → j < S.n → S.before i j = true) (hmu : ∀ i, i < S.n → S.must i = true) {p : P} {so : List Nat} (h : Legal S p so) : so = List.range S.n := by
  obtain ⟨⟨a, b, c, d⟩, w⟩ := h
  refine sorted_range S.n so ?_ (fun i => ⟨fun hi => (b i hi).1, fun hi => w i hi (hmu i hi)⟩)
  have : so.Pairwise (fun j i => (i ∈ so ∧ j ∈ so) ∧ j ≠ i ∧ S.before i j = false) := by
    refine List.Pairwise.imp_of_mem ?_ (List.pairwise_and_iff.2 ⟨a, c⟩)
    intro j i hj hi ⟨h1, h2⟩
    exact ⟨⟨hi, hj⟩, h1, h2⟩
  refine this.imp (fun {j i} ⟨⟨hi, hj⟩, hne, hbf⟩ => ?_)
  rcases Nat.lt_or_ge j i with h | h
  · exact h
  · have hlt : i < j := by omega
    rw [hb i j hlt (b j hj).1] at hbf
    cases hbf
theorem legal_seq_ok {S : St P} (hb : ∀ i j, j < i → S.before i j = false) (hmay : ∀ i, i < S.n → S.may i = true) {p : P} (hc : (chain S p (List.range S.n)).isSome = true) : Legal S p (List.range S.n) :=
  ⟨⟨List.nodup_range, fun i hi => ⟨List.mem_range.1 hi, hmay i (List.mem_range.1 hi)⟩, List.pairwise_lt_range.imp (fun {j i} h => hb i j h), hc⟩, fun i hi _ => List.mem_range.2 hi⟩
end
end Go.Proofs.Ytkoiffkonjpoiaa.Srch
