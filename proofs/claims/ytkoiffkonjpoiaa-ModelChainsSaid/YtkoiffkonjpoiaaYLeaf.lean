/- More plain lemmas on lists of pairs whose keys rise, and what the leaf's functions come to as plain Lean functions. No memory in it. -/
import Derived.Test.YtkoiffkonjpoiaaQA1
import Derived.Test.YtkoiffkonjpoiaaQA2
import Derived.Test.YtkoiffkonjpoiaaQA3
import Derived.Test.YtkoiffkonjpoiaaQA4
import Derived.Test.YtkoiffkonjpoiaaYLeaf0
namespace Go.Proofs.Ytkoiffkonjpoiaa.Y
open Go.RowKit Go.Proofs.Ytkoiffkonjpoiaa.Q Go.Proofs.YtkoiffkonjpoiaaW.PrintWords
set_option linter.unusedVariables false
set_option linter.unusedSimpArgs false

/-- Where a key is; -1: nowhere. -/
def findI (l : List S40) (k : Int) (i : Int) : Int := match l with
  | [] => -1
  | p :: r => if p.f0 = k then i else findI r k (i + 1)
theorem Find_l0 (x : Int) : ∀ (rest pre : List S40) (k : Nat), rest.length < k → (pre ++ rest).length < 1000000 →
    boscagelaw02_Find.l0 k x (pre ++ rest) ((pre ++ rest).length : Int) (pre.length : Int) = some (findI rest x (pre.length : Int))
  | [], pre, k, hk, hn => by
    obtain ⟨k, rfl⟩ : ∃ m, k = m + 1 := ⟨k - 1, by omega⟩
    simp only [boscagelaw02_Find.l0]
    rw [if_neg (by simp)]
    rfl
  | p :: rest, pre, k, hk, hn => by
    obtain ⟨k, rfl⟩ : ∃ m, k = m + 1 := ⟨k - 1, by omega⟩
    simp only [List.length_append, List.length_cons] at hk hn
    simp only [boscagelaw02_Find.l0]
    rw [if_pos (by simp; omega), if_pos (by omega), if_pos (by simp; omega), rd_mid]
    simp only [findI]
    by_cases h : p.f0 = x
    · rw [if_pos h, if_pos h]
    · rw [if_neg h, if_neg h, wrap_succ _ (by omega)]
      have e1 : ((pre.length + 1 : Nat) : Int) = ((pre ++ [p]).length : Int) := by simp
      have e2 : pre ++ p :: rest = (pre ++ [p]) ++ rest := by simp
      rw [e1, e2, Find_l0 x rest (pre ++ [p]) k (by omega) (by simp; omega)]
      simp
theorem Find_f (l : List S40) (x : Int) (k : Nat) (hl : l.length < 1000) (hk : 1000 ≤ k) : boscagelaw02_Find.f k l x = some (findI l x 0) := by
  have := Find_l0 x l [] k (by omega) (by simp; omega)
  simpa [boscagelaw02_Find.f] using this
theorem findI_app (A B : List S40) (k i : Int) (h : ∀ p ∈ A, p.f0 ≠ k) : findI (A ++ B) k i = findI B k (i + A.length) := by
  induction A generalizing i with
  | nil => simp
  | cons p A ih =>
    rw [List.cons_append]
    simp only [findI]
    rw [if_neg (h p List.mem_cons_self), ih _ (fun q hq => h q (List.mem_cons_of_mem _ hq)), List.length_cons]
    congr 1
    omega
theorem findI_none (B : List S40) (k i : Int) (h : ∀ p ∈ B, p.f0 ≠ k) : findI B k i = -1 := by
  have := findI_app B [] k i h
  rw [List.append_nil] at this
  exact this
theorem findI_srt {l : List S40} (hs : srt l) (k : Int) : findI l k 0 = if khas l k = true then (kcnt l k : Int) else -1 := by
  obtain ⟨hc, ⟨hk, v, hv⟩ | ⟨hk, hv⟩⟩ := view hs k
  · rw [if_pos hk, hc, hv]
    rw [findI_app _ _ _ _ (fun p hp => by have := (mem_lo hp).2; omega)]
    simp only [findI]
    have e : lo l k ++ ⟨k, v⟩ :: hi l k = l := hv.symm
    rw [e, if_pos trivial]
    omega
  · rw [if_neg (by rw [hk]; simp), hv]
    refine findI_none _ _ _ (fun p hp => ?_)
    rcases List.mem_append.1 hp with hp | hp
    · have := (mem_lo hp).2; omega
    · have := (mem_hi hp).2; omega

theorem Same_l0 : ∀ (r1 r2 p1 p2 : List S40) (k : Nat), r1.length < k → p1.length = p2.length → r1.length = r2.length → (p1 ++ r1).length < 1000000 →
    boscagelaw02_Same.l0 k (p1 ++ r1) (p2 ++ r2) ((p1 ++ r1).length : Int) (p1.length : Int) = some (decide (r1 = r2))
  | [], [], p1, p2, k, hk, hp, hr, hn => by
    obtain ⟨k, rfl⟩ : ∃ m, k = m + 1 := ⟨k - 1, by omega⟩
    simp only [boscagelaw02_Same.l0]
    rw [if_neg (by simp)]
    simp
  | [], _ :: _, _, _, _, _, _, hr, _ => by simp at hr
  | _ :: _, [], _, _, _, _, _, hr, _ => by simp at hr
  | a :: r1, b :: r2, p1, p2, k, hk, hp, hr, hn => by
    obtain ⟨k, rfl⟩ : ∃ m, k = m + 1 := ⟨k - 1, by omega⟩
    simp only [List.length_append, List.length_cons] at hk hn hr
    simp only [boscagelaw02_Same.l0]
    rw [if_pos (by simp; omega), if_pos (by omega), if_pos (by simp; omega), if_pos (by simp; omega), rd_mid, hp, rd_mid]
    by_cases h : a = b
    · subst h
      rw [if_neg (by simp), wrap_succ _ (by omega)]
      have e1 : ((p2.length + 1 : Nat) : Int) = ((p1 ++ [a]).length : Int) := by simp [hp]
      have e2 : p1 ++ a :: r1 = (p1 ++ [a]) ++ r1 := by simp
      have e3 : p2 ++ a :: r2 = (p2 ++ [a]) ++ r2 := by simp
      rw [e1, e2, e3, Same_l0 r1 r2 (p1 ++ [a]) (p2 ++ [a]) k (by omega) (by simp [hp]) (by omega) (by simp; omega)]
      simp
    · rw [if_pos]
      · simp [h]
      · have hne : a.f0 ≠ b.f0 ∨ a.f1 ≠ b.f1 := by
          rw [eq40] at h
          rcases Decidable.em (a.f0 = b.f0) with h1 | h1
          · exact .inr (fun h2 => h ⟨h1, h2⟩)
          · exact .inl h1
        rcases hne with h1 | h1 <;> simp [h1]
theorem Same_f (l o : List S40) (k : Nat) (hl : l.length < 1000) (hk : 1000 ≤ k) : boscagelaw02_Same.f k l o = some (decide (l = o)) := by
  unfold boscagelaw02_Same.f
  by_cases h : l.length = o.length
  · rw [if_pos (by omega)]
    have := Same_l0 l o [] [] k (by omega) rfl h (by simp; omega)
    simpa using this
  · rw [if_neg (by omega)]
    have : l ≠ o := fun e => h (by rw [e])
    simp [this]
theorem find_f {l : List S40} (hs : srt l) (hl : l.length < 1000) (k : Int) : leaf_Leaf_find.f l k = some ((kcnt l k : Int), khas l k) := by
  unfold leaf_Leaf_find.f; rw [if_pos ⟨hs, by omega⟩]
theorem clone_f (l : List S40) (hl : l.length < 1000000) : leaf_Pair_99.f l = some l := by
  unfold leaf_Pair_99.f; rw [if_pos (by omega)]
/-- A key's value. -/
def valL (l : List S40) (k : Int) : Int := if khas l k = true then (rd_T40 l (kcnt l k : Int)).f1 else 0
theorem Get_f {l : List S40} (hs : srt l) (hl : l.length < 1000) (k : Int) : leaf_Leaf_Get.f l k = some (valL l k, khas l k) := by
  unfold leaf_Leaf_Get.f valL
  rw [find_f hs hl]
  simp only [Option.bind_some]
  obtain ⟨hc, ⟨hk, v, hv⟩ | ⟨hk, hv⟩⟩ := view hs k
  · have hlt : kcnt l k < l.length := by
      have := congrArg List.length hv; simp at this; omega
    rw [hk]
    simp only [if_true]
    rw [if_pos (by omega), if_pos (by omega)]
  · rw [hk]; simp
theorem put_same {l : List S40} (hs : srt l) (k v : Int) (w : Int) (hv : l = lo l k ++ ⟨k, w⟩ :: hi l k) : l.set (kcnt l k) ⟨k, v⟩ = putL l k v := by
  have hc := (view hs k).1
  rw [hc]
  unfold putL
  conv => lhs; rw [hv]
  have e : (lo (lo l k ++ ⟨k, w⟩ :: hi l k) k) = lo l k := by rw [← hv]
  rw [e]
  simp
theorem LPut_f {l : List S40} (hs : srt l) (hl : l.length < 1000) (k v : Int) : leaf_Leaf_Put.f l k v = some (putL l k v, valL l k, khas l k) := by
  unfold leaf_Leaf_Put.f valL
  rw [find_f hs hl, clone_f l (by omega)]
  simp only [Option.bind_some]
  obtain ⟨hc, ⟨hk, w, hv⟩ | ⟨hk, hv⟩⟩ := view hs k
  · have hlt : kcnt l k < l.length := by
      have := congrArg List.length hv; simp at this; omega
    rw [hk]
    simp only [if_true]
    rw [if_pos (by omega), if_pos (by omega), if_pos (by omega)]
    have e : rd_T40 l (kcnt l k : Int) = ⟨k, w⟩ := by
      rw [hc]; conv => lhs; arg 1; rw [hv]
      exact rd_mid _ _ _
    rw [e, Int.toNat_natCast, put_same hs k v w hv]
  · rw [hk]
    rw [if_neg (by simp)]
    unfold leaf_Pair_109.f
    have hle := kcnt_le l k
    rw [if_pos ⟨by omega, by omega, by simp; omega⟩]
    simp only [Option.bind_some, Int.toNat_natCast]
    have e1 : l.take (kcnt l k) = lo l k := by
      rw [hc]; conv => lhs; rw [hv]
      have e : (lo (lo l k ++ hi l k) k) = lo l k := by rw [← hv]
      rw [e]
      exact List.take_left
    have e2 : l.drop (kcnt l k) = hi l k := by
      rw [hc]; conv => lhs; rw [hv]
      have e : (lo (lo l k ++ hi l k) k) = lo l k := by rw [← hv]
      rw [e]
      exact List.drop_left
    rw [e1, e2]
    simp [putL]
theorem LCut_f {l : List S40} (hs : srt l) (hl : l.length < 1000) (k : Int) : leaf_Leaf_Cut.f l k = some (cutL l k, valL l k, khas l k) := by
  unfold leaf_Leaf_Cut.f valL
  rw [find_f hs hl, clone_f l (by omega)]
  simp only [Option.bind_some]
  obtain ⟨hc, ⟨hk, w, hv⟩ | ⟨hk, hv⟩⟩ := view hs k
  · have hlt : kcnt l k < l.length := by
      have := congrArg List.length hv; simp at this; omega
    rw [hk]
    simp only [if_true]
    rw [wrap_succ _ (by omega)]
    unfold leaf_Pair_108.f
    rw [if_pos ⟨by omega, by omega, by omega⟩]
    simp only [Option.bind_some, Int.toNat_natCast]
    rw [if_pos (by omega), if_pos (by omega)]
    have e1 : l.take (kcnt l k) = lo l k := by
      rw [hc]; conv => lhs; rw [hv]
      have e : (lo (lo l k ++ ⟨k, w⟩ :: hi l k) k) = lo l k := by rw [← hv]
      rw [e]
      exact List.take_left
    have e2 : l.drop (kcnt l k + 1) = hi l k := by
      rw [hc]; conv => lhs; rw [hv]
      have e : (lo (lo l k ++ ⟨k, w⟩ :: hi l k) k) = lo l k := by rw [← hv]
      rw [e, ← List.drop_drop, List.drop_left]
      rfl
    rw [e1, e2]
    rfl
  · rw [hk]
    rw [if_neg (by simp)]
    have e : cutL l k = l := hv.symm
    rw [e]
    simp
theorem Cut_l0 (a : Int) : ∀ (rest pre acc : List S40) (k : Nat), rest.length < k → (pre ++ rest).length < 1000000 → acc.length + rest.length < 1000000 →
    boscagelaw02_Cut.l0 k a acc (pre ++ rest) ((pre ++ rest).length : Int) (pre.length : Int) = some (acc ++ rest.filter (fun p => decide (p.f0 ≠ a)))
  | [], pre, acc, k, hk, hn, ha => by
    obtain ⟨k, rfl⟩ : ∃ m, k = m + 1 := ⟨k - 1, by omega⟩
    simp only [boscagelaw02_Cut.l0]
    rw [if_neg (by simp)]
    simp
  | p :: rest, pre, acc, k, hk, hn, ha => by
    obtain ⟨k, rfl⟩ : ∃ m, k = m + 1 := ⟨k - 1, by omega⟩
    simp only [List.length_append, List.length_cons] at hk hn ha
    have ih := fun acc' h => Cut_l0 a rest (pre ++ [p]) acc' k (by omega) (by simp; omega) h
    simp only [boscagelaw02_Cut.l0]
    rw [if_pos (by simp; omega), if_pos (by omega), if_pos (by simp; omega), rd_mid, wrap_succ _ (by omega)]
    have e1 : ((pre.length + 1 : Nat) : Int) = ((pre ++ [p]).length : Int) := by simp
    have e2 : pre ++ p :: rest = (pre ++ [p]) ++ rest := by simp
    rw [e1, e2]
    by_cases h : p.f0 = a
    · rw [if_pos h, ih acc (by omega), List.filter_cons_of_neg (by simpa using h)]
    · rw [if_neg h, if_pos (by omega), ih _ (by simp; omega), List.filter_cons_of_pos (by simpa using h), eta40]
      simp
theorem filter_ne {l : List S40} (hs : srt l) (k : Int) : l.filter (fun p => decide (p.f0 ≠ k)) = cutL l k := by
  unfold cutL
  have h1 : (lo l k).filter (fun p => decide (p.f0 ≠ k)) = lo l k := List.filter_eq_self.2 (fun q hq => by have := (mem_lo hq).2; simp; omega)
  have h2 : (hi l k).filter (fun p => decide (p.f0 ≠ k)) = hi l k := List.filter_eq_self.2 (fun q hq => by have := (mem_hi hq).2; simp; omega)
  obtain ⟨hc, ⟨hk, v, hv⟩ | ⟨hk, hv⟩⟩ := view hs k
  · conv => lhs; rw [hv]
    rw [List.filter_append, List.filter_cons_of_neg (by simp), h1, h2]
  · conv => lhs; rw [hv]
    rw [List.filter_append, h1, h2]
theorem Cut_f {l : List S40} (hs : srt l) (a : Int) (k : Nat) (hl : l.length < 1000) (hk : 1000 ≤ k) : boscagelaw02_Cut.f k l a = some (cutL l a) := by
  have := Cut_l0 a l [] [] k (by omega) (by simp; omega) (by simp; omega)
  rw [filter_ne hs] at this
  simpa [boscagelaw02_Cut.f] using this

end Go.Proofs.Ytkoiffkonjpoiaa.Y
