/- The statement ModelChains as plain Lean: what it computes is true for every input. No condition beyond the arguments' own bounds. -/
import Derived.Test.YtkoiffkonjpoiaaQLModelChains
import Derived.Test.YtkoiffkonjpoiaaYModel2
namespace Go.Proofs.Ytkoiffkonjpoiaa.Pure
open Go.RowKit Go.Proofs.Ytkoiffkonjpoiaa.Q Go.Proofs.YtkoiffkonjpoiaaW.PrintWords Go.Proofs.YtkoiffkonjpoiaaW.PrintLast Go.Proofs.Ytkoiffkonjpoiaa.Y
theorem upMC {α : Type} {f : Nat → Option α} (mono : ∀ k, LeO (f k) (f (k + 1))) {k m : Nat} {r : α} (h : k ≤ m) (e : f k = some r) : f m = some r := by
  induction h with
  | refl => exact e
  | step _ ih => exact mono _ r ih
theorem below_l0 (x : Int) : ∀ (rest pre : List S40) (acc : Nat) (k : Nat), rest.length < k → (pre ++ rest).length < 1000000 → acc + rest.length < 1000000 →
    boscagelaw18_below.l0 k x (acc : Int) (pre ++ rest) ((pre ++ rest).length : Int) (pre.length : Int) = some ((acc + (lo rest x).length : Nat) : Int)
  | [], pre, acc, k, hk, hn, ha => by
    obtain ⟨k, rfl⟩ : ∃ m, k = m + 1 := ⟨k - 1, by omega⟩
    simp only [boscagelaw18_below.l0]
    rw [if_neg (by simp)]
    simp [lo]
  | p :: rest, pre, acc, k, hk, hn, ha => by
    obtain ⟨k, rfl⟩ : ∃ m, k = m + 1 := ⟨k - 1, by omega⟩
    simp only [List.length_append, List.length_cons] at hk hn ha
    simp only [boscagelaw18_below.l0]
    have e1 : ((pre.length + 1 : Nat) : Int) = ((pre ++ [p]).length : Int) := by simp
    have e2 : pre ++ p :: rest = (pre ++ [p]) ++ rest := by simp
    rw [if_pos (by simp; omega), if_pos (by omega), if_pos (by simp; omega), rd_mid, wrap_succ acc (by omega), wrap_succ pre.length (by omega), e1, e2]
    by_cases h : p.f0 < x
    · rw [if_pos h, below_l0 x rest (pre ++ [p]) (acc + 1) k (by omega) (by simp; omega) (by omega)]
      congr 2
      unfold lo
      rw [List.filter_cons_of_pos (by simp [h]), List.length_cons]
      omega
    · rw [if_neg h, below_l0 x rest (pre ++ [p]) acc k (by omega) (by simp; omega) (by omega)]
      congr 2
      unfold lo
      rw [List.filter_cons_of_neg (by simp [h])]
theorem below_f (l : List S40) (x : Int) (k : Nat) (hl : l.length < 1000) (hk : 1000 ≤ k) : boscagelaw18_below.f k l x = some ((lo l x).length : Int) := by
  have := below_l0 x l [] 0 k (by omega) (by simp; omega) (by omega)
  simpa [boscagelaw18_below.f] using this
theorem pick_f (l : List S40) (i : Int) : boscagelaw18_pick.f l i = some (0, (oneR l i).1, (oneR l i).2.1, (oneR l i).2.2, [], false) := by
  unfold boscagelaw18_pick.f oneR
  by_cases h0 : i < 0
  · rw [if_pos h0]; simp [show ¬ (0 ≤ i) by omega]
  · by_cases h1 : i ≥ (l.length : Int)
    · rw [if_neg h0, if_pos h1, if_pos (by omega), List.getElem?_eq_none (by omega)]
    · have hi : i.toNat < l.length := by omega
      rw [if_neg h0, if_neg h1, if_pos (by omega), if_pos (by omega), if_pos (by omega), List.getElem?_eq_getElem hi]
      have e : rd_T40 l i = l[i.toNat] := by simp [rd_T40, hi]
      rw [e]
theorem ASame_f (k : Nat) (a0 : Int) (a1 : Bool) (a2 a3 : Int) (l : List S40) (a5 : Bool) (b5 : Bool) (hl : l.length < 1000) (hk : 1000 ≤ k) :
    boscagelaw18_Same.f k a0 a1 a2 a3 l a5 a0 a1 a2 a3 l b5 = some true := by
  unfold boscagelaw18_Same.f
  rw [if_pos rfl, if_pos (by simp), if_pos rfl, if_pos rfl, Same_f _ _ _ hl hk, Option.bind_some, decide_eq_true rfl]
theorem law_app (k : Nat) {L : List S40} (hs : srt L) (a b c d : Int) (hl : L.length < 1000) (hk : 1000 ≤ k) :
    boscagelaw18_Apply.f k L a b c d = boscagelaw18_Apply.j0 k L (if khas L b = true then (kcnt L b : Int) else -1) a b c d 0 (khas L b) 0 (valL L b) false := by
  unfold boscagelaw18_Apply.f
  rw [Find_f _ _ _ hl hk, Option.bind_some, findI_srt hs]
  obtain ⟨hc, ⟨hk2, v, hv⟩ | ⟨hk2, hv⟩⟩ := view hs b
  · have hlt : kcnt L b < L.length := by rw [hc]; conv => rhs; rw [hv]
                                         simp
    rw [hk2, if_pos rfl, if_pos (by omega), if_pos (by omega), if_pos (by omega)]
    unfold valL
    rw [hk2, if_pos rfl]
  · rw [hk2]
    simp only [Bool.false_eq_true, if_false]
    rw [if_neg (by omega)]
    unfold valL
    rw [hk2]
    simp only [Bool.false_eq_true, if_false]
theorem lo_le (L : List S40) (b : Int) : (lo L b).length ≤ L.length := List.length_filter_le _ _
theorem cut_len {L : List S40} (hs : srt L) (b : Int) : (cutL L b).length ≤ L.length := by
  obtain ⟨hc, ⟨hh, v, hv⟩ | ⟨hh, hv⟩⟩ := view hs b
  · have h := congrArg List.length hv
    simp only [List.length_append, List.length_cons] at h
    unfold cutL
    rw [List.length_append]
    omega
  · have h := congrArg List.length hv
    simp only [List.length_append] at h
    unfold cutL
    rw [List.length_append]
    omega
/-- Both maps do alike: the same pairs, the same answer; the pairs rise again. -/
def MCR (m : Nat) (L : List S40) (a b c d : Int) : Prop := ∃ (l' : List S40) (r1 : Int) (r2 : Bool) (r3 r4 : Int) (q : List S40) (t : Bool), model_Apply.f m L a b c d = some (l', r1, r2, r3, r4, q, false) ∧ boscagelaw18_Apply.f m L a b c d = some (l', r1, r2, r3, r4, q, t) ∧ srt l' ∧ (∀ p ∈ l', X.wf p.f0) ∧ l'.length ≤ L.length + 1 ∧ q.length ≤ L.length
theorem MC_tail (m : Nat) (L : List S40) (hs : srt L) (hw : ∀ p ∈ L, X.wf p.f0) (a b c d : Int) (hb : X.wf b) (l' : List S40) (r1 : Int) (r2 : Bool) (r3 r4 : Int) (q : List S40) (t : Bool)
    (h1 : model_Apply.f m L a b c d = some (l', r1, r2, r3, r4, q, false)) (h2 : boscagelaw18_Apply.f m L a b c d = some (l', r1, r2, r3, r4, q, t)) (hl' : l' = L ∨ l' = putL L b d ∨ l' = cutL L b) (hq : q.length ≤ L.length) : MCR m L a b c d := by
  refine ⟨l', r1, r2, r3, r4, q, t, h1, h2, ?_, fun p hp => ?_, ?_, hq⟩
  · rcases hl' with rfl | rfl | rfl
    · exact hs
    · exact srt_put hs _ _
    · exact srt_cut hs _
  · rcases hl' with rfl | rfl | rfl
    · exact hw p hp
    · rcases mem_putL hp with h | rfl
      · exact hw p h
      · exact hb
    · unfold cutL at hp
      rcases List.mem_append.1 hp with h | h
      · exact hw p (mem_lo h).1
      · exact hw p (mem_hi h).1
  · have := putL_length hs b d
    have := cut_len hs b
    rcases hl' with rfl | rfl | rfl <;> omega
set_option maxRecDepth 4000 in
theorem MC_cases (m : Nat) (L : List S40) (hs : srt L) (hl : L.length < 900) (a b c d : Int) (hm : 6000 ≤ m) (hwk : ∀ p ∈ L, X.wf p.f0) (hwb : X.wf b) : MCR (m + 1) L a b c d := by
  have hb := wf_bounds hwb
  have hlaw := fun a => law_app (m + 1) hs a b c d (by omega) (by omega)
  have hlow : ∀ p ∈ L, -9223372036854775808 ≤ p.f0 := fun p hp => (wf_bounds (hwk p hp)).1
  have hup : ∀ p ∈ L, p.f0 ≤ 9223372036854775807 := fun p hp => (wf_bounds (hwk p hp)).2
  have hlo := lo_le L b
  have hput := putL_length hs b d
  have hcut := cut_len hs b
  have hbel := below_f L b m (by omega) (by omega)
  have tail := fun a => MC_tail (m + 1) L hs hwk a b c d hwb
  by_cases h0 : a = 0
  · subst h0
    have hsp : model_Op_Span.f (m + 1) 0 b c d = some (0, 0, false) := by simp [model_Op_Span.f, model_Op_Span.j0]
    refine tail 0 L 0 (khas L b) 0 (valL L b) [] false ?_ ?_ (by first | exact .inl rfl | exact .inr (.inl rfl) | exact .inr (.inr rfl)) (by first | simp | omega)
    · unfold model_Apply.f
      rw [hsp, Option.bind_some]
      dsimp only
      rw [if_neg (by simp), if_pos rfl, Get_f hs (by omega), Option.bind_some, clone_f _ (by omega), Option.bind_some]
    · rw [hlaw 0]
      simp only [boscagelaw18_Apply.j0]
      rw [hbel, Option.bind_some, if_pos trivial]
  by_cases h1 : a = 1
  · subst h1
    have hsp : model_Op_Span.f (m + 1) 1 b c d = some (0, 0, false) := by simp [model_Op_Span.f, model_Op_Span.j0]
    refine tail 1 (putL L b d) 0 (khas L b) 0 (valL L b) [] false ?_ ?_ (by first | exact .inl rfl | exact .inr (.inl rfl) | exact .inr (.inr rfl)) (by first | simp | omega)
    · unfold model_Apply.f
      rw [hsp, Option.bind_some]
      dsimp only
      rw [if_neg (by simp), if_neg (by decide), if_pos rfl, LPut_f hs (by omega), Option.bind_some]
    · rw [hlaw 1]
      simp only [boscagelaw18_Apply.j0]
      rw [hbel, Option.bind_some, if_neg (by decide), if_pos trivial, Put_f hs _ _ _ (by omega) (by omega), Option.bind_some]
  by_cases h2 : a = 2
  · subst h2
    have hsp : model_Op_Span.f (m + 1) 2 b c d = some (0, 0, false) := by simp [model_Op_Span.f, model_Op_Span.j0]
    by_cases hh : khas L b = true
    · refine tail 2 L 0 true 0 (valL L b) [] false ?_ ?_ (by first | exact .inl rfl | exact .inr (.inl rfl) | exact .inr (.inr rfl)) (by first | simp | omega)
      · unfold model_Apply.f
        rw [hsp, Option.bind_some]
        dsimp only
        rw [if_neg (by simp), if_neg (by decide), if_neg (by decide), if_pos rfl, Get_f hs (by omega), Option.bind_some]
        dsimp only
        rw [if_pos hh, clone_f _ (by omega), Option.bind_some]
      · rw [hlaw 2, if_pos hh, hh]
        simp only [boscagelaw18_Apply.j0]
        rw [hbel, Option.bind_some, if_neg (by decide), if_neg (by decide), if_pos trivial, if_pos (by omega)]
    · have hf : khas L b = false := by simpa using hh
      have hv0 : valL L b = 0 := by unfold valL; rw [if_neg hh]
      refine tail 2 (putL L b d) 0 false 0 0 [] false ?_ ?_ (by first | exact .inl rfl | exact .inr (.inl rfl) | exact .inr (.inr rfl)) (by first | simp | omega)
      · unfold model_Apply.f
        rw [hsp, Option.bind_some]
        dsimp only
        rw [if_neg (by simp), if_neg (by decide), if_neg (by decide), if_pos rfl, Get_f hs (by omega), Option.bind_some]
        dsimp only
        rw [if_neg hh, LPut_f hs (by omega), Option.bind_some]
      · rw [hlaw 2, if_neg hh, hf, hv0]
        simp only [boscagelaw18_Apply.j0]
        rw [hbel, Option.bind_some, if_neg (by decide), if_neg (by decide), if_pos trivial, if_neg (by omega), Put_f hs _ _ _ (by omega) (by omega), Option.bind_some]
  by_cases h3 : a = 3
  · subst h3
    have hsp : model_Op_Span.f (m + 1) 3 b c d = some (0, 0, false) := by simp [model_Op_Span.f, model_Op_Span.j0]
    refine tail 3 (cutL L b) 0 (khas L b) 0 (valL L b) [] false ?_ ?_ (by first | exact .inl rfl | exact .inr (.inl rfl) | exact .inr (.inr rfl)) (by first | simp | omega)
    · unfold model_Apply.f
      rw [hsp, Option.bind_some]
      dsimp only
      rw [if_neg (by simp), if_neg (by decide), if_neg (by decide), if_neg (by decide), if_pos rfl, LCut_f hs (by omega), Option.bind_some]
    · rw [hlaw 3]
      simp only [boscagelaw18_Apply.j0]
      rw [hbel, Option.bind_some, if_neg (by decide), if_neg (by decide), if_neg (by decide), if_pos trivial, Cut_f hs _ _ (by omega) (by omega), Option.bind_some]
  by_cases h4 : a = 4
  · subst h4
    have hsp : model_Op_Span.f (m + 1) 4 b c d = some (-9223372036854775808, b, true) := by simp [model_Op_Span.f]
    have hap := span_app (m + 1) L 4 b c d _ _ hsp (by omega) (by omega)
    rw [fl_le b hlow] at hap
    obtain ⟨hc, ⟨hh, v, hv⟩ | ⟨hh, hv⟩⟩ := view hs b
    · rw [le_has hv] at hap
      have e := one_floor hv
      refine tail 4 L 0 _ _ _ [] false hap ?_ (.inl rfl) (by first | (simp; done) | omega)
      rw [hlaw 4, hh, if_pos rfl]
      simp only [boscagelaw18_Apply.j0]
      have ew : wrap64 (wrap64 (((lo L b).length : Int) + 1) - 1) = ((lo L b).length : Int) := by unfold wrap64; omega
      rw [hbel, Option.bind_some, if_neg (by decide), if_neg (by decide), if_neg (by decide), if_neg (by decide), if_pos trivial, if_pos (by omega), ew, pick_f, Option.bind_some, ← e]
      rfl
    · rw [le_not hv] at hap
      have e := one_floor2 hv
      refine tail 4 L 0 _ _ _ [] false hap ?_ (.inl rfl) (by first | (simp; done) | omega)
      rw [hlaw 4, hh, if_neg (by simp)]
      simp only [boscagelaw18_Apply.j0]
      have ew : wrap64 (((lo L b).length : Int) - 1) = ((lo L b).length : Int) - 1 := by unfold wrap64; omega
      rw [hbel, Option.bind_some, if_neg (by decide), if_neg (by decide), if_neg (by decide), if_neg (by decide), if_pos trivial, if_neg (by omega), ew, pick_f, Option.bind_some, ← e]
      rfl
  by_cases h5 : a = 5
  · subst h5
    have hsp : model_Op_Span.f (m + 1) 5 b c d = some (b, 9223372036854775807, true) := by simp [model_Op_Span.f]
    have hap := span_app (m + 1) L 5 b c d _ _ hsp (by omega) (by omega)
    rw [fl_ge b hup] at hap
    have e : oneR (L.filter (fun p => decide (b ≤ p.f0))) 0 = oneR L ((lo L b).length : Int) := by
      obtain ⟨hc, ⟨hh, v, hv⟩ | ⟨hh, hv⟩⟩ := view hs b
      · rw [ge_has hv]
        exact one_ceil hv
      · rw [ge_not hv]
        exact one_ceil hv
    refine tail 5 L 0 _ _ _ [] false hap ?_ (.inl rfl) (by first | (simp; done) | omega)
    rw [hlaw 5]
    simp only [boscagelaw18_Apply.j0]
    rw [hbel, Option.bind_some, if_neg (by decide), if_neg (by decide), if_neg (by decide), if_neg (by decide), if_neg (by decide), if_pos trivial, pick_f, Option.bind_some, ← e]
    rfl
  have hall : L.filter (fun p => decide (-9223372036854775808 ≤ p.f0 ∧ p.f0 ≤ 9223372036854775807)) = L := filter_all (fun p hp => decide_eq_true ⟨hlow p hp, hup p hp⟩)
  by_cases h6 : a = 6
  · subst h6
    have hsp : model_Op_Span.f (m + 1) 6 b c d = some (-9223372036854775808, 9223372036854775807, true) := by simp [model_Op_Span.f, model_Op_Span.j0]
    have hap := span_app (m + 1) L 6 b c d _ _ hsp (by omega) (by omega)
    rw [hall] at hap
    refine tail 6 L 0 _ _ _ [] false hap ?_ (.inl rfl) (by first | (simp; done) | omega)
    rw [hlaw 6]
    simp only [boscagelaw18_Apply.j0]
    rw [hbel, Option.bind_some, if_neg (by decide), if_neg (by decide), if_neg (by decide), if_neg (by decide), if_neg (by decide), if_neg (by decide), if_pos trivial, pick_f, Option.bind_some]
    rfl
  by_cases h7 : a = 7
  · subst h7
    have hsp : model_Op_Span.f (m + 1) 7 b c d = some (-9223372036854775808, 9223372036854775807, true) := by simp [model_Op_Span.f, model_Op_Span.j0]
    have hap := span_app (m + 1) L 7 b c d _ _ hsp (by omega) (by omega)
    rw [hall] at hap
    refine tail 7 L 0 _ _ _ [] false hap ?_ (.inl rfl) (by first | (simp; done) | omega)
    rw [hlaw 7]
    simp only [boscagelaw18_Apply.j0]
    have ew : wrap64 ((L.length : Int) - 1) = (L.length : Int) - 1 := by unfold wrap64; omega
    rw [hbel, Option.bind_some, if_neg (by decide), if_neg (by decide), if_neg (by decide), if_neg (by decide), if_neg (by decide), if_neg (by decide), if_neg (by decide), if_pos trivial, ew, pick_f, Option.bind_some]
    rfl
  by_cases h8 : a = 8
  · subst h8
    have hfin : ∀ x y, model_Op_Span.f (m + 1) 8 b c d = some (x, y, true) → L.filter (fun p => decide (x ≤ p.f0 ∧ p.f0 ≤ y)) = lo L b → MCR (m + 1) L 8 b c d := by
      intro x y hsp hfl
      have hap := span_app (m + 1) L 8 b c d _ _ hsp (by omega) (by omega)
      rw [hfl] at hap
      refine tail 8 L 0 _ _ _ [] false hap ?_ (.inl rfl) (by first | (simp; done) | omega)
      rw [hlaw 8]
      simp only [boscagelaw18_Apply.j0]
      rw [hbel, Option.bind_some, if_neg (by decide), if_neg (by decide), if_neg (by decide), if_neg (by decide), if_neg (by decide), if_neg (by decide), if_neg (by decide), if_neg (by decide), if_pos trivial]
      rfl
    by_cases hz : b = -9223372036854775808
    · refine hfin 1 0 (by simp [model_Op_Span.f, model_Op_Span.j0, hz]) ?_
      rw [filter_nil (fun p hp => decide_eq_false (by omega))]
      exact (filter_nil (fun p hp => decide_eq_false (by have := hlow p hp; omega))).symm
    · have hw : wrap64 (b - 1) = b - 1 := by unfold wrap64; omega
      refine hfin (-9223372036854775808) (b - 1) (by simp [model_Op_Span.f, model_Op_Span.j0, hz, hw]) ?_
      refine List.filter_congr (fun p hp => decide_eq_decide.2 ?_)
      have := hlow p hp
      omega
  by_cases h9 : a = 9
  · subst h9
    have hsp : model_Op_Span.f (m + 1) 9 b c d = some (-9223372036854775808, 9223372036854775807, true) := by simp [model_Op_Span.f, model_Op_Span.j0]
    have hap := span_app (m + 1) L 9 b c d _ _ hsp (by omega) (by omega)
    rw [hall] at hap
    refine tail 9 L 0 _ _ _ [] false hap ?_ (.inl rfl) (by first | (simp; done) | omega)
    rw [hlaw 9]
    simp only [boscagelaw18_Apply.j0]
    rw [hbel, Option.bind_some, if_neg (by decide), if_neg (by decide), if_neg (by decide), if_neg (by decide), if_neg (by decide), if_neg (by decide), if_neg (by decide), if_neg (by decide), if_neg (by decide), if_pos trivial]
    have ho : ∀ i : Int, (i < 0 ∨ i ≥ (L.length : Int)) → oneR L i = (false, 0, 0) := by
      intro i hi
      unfold oneR
      by_cases h0 : 0 ≤ i
      · rw [if_pos h0, List.getElem?_eq_none (by omega)]
      · rw [if_neg h0]
    have hof : ofR 9 b L = (0, (oneR L b).1, (oneR L b).2.1, (oneR L b).2.2, [], false) := rfl
    rw [hof]
    by_cases hz : b < 0
    · rw [if_pos hz, ho b (.inl hz)]
    · by_cases hy : b ≥ (L.length : Int)
      · rw [if_neg hz, if_pos hy, ho b (.inr hy)]
      · rw [if_neg hz, if_neg hy, pick_f, Option.bind_some]
  by_cases h10 : a = 10
  · subst h10
    have hsp : model_Op_Span.f (m + 1) 10 b c d = some (b, c, true) := by simp [model_Op_Span.f, model_Op_Span.j0]
    have hap := span_app (m + 1) L 10 b c d _ _ hsp (by omega) (by omega)
    have hf := List.length_filter_le (fun p : S40 => decide (b ≤ p.f0 ∧ p.f0 ≤ c)) L
    refine tail 10 L 0 _ _ _ [] false hap ?_ (.inl rfl) (by first | (simp; done) | omega)
    rw [hlaw 10]
    simp only [boscagelaw18_Apply.j0]
    rw [hbel, Option.bind_some, if_neg (by decide), if_neg (by decide), if_neg (by decide), if_neg (by decide), if_neg (by decide), if_neg (by decide), if_neg (by decide), if_neg (by decide), if_neg (by decide), if_neg (by decide), if_pos trivial, Between_f _ _ _ _ (by omega) (by omega), Option.bind_some]
    rfl
  by_cases h11 : a = 11
  · subst h11
    have hsp : model_Op_Span.f (m + 1) 11 b c d = some (b, c, true) := by simp [model_Op_Span.f, model_Op_Span.j0]
    have hap := span_app (m + 1) L 11 b c d _ _ hsp (by omega) (by omega)
    have hf := List.length_filter_le (fun p : S40 => decide (b ≤ p.f0 ∧ p.f0 ≤ c)) L
    refine tail 11 L 0 _ _ _ (L.filter (fun p => decide (b ≤ p.f0 ∧ p.f0 ≤ c))) false hap ?_ (.inl rfl) (by first | (simp; done) | omega)
    rw [hlaw 11]
    simp only [boscagelaw18_Apply.j0]
    rw [hbel, Option.bind_some, if_neg (by decide), if_neg (by decide), if_neg (by decide), if_neg (by decide), if_neg (by decide), if_neg (by decide), if_neg (by decide), if_neg (by decide), if_neg (by decide), if_neg (by decide), if_neg (by decide), if_pos trivial, Between_f _ _ _ _ (by omega) (by omega), Option.bind_some]
    rfl
  have hsp : model_Op_Span.f (m + 1) a b c d = some (0, 0, false) := by simp [model_Op_Span.f, model_Op_Span.j0, h4, h5, h6, h7, h8, h9, h10, h11]
  refine tail a L 10 false 0 0 [] false ?_ ?_ (by first | exact .inl rfl | exact .inr (.inl rfl) | exact .inr (.inr rfl)) (by first | simp | omega)
  · unfold model_Apply.f
    rw [hsp, Option.bind_some]
    dsimp only
    rw [if_neg (by simp), if_neg h0, if_neg h1, if_neg h2, if_neg h3, clone_f _ (by omega), Option.bind_some]
  · rw [hlaw a]
    simp only [boscagelaw18_Apply.j0]
    rw [hbel, Option.bind_some, if_neg h0, if_neg h1, if_neg h2, if_neg h3, if_neg h4, if_neg h5, if_neg h6, if_neg h7, if_neg h8, if_neg h9, if_neg h10, if_neg h11]
theorem MC_go (m : Nat) (hm : 6000 ≤ m) : ∀ (os : List S78) (L : List S40), srt L → L.length + os.length < 900 → (∀ p ∈ L, X.wf p.f0) → (∀ o ∈ os, X.ok78 o) → ModelChains.go (m + 1) L L os = some true
  | [], _, _, _, _, _ => rfl
  | o :: os, L, hs, hl, hw, ho => by
    rw [List.length_cons] at hl
    obtain ⟨l', r1, r2, r3, r4, q, t, h1, h2, hs', hw', hl', hq⟩ := MC_cases m L hs (by omega) o.f0 o.f1 o.f2 o.f3 hm hw (ho o List.mem_cons_self).2.1
    simp only [ModelChains.go]
    rw [h1, Option.bind_some, h2, Option.bind_some]
    dsimp only
    rw [ASame_f _ _ _ _ _ _ _ _ (by omega) (by omega), Option.bind_some, Same_f _ _ _ (by omega) (by omega), Option.bind_some, decide_eq_true rfl, if_pos ⟨rfl, rfl⟩]
    exact MC_go m hm os l' hs' (by omega) hw' (fun p hp => ho p (List.mem_cons_of_mem _ hp))
theorem ModelChains (l0 : List Int) (l1 : List S78) (_y0 : l0.length ≤ 9223372036854775807) (w0 : ∀ y ∈ l0, X.wf y) (_y1 : l1.length ≤ 9223372036854775807) (w1 : ∀ y ∈ l1, X.ok78 y) : ∃ k, boscagelaw18_ModelChains.f k l0 l1 = some true := by
  obtain ⟨m, hm⟩ : ∃ m, m = 6000 := ⟨_, rfl⟩
  refine ⟨m + 1, ?_⟩
  unfold boscagelaw18_ModelChains.f
  rw [upMC boscagelaw18_Awake.mono (by omega) Awake18, Option.bind_some, if_pos rfl]
  by_cases hl : 30 < (l0.length : Int) ∨ 40 < (l1.length : Int)
  · rw [if_pos hl]
  · have hn := rise_length l0
    rw [if_neg hl, Rising_f l0 (m + 1) (by omega) (by omega), Option.bind_some]
    exact MC_go m (by omega) l1 _ (srt_rise l0) (by omega) (rising_wf l0 0 [] w0 (by simp)) w1
end Go.Proofs.Ytkoiffkonjpoiaa.Pure
