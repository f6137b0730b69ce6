/- The statement ModelApplies as plain Lean: what it computes is true for every input. No condition beyond the arguments' own bounds. -/
import Derived.Test.YtkoiffkonjpoiaaQLModelApplies
import Derived.Test.YtkoiffkonjpoiaaYModel
import Derived.Test.YtkoiffkonjpoiaaYLeaf2
import Derived.Test.YtkoiffkonjpoiaaXTypes
namespace Go.Proofs.Ytkoiffkonjpoiaa.Pure
open Go.RowKit Go.Proofs.Ytkoiffkonjpoiaa.Q Go.Proofs.YtkoiffkonjpoiaaW.PrintWords Go.Proofs.YtkoiffkonjpoiaaW.PrintLast Go.Proofs.Ytkoiffkonjpoiaa.Y
theorem up18 {α : Type} {f : Nat → Option α} (mono : ∀ k, LeO (f k) (f (k + 1))) {k m : Nat} {r : α} (h : k ≤ m) (e : f k = some r) : f m = some r := by
  induction h with
  | refl => exact e
  | step _ ih => exact mono _ r ih
theorem mem_putL {l : List S40} {k v : Int} {p : S40} (h : p ∈ putL l k v) : p ∈ l ∨ p = ⟨k, v⟩ := by
  unfold putL at h
  rcases List.mem_append.1 h with h | h
  · exact .inl (mem_lo h).1
  · rcases List.mem_cons.1 h with h | h
    · exact .inr h
    · exact .inl (mem_hi h).1
theorem rising_wf : ∀ (raw : List Int) (i : Int) (acc : List S40), (∀ y ∈ raw, X.wf y) → (∀ p ∈ acc, X.wf p.f0) → ∀ p ∈ risingL raw i acc, X.wf p.f0
  | [], i, acc, _, ha, p, hp => ha p hp
  | y :: raw, i, acc, hr, ha, p, hp => by
    simp only [risingL] at hp
    refine rising_wf raw _ _ (fun z hz => hr z (List.mem_cons_of_mem _ hz)) (fun q hq => ?_) p hp
    rcases mem_putL hq with hq | hq
    · exact ha q hq
    · rw [hq]; exact hr y List.mem_cons_self
theorem below_l0 (x : Int) : ∀ (rest pre : List S40) (acc : Nat) (k : Nat), rest.length < k → (pre ++ rest).length < 1000000 → acc + rest.length < 1000000 →
    boscagelaw18_below.l0 k x (acc : Int) (pre ++ rest) ((pre ++ rest).length : Int) (pre.length : Int) = some ((acc + (lo rest x).length : Nat) : Int)
  | [], pre, acc, k, hk, hn, ha => by
    obtain ⟨k, rfl⟩ : ∃ m, k = m + 1 := ⟨k - 1, by omega⟩
    simp only [boscagelaw18_below.l0]
    rw [if_neg (by simp)]
    simp [lo]
  | p :: rest, pre, acc, k, hk, hn, ha => by
    obtain ⟨k, rfl⟩ : ∃ m, k = m + 1 := ⟨k - 1, by omega⟩
    simp only [List.length_append, List.length_cons] at hk hn ha
    simp only [boscagelaw18_below.l0]
    have e1 : ((pre.length + 1 : Nat) : Int) = ((pre ++ [p]).length : Int) := by simp
    have e2 : pre ++ p :: rest = (pre ++ [p]) ++ rest := by simp
    rw [if_pos (by simp; omega), if_pos (by omega), if_pos (by simp; omega), rd_mid, wrap_succ acc (by omega), wrap_succ pre.length (by omega), e1, e2]
    by_cases h : p.f0 < x
    · rw [if_pos h, below_l0 x rest (pre ++ [p]) (acc + 1) k (by omega) (by simp; omega) (by omega)]
      congr 2
      unfold lo
      rw [List.filter_cons_of_pos (by simp [h]), List.length_cons]
      omega
    · rw [if_neg h, below_l0 x rest (pre ++ [p]) acc k (by omega) (by simp; omega) (by omega)]
      congr 2
      unfold lo
      rw [List.filter_cons_of_neg (by simp [h])]
theorem below_f (l : List S40) (x : Int) (k : Nat) (hl : l.length < 1000) (hk : 1000 ≤ k) : boscagelaw18_below.f k l x = some ((lo l x).length : Int) := by
  have := below_l0 x l [] 0 k (by omega) (by simp; omega) (by omega)
  simpa [boscagelaw18_below.f] using this
theorem pick_f (l : List S40) (i : Int) : boscagelaw18_pick.f l i = some (0, (oneR l i).1, (oneR l i).2.1, (oneR l i).2.2, [], false) := by
  unfold boscagelaw18_pick.f oneR
  by_cases h0 : i < 0
  · rw [if_pos h0]; simp [show ¬ (0 ≤ i) by omega]
  · by_cases h1 : i ≥ (l.length : Int)
    · rw [if_neg h0, if_pos h1, if_pos (by omega), List.getElem?_eq_none (by omega)]
    · have hi : i.toNat < l.length := by omega
      rw [if_neg h0, if_neg h1, if_pos (by omega), if_pos (by omega), if_pos (by omega), List.getElem?_eq_getElem hi]
      have e : rd_T40 l i = l[i.toNat] := by simp [rd_T40, hi]
      rw [e]
theorem oneR_left (A B : List S40) (i : Int) (h : i < (A.length : Int)) : oneR (A ++ B) i = oneR A i := by
  unfold oneR
  by_cases h0 : 0 ≤ i
  · rw [if_pos h0, if_pos h0, List.getElem?_append_left (by omega)]
  · rw [if_neg h0, if_neg h0]
theorem oneR_right (A B : List S40) (i : Int) (h : i = (A.length : Int)) : oneR (A ++ B) i = oneR B 0 := by
  unfold oneR
  rw [if_pos (by omega), if_pos (by omega), List.getElem?_append_right (by omega)]
  have : i.toNat - A.length = (0 : Int).toNat := by omega
  rw [this]
theorem ASame_f (k : Nat) (a0 : Int) (a1 : Bool) (a2 a3 : Int) (l : List S40) (a5 : Bool) (b5 : Bool) (hl : l.length < 1000) (hk : 1000 ≤ k) :
    boscagelaw18_Same.f k a0 a1 a2 a3 l a5 a0 a1 a2 a3 l b5 = some true := by
  unfold boscagelaw18_Same.f
  rw [if_pos rfl, if_pos (by simp), if_pos rfl, if_pos rfl, Same_f _ _ _ hl hk, Option.bind_some, decide_eq_true rfl]
theorem MA_tail (m : Nat) (l0 : List Int) (hl : ¬ (l0.length : Int) > 50) (a b c d : Int) (l' : List S40) (r1 : Int) (r2 : Bool) (r3 r4 : Int) (q : List S40) (t : Bool)
    (h1 : model_Apply.f m (rise l0) a b c d = some (l', r1, r2, r3, r4, q, false)) (h2 : boscagelaw18_Apply.f m (rise l0) a b c d = some (l', r1, r2, r3, r4, q, t)) (hl' : l'.length < 1000) (hq : q.length < 1000) (hm : 6000 ≤ m) :
    boscagelaw18_ModelApplies.f m l0 a b c d = some true := by
  have hn := rise_length l0
  unfold boscagelaw18_ModelApplies.f
  rw [up18 boscagelaw18_Awake.mono (by omega) Awake18, Option.bind_some, if_pos rfl, if_neg hl, Rising_f _ _ (by omega) (by omega), Option.bind_some, h1, Option.bind_some, h2, Option.bind_some]
  dsimp only
  rw [Same_f _ _ _ hl' (by omega), Option.bind_some, if_pos (by simp), ASame_f _ _ _ _ _ _ _ _ hq (by omega), Option.bind_some, if_pos rfl, if_neg (by simp), Option.bind_some, Same_f _ _ _ (by omega) (by omega), Option.bind_some, decide_eq_true rfl]
theorem span_app (k : Nat) (L : List S40) (a b c d x y : Int) (h : model_Op_Span.f k a b c d = some (x, y, true)) (hl : L.length < 1000) (hk : 1000 ≤ k) :
    model_Apply.f k L a b c d = some (L, (ofR a b (L.filter (fun p => decide (x ≤ p.f0 ∧ p.f0 ≤ y)))).1, (ofR a b (L.filter (fun p => decide (x ≤ p.f0 ∧ p.f0 ≤ y)))).2.1, (ofR a b (L.filter (fun p => decide (x ≤ p.f0 ∧ p.f0 ≤ y)))).2.2.1, (ofR a b (L.filter (fun p => decide (x ≤ p.f0 ∧ p.f0 ≤ y)))).2.2.2.1, (ofR a b (L.filter (fun p => decide (x ≤ p.f0 ∧ p.f0 ≤ y)))).2.2.2.2.1, (ofR a b (L.filter (fun p => decide (x ≤ p.f0 ∧ p.f0 ≤ y)))).2.2.2.2.2) := by
  have hf := List.length_filter_le (fun p : S40 => decide (x ≤ p.f0 ∧ p.f0 ≤ y)) L
  unfold model_Apply.f
  rw [h, Option.bind_some]
  dsimp only
  rw [if_pos rfl, clone_f _ (by omega), Option.bind_some, LBetween_f _ _ _ _ hl hk, Option.bind_some]
  unfold model_Op_Of.f
  rw [if_pos (by omega), Option.bind_some]
theorem law_app (k : Nat) {L : List S40} (hs : srt L) (a b c d : Int) (hl : L.length < 1000) (hk : 1000 ≤ k) :
    boscagelaw18_Apply.f k L a b c d = boscagelaw18_Apply.j0 k L (if khas L b = true then (kcnt L b : Int) else -1) a b c d 0 (khas L b) 0 (valL L b) false := by
  unfold boscagelaw18_Apply.f
  rw [Find_f _ _ _ hl hk, Option.bind_some, findI_srt hs]
  obtain ⟨hc, ⟨hk2, v, hv⟩ | ⟨hk2, hv⟩⟩ := view hs b
  · have hlt : kcnt L b < L.length := by rw [hc]; conv => rhs; rw [hv]
                                         simp
    rw [hk2, if_pos rfl, if_pos (by omega), if_pos (by omega), if_pos (by omega)]
    unfold valL
    rw [hk2, if_pos rfl]
  · rw [hk2]
    simp only [Bool.false_eq_true, if_false]
    rw [if_neg (by omega)]
    unfold valL
    rw [hk2]
    simp only [Bool.false_eq_true, if_false]
/-- The pairs at most at a key, those from a key on, those below it. -/
theorem filter_all {L : List S40} {f : S40 → Bool} (h : ∀ p ∈ L, f p = true) : L.filter f = L := List.filter_eq_self.2 h
theorem filter_nil {L : List S40} {f : S40 → Bool} (h : ∀ p ∈ L, f p = false) : L.filter f = [] := List.filter_eq_nil_iff.2 (fun p hp => by rw [h p hp]; simp)
theorem fl_le {L : List S40} (b : Int) (hw : ∀ p ∈ L, -9223372036854775808 ≤ p.f0) :
    L.filter (fun p => decide (-9223372036854775808 ≤ p.f0 ∧ p.f0 ≤ b)) = L.filter (fun p => decide (p.f0 ≤ b)) := by
  refine List.filter_congr (fun p hp => ?_)
  have := hw p hp
  exact decide_eq_decide.2 ⟨fun h => h.2, fun h => ⟨this, h⟩⟩
theorem fl_ge {L : List S40} (b : Int) (hw : ∀ p ∈ L, p.f0 ≤ 9223372036854775807) :
    L.filter (fun p => decide (b ≤ p.f0 ∧ p.f0 ≤ 9223372036854775807)) = L.filter (fun p => decide (b ≤ p.f0)) := by
  refine List.filter_congr (fun p hp => ?_)
  have := hw p hp
  exact decide_eq_decide.2 ⟨fun h => h.1, fun h => ⟨h, this⟩⟩
theorem le_has {L : List S40} {b v : Int} (hv : L = lo L b ++ ⟨b, v⟩ :: hi L b) : L.filter (fun p => decide (p.f0 ≤ b)) = lo L b ++ [⟨b, v⟩] := by
  conv => lhs; rw [hv]
  rw [List.filter_append, filter_all (fun p hp => decide_eq_true (by have := (mem_lo hp).2; omega)), List.filter_cons_of_pos (by simp), filter_nil (L := hi L b) (fun p hp => decide_eq_false (by have := (mem_hi hp).2; omega))]
theorem le_not {L : List S40} {b : Int} (hv : L = lo L b ++ hi L b) : L.filter (fun p => decide (p.f0 ≤ b)) = lo L b := by
  conv => lhs; rw [hv]
  rw [List.filter_append, filter_all (fun p hp => decide_eq_true (by have := (mem_lo hp).2; omega)), filter_nil (L := hi L b) (fun p hp => decide_eq_false (by have := (mem_hi hp).2; omega)), List.append_nil]
theorem ge_has {L : List S40} {b v : Int} (hv : L = lo L b ++ ⟨b, v⟩ :: hi L b) : L.filter (fun p => decide (b ≤ p.f0)) = ⟨b, v⟩ :: hi L b := by
  conv => lhs; rw [hv]
  rw [List.filter_append, filter_nil (L := lo L b) (fun p hp => decide_eq_false (by have := (mem_lo hp).2; omega)), List.filter_cons_of_pos (by simp), filter_all (L := hi L b) (fun p hp => decide_eq_true (by have := (mem_hi hp).2; omega)), List.nil_append]
theorem ge_not {L : List S40} {b : Int} (hv : L = lo L b ++ hi L b) : L.filter (fun p => decide (b ≤ p.f0)) = hi L b := by
  conv => lhs; rw [hv]
  rw [List.filter_append, filter_nil (L := lo L b) (fun p hp => decide_eq_false (by have := (mem_lo hp).2; omega)), filter_all (L := hi L b) (fun p hp => decide_eq_true (by have := (mem_hi hp).2; omega)), List.nil_append]
theorem one_floor {L A H : List S40} {q : S40} (hv : L = A ++ q :: H) : oneR (A ++ [q]) (((A ++ [q]).length : Int) - 1) = oneR L (A.length : Int) := by
  subst hv
  have e1 : (((A ++ [q]).length : Int) - 1) = (A.length : Int) := by simp
  have e2 : A ++ q :: H = (A ++ [q]) ++ H := by simp
  rw [e1, e2]
  exact (oneR_left (A ++ [q]) H _ (by simp; omega)).symm
theorem one_floor2 {L A H : List S40} (hv : L = A ++ H) : oneR A ((A.length : Int) - 1) = oneR L ((A.length : Int) - 1) := by
  subst hv
  rw [oneR_left _ _ _ (by omega)]
theorem one_ceil {L A H : List S40} (hv : L = A ++ H) : oneR H 0 = oneR L (A.length : Int) := by
  subst hv
  exact (oneR_right A H _ rfl).symm
theorem lo_le (L : List S40) (b : Int) : (lo L b).length ≤ L.length := List.length_filter_le _ _
set_option maxRecDepth 4000 in
theorem MA_cases (m : Nat) (l0 : List Int) (hl : ¬ (l0.length : Int) > 50) (a b c d : Int) (hm : 6000 ≤ m) (hwk : ∀ p ∈ rise l0, X.wf p.f0) (hb : -9223372036854775808 ≤ b ∧ b ≤ 9223372036854775807) :
    boscagelaw18_ModelApplies.f (m + 1) l0 a b c d = some true := by
  have hs := srt_rise l0
  have hn := rise_length l0
  have hlaw := fun a => law_app (m + 1) hs a b c d (by omega) (by omega)
  have hlow : ∀ p ∈ rise l0, -9223372036854775808 ≤ p.f0 := fun p hp => (wf_bounds (hwk p hp)).1
  have hup : ∀ p ∈ rise l0, p.f0 ≤ 9223372036854775807 := fun p hp => (wf_bounds (hwk p hp)).2
  have hlo := lo_le (rise l0) b
  have hput := putL_length hs b d
  have hcut := cutL_length (rise l0) b
  have hbel := below_f (rise l0) b m (by omega) (by omega)
  have tail := MA_tail (m + 1) l0 hl
  by_cases h0 : a = 0
  · subst h0
    have hsp : model_Op_Span.f (m + 1) 0 b c d = some (0, 0, false) := by simp [model_Op_Span.f, model_Op_Span.j0]
    refine tail 0 b c d (rise l0) 0 (khas (rise l0) b) 0 (valL (rise l0) b) [] false ?_ ?_ (by omega) (by simp) (by omega)
    · unfold model_Apply.f
      rw [hsp, Option.bind_some]
      dsimp only
      rw [if_neg (by simp), if_pos rfl, Get_f hs (by omega), Option.bind_some, clone_f _ (by omega), Option.bind_some]
    · rw [hlaw 0]
      simp only [boscagelaw18_Apply.j0]
      rw [hbel, Option.bind_some, if_pos trivial]
  by_cases h1 : a = 1
  · subst h1
    have hsp : model_Op_Span.f (m + 1) 1 b c d = some (0, 0, false) := by simp [model_Op_Span.f, model_Op_Span.j0]
    refine tail 1 b c d (putL (rise l0) b d) 0 (khas (rise l0) b) 0 (valL (rise l0) b) [] false ?_ ?_ (by omega) (by simp) (by omega)
    · unfold model_Apply.f
      rw [hsp, Option.bind_some]
      dsimp only
      rw [if_neg (by simp), if_neg (by decide), if_pos rfl, LPut_f hs (by omega), Option.bind_some]
    · rw [hlaw 1]
      simp only [boscagelaw18_Apply.j0]
      rw [hbel, Option.bind_some, if_neg (by decide), if_pos trivial, Put_f hs _ _ _ (by omega) (by omega), Option.bind_some]
  by_cases h2 : a = 2
  · subst h2
    have hsp : model_Op_Span.f (m + 1) 2 b c d = some (0, 0, false) := by simp [model_Op_Span.f, model_Op_Span.j0]
    by_cases hh : khas (rise l0) b = true
    · refine tail 2 b c d (rise l0) 0 true 0 (valL (rise l0) b) [] false ?_ ?_ (by omega) (by simp) (by omega)
      · unfold model_Apply.f
        rw [hsp, Option.bind_some]
        dsimp only
        rw [if_neg (by simp), if_neg (by decide), if_neg (by decide), if_pos rfl, Get_f hs (by omega), Option.bind_some]
        dsimp only
        rw [if_pos hh, clone_f _ (by omega), Option.bind_some]
      · rw [hlaw 2, if_pos hh, hh]
        simp only [boscagelaw18_Apply.j0]
        rw [hbel, Option.bind_some, if_neg (by decide), if_neg (by decide), if_pos trivial, if_pos (by omega)]
    · have hf : khas (rise l0) b = false := by simpa using hh
      have hv0 : valL (rise l0) b = 0 := by unfold valL; rw [if_neg hh]
      refine tail 2 b c d (putL (rise l0) b d) 0 false 0 0 [] false ?_ ?_ (by omega) (by simp) (by omega)
      · unfold model_Apply.f
        rw [hsp, Option.bind_some]
        dsimp only
        rw [if_neg (by simp), if_neg (by decide), if_neg (by decide), if_pos rfl, Get_f hs (by omega), Option.bind_some]
        dsimp only
        rw [if_neg hh, LPut_f hs (by omega), Option.bind_some]
      · rw [hlaw 2, if_neg hh, hf, hv0]
        simp only [boscagelaw18_Apply.j0]
        rw [hbel, Option.bind_some, if_neg (by decide), if_neg (by decide), if_pos trivial, if_neg (by omega), Put_f hs _ _ _ (by omega) (by omega), Option.bind_some]
  by_cases h3 : a = 3
  · subst h3
    have hsp : model_Op_Span.f (m + 1) 3 b c d = some (0, 0, false) := by simp [model_Op_Span.f, model_Op_Span.j0]
    refine tail 3 b c d (cutL (rise l0) b) 0 (khas (rise l0) b) 0 (valL (rise l0) b) [] false ?_ ?_ (by omega) (by simp) (by omega)
    · unfold model_Apply.f
      rw [hsp, Option.bind_some]
      dsimp only
      rw [if_neg (by simp), if_neg (by decide), if_neg (by decide), if_neg (by decide), if_pos rfl, LCut_f hs (by omega), Option.bind_some]
    · rw [hlaw 3]
      simp only [boscagelaw18_Apply.j0]
      rw [hbel, Option.bind_some, if_neg (by decide), if_neg (by decide), if_neg (by decide), if_pos trivial, Cut_f hs _ _ (by omega) (by omega), Option.bind_some]
  by_cases h4 : a = 4
  · subst h4
    have hsp : model_Op_Span.f (m + 1) 4 b c d = some (-9223372036854775808, b, true) := by simp [model_Op_Span.f]
    have hap := span_app (m + 1) (rise l0) 4 b c d _ _ hsp (by omega) (by omega)
    rw [fl_le b hlow] at hap
    obtain ⟨hc, ⟨hh, v, hv⟩ | ⟨hh, hv⟩⟩ := view hs b
    · rw [le_has hv] at hap
      have e := one_floor hv
      refine tail 4 b c d (rise l0) 0 _ _ _ [] false hap ?_ (by omega) (by simp) (by omega)
      rw [hlaw 4, hh, if_pos rfl]
      simp only [boscagelaw18_Apply.j0]
      have ew : wrap64 (wrap64 (((lo (rise l0) b).length : Int) + 1) - 1) = ((lo (rise l0) b).length : Int) := by unfold wrap64; omega
      rw [hbel, Option.bind_some, if_neg (by decide), if_neg (by decide), if_neg (by decide), if_neg (by decide), if_pos trivial, if_pos (by omega), ew, pick_f, Option.bind_some, ← e]
      rfl
    · rw [le_not hv] at hap
      have e := one_floor2 hv
      refine tail 4 b c d (rise l0) 0 _ _ _ [] false hap ?_ (by omega) (by simp) (by omega)
      rw [hlaw 4, hh, if_neg (by simp)]
      simp only [boscagelaw18_Apply.j0]
      have ew : wrap64 (((lo (rise l0) b).length : Int) - 1) = ((lo (rise l0) b).length : Int) - 1 := by unfold wrap64; omega
      rw [hbel, Option.bind_some, if_neg (by decide), if_neg (by decide), if_neg (by decide), if_neg (by decide), if_pos trivial, if_neg (by omega), ew, pick_f, Option.bind_some, ← e]
      rfl
  by_cases h5 : a = 5
  · subst h5
    have hsp : model_Op_Span.f (m + 1) 5 b c d = some (b, 9223372036854775807, true) := by simp [model_Op_Span.f]
    have hap := span_app (m + 1) (rise l0) 5 b c d _ _ hsp (by omega) (by omega)
    rw [fl_ge b hup] at hap
    have e : oneR ((rise l0).filter (fun p => decide (b ≤ p.f0))) 0 = oneR (rise l0) ((lo (rise l0) b).length : Int) := by
      obtain ⟨hc, ⟨hh, v, hv⟩ | ⟨hh, hv⟩⟩ := view hs b
      · rw [ge_has hv]
        exact one_ceil hv
      · rw [ge_not hv]
        exact one_ceil hv
    refine tail 5 b c d (rise l0) 0 _ _ _ [] false hap ?_ (by omega) (by simp) (by omega)
    rw [hlaw 5]
    simp only [boscagelaw18_Apply.j0]
    rw [hbel, Option.bind_some, if_neg (by decide), if_neg (by decide), if_neg (by decide), if_neg (by decide), if_neg (by decide), if_pos trivial, pick_f, Option.bind_some, ← e]
    rfl
  have hall : (rise l0).filter (fun p => decide (-9223372036854775808 ≤ p.f0 ∧ p.f0 ≤ 9223372036854775807)) = rise l0 := filter_all (fun p hp => decide_eq_true ⟨hlow p hp, hup p hp⟩)
  by_cases h6 : a = 6
  · subst h6
    have hsp : model_Op_Span.f (m + 1) 6 b c d = some (-9223372036854775808, 9223372036854775807, true) := by simp [model_Op_Span.f, model_Op_Span.j0]
    have hap := span_app (m + 1) (rise l0) 6 b c d _ _ hsp (by omega) (by omega)
    rw [hall] at hap
    refine tail 6 b c d (rise l0) 0 _ _ _ [] false hap ?_ (by omega) (by simp) (by omega)
    rw [hlaw 6]
    simp only [boscagelaw18_Apply.j0]
    rw [hbel, Option.bind_some, if_neg (by decide), if_neg (by decide), if_neg (by decide), if_neg (by decide), if_neg (by decide), if_neg (by decide), if_pos trivial, pick_f, Option.bind_some]
    rfl
  by_cases h7 : a = 7
  · subst h7
    have hsp : model_Op_Span.f (m + 1) 7 b c d = some (-9223372036854775808, 9223372036854775807, true) := by simp [model_Op_Span.f, model_Op_Span.j0]
    have hap := span_app (m + 1) (rise l0) 7 b c d _ _ hsp (by omega) (by omega)
    rw [hall] at hap
    refine tail 7 b c d (rise l0) 0 _ _ _ [] false hap ?_ (by omega) (by simp) (by omega)
    rw [hlaw 7]
    simp only [boscagelaw18_Apply.j0]
    have ew : wrap64 (((rise l0).length : Int) - 1) = ((rise l0).length : Int) - 1 := by unfold wrap64; omega
    rw [hbel, Option.bind_some, if_neg (by decide), if_neg (by decide), if_neg (by decide), if_neg (by decide), if_neg (by decide), if_neg (by decide), if_neg (by decide), if_pos trivial, ew, pick_f, Option.bind_some]
    rfl
  by_cases h8 : a = 8
  · subst h8
    have hfin : ∀ x y, model_Op_Span.f (m + 1) 8 b c d = some (x, y, true) → (rise l0).filter (fun p => decide (x ≤ p.f0 ∧ p.f0 ≤ y)) = lo (rise l0) b → boscagelaw18_ModelApplies.f (m + 1) l0 8 b c d = some true := by
      intro x y hsp hfl
      have hap := span_app (m + 1) (rise l0) 8 b c d _ _ hsp (by omega) (by omega)
      rw [hfl] at hap
      refine tail 8 b c d (rise l0) 0 _ _ _ [] false hap ?_ (by omega) (by simp) (by omega)
      rw [hlaw 8]
      simp only [boscagelaw18_Apply.j0]
      rw [hbel, Option.bind_some, if_neg (by decide), if_neg (by decide), if_neg (by decide), if_neg (by decide), if_neg (by decide), if_neg (by decide), if_neg (by decide), if_neg (by decide), if_pos trivial]
      rfl
    by_cases hz : b = -9223372036854775808
    · refine hfin 1 0 (by simp [model_Op_Span.f, model_Op_Span.j0, hz]) ?_
      rw [filter_nil (fun p hp => decide_eq_false (by omega))]
      exact (filter_nil (fun p hp => decide_eq_false (by have := hlow p hp; omega))).symm
    · have hw : wrap64 (b - 1) = b - 1 := by unfold wrap64; omega
      refine hfin (-9223372036854775808) (b - 1) (by simp [model_Op_Span.f, model_Op_Span.j0, hz, hw]) ?_
      refine List.filter_congr (fun p hp => decide_eq_decide.2 ?_)
      have := hlow p hp
      omega
  by_cases h9 : a = 9
  · subst h9
    have hsp : model_Op_Span.f (m + 1) 9 b c d = some (-9223372036854775808, 9223372036854775807, true) := by simp [model_Op_Span.f, model_Op_Span.j0]
    have hap := span_app (m + 1) (rise l0) 9 b c d _ _ hsp (by omega) (by omega)
    rw [hall] at hap
    refine tail 9 b c d (rise l0) 0 _ _ _ [] false hap ?_ (by omega) (by simp) (by omega)
    rw [hlaw 9]
    simp only [boscagelaw18_Apply.j0]
    rw [hbel, Option.bind_some, if_neg (by decide), if_neg (by decide), if_neg (by decide), if_neg (by decide), if_neg (by decide), if_neg (by decide), if_neg (by decide), if_neg (by decide), if_neg (by decide), if_pos trivial]
    have ho : ∀ i : Int, (i < 0 ∨ i ≥ ((rise l0).length : Int)) → oneR (rise l0) i = (false, 0, 0) := by
      intro i hi
      unfold oneR
      by_cases h0 : 0 ≤ i
      · rw [if_pos h0, List.getElem?_eq_none (by omega)]
      · rw [if_neg h0]
    have hof : ofR 9 b (rise l0) = (0, (oneR (rise l0) b).1, (oneR (rise l0) b).2.1, (oneR (rise l0) b).2.2, [], false) := rfl
    rw [hof]
    by_cases hz : b < 0
    · rw [if_pos hz, ho b (.inl hz)]
    · by_cases hy : b ≥ ((rise l0).length : Int)
      · rw [if_neg hz, if_pos hy, ho b (.inr hy)]
      · rw [if_neg hz, if_neg hy, pick_f, Option.bind_some]
  by_cases h10 : a = 10
  · subst h10
    have hsp : model_Op_Span.f (m + 1) 10 b c d = some (b, c, true) := by simp [model_Op_Span.f, model_Op_Span.j0]
    have hap := span_app (m + 1) (rise l0) 10 b c d _ _ hsp (by omega) (by omega)
    have hf := List.length_filter_le (fun p : S40 => decide (b ≤ p.f0 ∧ p.f0 ≤ c)) (rise l0)
    refine tail 10 b c d (rise l0) 0 _ _ _ [] false hap ?_ (by omega) (by simp) (by omega)
    rw [hlaw 10]
    simp only [boscagelaw18_Apply.j0]
    rw [hbel, Option.bind_some, if_neg (by decide), if_neg (by decide), if_neg (by decide), if_neg (by decide), if_neg (by decide), if_neg (by decide), if_neg (by decide), if_neg (by decide), if_neg (by decide), if_neg (by decide), if_pos trivial, Between_f _ _ _ _ (by omega) (by omega), Option.bind_some]
    rfl
  by_cases h11 : a = 11
  · subst h11
    have hsp : model_Op_Span.f (m + 1) 11 b c d = some (b, c, true) := by simp [model_Op_Span.f, model_Op_Span.j0]
    have hap := span_app (m + 1) (rise l0) 11 b c d _ _ hsp (by omega) (by omega)
    have hf := List.length_filter_le (fun p : S40 => decide (b ≤ p.f0 ∧ p.f0 ≤ c)) (rise l0)
    refine tail 11 b c d (rise l0) 0 _ _ _ ((rise l0).filter (fun p => decide (b ≤ p.f0 ∧ p.f0 ≤ c))) false hap ?_ (by omega) (by omega) (by omega)
    rw [hlaw 11]
    simp only [boscagelaw18_Apply.j0]
    rw [hbel, Option.bind_some, if_neg (by decide), if_neg (by decide), if_neg (by decide), if_neg (by decide), if_neg (by decide), if_neg (by decide), if_neg (by decide), if_neg (by decide), if_neg (by decide), if_neg (by decide), if_neg (by decide), if_pos trivial, Between_f _ _ _ _ (by omega) (by omega), Option.bind_some]
    rfl
  have hsp : model_Op_Span.f (m + 1) a b c d = some (0, 0, false) := by simp [model_Op_Span.f, model_Op_Span.j0, h4, h5, h6, h7, h8, h9, h10, h11]
  refine tail a b c d (rise l0) 10 false 0 0 [] false ?_ ?_ (by omega) (by simp) (by omega)
  · unfold model_Apply.f
    rw [hsp, Option.bind_some]
    dsimp only
    rw [if_neg (by simp), if_neg h0, if_neg h1, if_neg h2, if_neg h3, clone_f _ (by omega), Option.bind_some]
  · rw [hlaw a]
    simp only [boscagelaw18_Apply.j0]
    rw [hbel, Option.bind_some, if_neg h0, if_neg h1, if_neg h2, if_neg h3, if_neg h4, if_neg h5, if_neg h6, if_neg h7, if_neg h8, if_neg h9, if_neg h10, if_neg h11]
theorem ModelApplies (l0 : List Int) (x : S78) (_y0 : l0.length ≤ 9223372036854775807) (w0 : ∀ y ∈ l0, X.wf y) (w1 : X.ok78 x) : ∃ k, boscagelaw18_ModelApplies.f k l0 x.f0 x.f1 x.f2 x.f3 = some true := by
  obtain ⟨m, hm⟩ : ∃ m, m = 6000 := ⟨_, rfl⟩
  refine ⟨m + 1, ?_⟩
  by_cases hl : (l0.length : Int) > 50
  · unfold boscagelaw18_ModelApplies.f
    rw [up18 boscagelaw18_Awake.mono (by omega) Awake18, Option.bind_some, if_pos rfl, if_pos hl]
  · exact MA_cases m l0 hl _ _ _ _ (by omega) (rising_wf l0 0 [] w0 (fun p hp => absurd hp (by simp))) (wf_bounds w1.2.1)
end Go.Proofs.Ytkoiffkonjpoiaa.Pure
