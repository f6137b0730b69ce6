/- The statement StoryOne as plain Lean: what it computes is true for every input. No condition beyond the arguments' own bounds. -/
import Derived.Test.YtkoiffkonjpoiaaQM5
namespace Go.Proofs.Ytkoiffkonjpoiaa.Pure
open Go.RowKit Go.Proofs.Ytkoiffkonjpoiaa.Q Go.Proofs.YtkoiffkonjpoiaaW.PrintWords Go.Proofs.YtkoiffkonjpoiaaW.PrintLast Go.Proofs.Ytkoiffkonjpoiaa.Y
/-- Events one behind the other. -/
inductive Sq (k : Nat) : Nat → List S40 → List S128 → Prop
  | nil (i : Nat) (now : List S40) : Sq k i now []
  | cons {i : Nat} {now now' : List S40} {e : S128} {r : List S128} : stepE k now e = some (some now') → noneE e = false → (10 * (i : Int) + 1 ≤ e.f2 ∧ e.f2 ≤ 10 * (i : Int) + 5 ∧ 10 * (i : Int) + 5 ≤ e.f3 ∧ e.f3 ≤ 10 * (i : Int) + 9) → bndE e → goodP now' → now'.length ≤ now.length + 1 → Sq k (i + 1) now' r → Sq k i now (e :: r)
theorem hist_sq (m : Nat) (hm : 6000 ≤ m) : ∀ (l : List S126) (i : Nat) (now : List S40), goodP now → now.length + l.length < 900 → i + l.length < 90 → (∀ d ∈ l, okD d) → ∃ h, histGo (m + 1) i now (l.map oneD) = some h ∧ Sq (m + 1) i now h ∧ h.length = l.length
  | [], i, now, _, _, _, _ => ⟨[], rfl, .nil i now, rfl⟩
  | d :: r, i, now, hg, hl, hi, hd => by
    rw [List.length_cons] at hl hi
    obtain ⟨hd1, hd2, hd3⟩ := hd d List.mem_cons_self
    have b0 := Int.tmod_nonneg 5 hd2
    have b1 := Int.tmod_lt_of_pos d.f1 (show (0 : Int) < 5 by decide)
    have a0 := Int.tmod_nonneg 5 hd3
    have a1 := Int.tmod_lt_of_pos d.f2 (show (0 : Int) < 5 by decide)
    obtain ⟨x, hx, hD, hE⟩ := hist_did m hm now i (oneD d) hg (by omega) ⟨hd1, b0, a0⟩ (by omega)
    obtain ⟨g1, g2, g3, g4⟩ := hE (by show ¬ Int.tmod 0 8 = 5; decide) (by show ¬ Int.tmod 0 8 = 6; decide) (by show ¬ Int.tmod 0 8 = 7; decide)
    have e1 : (oneD d).f1.tmod 50 = d.f1.tmod 5 := Int.tmod_eq_of_lt b0 (by show d.f1.tmod 5 < 50; omega)
    have e2 : (oneD d).f2.tmod 50 = d.f2.tmod 5 := Int.tmod_eq_of_lt a0 (by show d.f2.tmod 5 < 50; omega)
    rw [e1] at g3
    rw [e2] at g4
    have := hD.len
    obtain ⟨h, h1, h2, h3⟩ := hist_sq m hm r (i + 1) x.1 hD.good (by omega) (by omega) (fun d hd' => hd d (List.mem_cons_of_mem _ hd'))
    refine ⟨x.2 :: h, ?_, .cons g1 g2 ⟨by omega, by omega, by omega, by omega⟩ hD.bnd hD.good hD.len h2, by rw [List.length_cons, List.length_cons, h3]⟩
    simp only [List.map_cons, histGo]
    rw [hx, Option.bind_some, h1, Option.bind_some]
/-- Each has a time of its own. -/
def Own (h : List S128) : Prop := ∀ (j : Nat) (e : S128), h[j]? = some e → (10 * (j : Int) + 1 ≤ e.f2 ∧ e.f2 ≤ 10 * (j : Int) + 5 ∧ 10 * (j : Int) + 5 ≤ e.f3 ∧ e.f3 ≤ 10 * (j : Int) + 9) ∧ noneE e = false
theorem sq_own {k : Nat} : ∀ {h : List S128} {i : Nat} {now : List S40}, Sq k i now h → ∀ (j : Nat) (e : S128), h[j]? = some e → (10 * ((i + j : Nat) : Int) + 1 ≤ e.f2 ∧ e.f2 ≤ 10 * ((i + j : Nat) : Int) + 5 ∧ 10 * ((i + j : Nat) : Int) + 5 ≤ e.f3 ∧ e.f3 ≤ 10 * ((i + j : Nat) : Int) + 9) ∧ noneE e = false ∧ bndE e
  | [], _, _, _, j, e, he => by simp at he
  | a :: r, i, now, .cons h1 h2 h3 h4 h5 h6 hT, j, e, he => by
    cases j with
    | zero =>
      obtain rfl : a = e := by simpa using he
      exact ⟨by simpa using h3, h2, h4⟩
    | succ j =>
      have := sq_own hT j e (by simpa using he)
      rw [show i + 1 + j = i + (j + 1) by omega] at this
      exact this
theorem own_must {e : S128} (h0 : 0 ≤ e.f3) (h : noneE e = false) : mustE e = true := by
  unfold noneE at h
  unfold mustE
  rw [decide_eq_true h0, Bool.true_and] at h ⊢
  rw [h]
  rfl
theorem own_st (k : Nat) (h : List S128) (hO : Own h) : (∀ i, i < (stOf k h).n → (stOf k h).must i = true) ∧ (∀ i, i < (stOf k h).n → (stOf k h).may i = true) ∧ (∀ i j, i < j → j < (stOf k h).n → (stOf k h).before i j = true) ∧ (∀ i j, j < i → (stOf k h).before i j = false) := by
  have hat : ∀ i, i < h.length → ∃ e, h[i]? = some e := fun i hi => ⟨_, List.getElem?_eq_getElem hi⟩
  refine ⟨fun i hi => ?_, fun i hi => ?_, fun i j hij hj => ?_, fun i j hij => ?_⟩
  · rw [st_n] at hi
    obtain ⟨e, he⟩ := hat i hi
    obtain ⟨g1, g2⟩ := hO i e he
    rw [mustAt_evs, he]
    exact own_must (by omega) g2
  · rw [st_n] at hi
    obtain ⟨e, he⟩ := hat i hi
    obtain ⟨g1, g2⟩ := hO i e he
    rw [may_evs k h he, g2]
    rfl
  · rw [st_n] at hj
    obtain ⟨e, he⟩ := hat i (by omega)
    obtain ⟨f, hf⟩ := hat j hj
    obtain ⟨g1, g2⟩ := hO i e he
    obtain ⟨k1, k2⟩ := hO j f hf
    rw [before_evs k h hf he, own_must (by omega) g2, decide_eq_true (by omega)]
    rfl
  · show Srch.beforeAt _ i j = false
    unfold Srch.beforeAt
    rw [List.getElem?_map, List.getElem?_map]
    cases he : h[i]? with
    | none => rfl
    | some e =>
      cases hf : h[j]? with
      | none => rfl
      | some f =>
        obtain ⟨g1, g2⟩ := hO i e he
        obtain ⟨k1, k2⟩ := hO j f hf
        show (mustE e && decide (e.f3 < f.f2)) = false
        rw [decide_eq_false (by omega), Bool.and_false]
theorem st_step (k : Nat) (h : List S128) {i : Nat} {e : S128} (he : h[i]? = some e) (p : List S40) : (stOf k h).step p i = (stepE k p e).join := by
  show Srch.stepAt _ p i = _
  unfold Srch.stepAt
  rw [evs_at, he]
  rfl
theorem sq_chain (k : Nat) (first : List S40) (h : List S128) : ∀ (r pre : List S128) (now : List S40), h = pre ++ r → Sq k pre.length now r → Srch.chain (stOf k h) first (List.range pre.length) = some now → goodP now → now.length ≤ first.length + pre.length →
    (∀ j, pre.length ≤ j → j < h.length → ∃ nj q e, h[j]? = some e ∧ Srch.chain (stOf k h) first (List.range j) = some nj ∧ stepE k nj e = some (some q) ∧ goodP nj ∧ nj.length ≤ first.length + j) ∧ (Srch.chain (stOf k h) first (List.range h.length)).isSome = true
  | [], pre, now, he, _, hc, _, _ => by
    rw [List.append_nil] at he
    subst he
    exact ⟨fun j h1 h2 => absurd h2 (by omega), by rw [hc]; rfl⟩
  | e :: r, pre, now, he, .cons (now' := now') h1 h2 h3 h4 h5 h6 hT, hc, hg, hl => by
    have hat : h[pre.length]? = some e := by rw [he, List.getElem?_append_right (Nat.le_refl _), Nat.sub_self]; rfl
    have hc2 : Srch.chain (stOf k h) first (List.range (pre.length + 1)) = some now' := by
      rw [List.range_succ]
      exact Srch.chain_snoc _ hc (by rw [st_step k h hat, h1]; rfl)
    have e1 : (pre ++ [e]).length = pre.length + 1 := by simp
    obtain ⟨g1, g2⟩ := sq_chain k first h r (pre ++ [e]) now' (by rw [he]; simp) (by rw [e1]; exact hT) (by rw [e1]; exact hc2) h5 (by rw [e1]; omega)
    refine ⟨fun j hj1 hj2 => ?_, g2⟩
    by_cases hj : j = pre.length
    · subst hj
      exact ⟨now, now', e, hat, hc, h1, hg, hl⟩
    · exact g1 j (by rw [e1]; omega) hj2
theorem wrap_ne (v : Int) : wrap64 (v + 1) ≠ v := by unfold wrap64; omega
theorem spoil_step (m : Nat) (hm : 6000 ≤ m) {p q : List S40} {e : S128} {what : Int} (hg : goodP p) (hl : p.length < 900) (he : okE e) (h : stepE (m + 1) p e = some (some q)) (h0 : 0 ≤ e.f3) (hw : what.tmod 6 = 1 ∨ what.tmod 6 = 2 ∨ what.tmod 6 = 3 ∨ (what.tmod 6 = 4 ∧ e.f4.f0 ≠ 10)) :
    stepE (m + 1) p (spoilE what e) = some none := by
  obtain ⟨l', r1, r2, r3, r4, q', t, h1, _, _, _, hl', hq, _⟩ := MC_cases m p hg.1 hl e.f1.f0 e.f1.f1 e.f1.f2 e.f1.f3 hm (goodP_keys hg) he.1
  unfold stepE at h ⊢
  rw [h1, Option.bind_some] at h
  rw [show model_Apply.f (m + 1) p (spoilE what e).f1.f0 (spoilE what e).f1.f1 (spoilE what e).f1.f2 (spoilE what e).f1.f3 = _ from h1, Option.bind_some]
  dsimp only at h ⊢
  rw [if_pos (by omega), if_pos h0, MSame_f _ _ _ _ _ _ _ _ _ _ _ _ _ (by omega) (by omega), Option.bind_some] at h
  rw [if_pos (by omega), if_pos (show 0 ≤ (spoilE what e).f3 from h0), MSame_f _ _ _ _ _ _ _ _ _ _ _ _ _ (by omega) (by omega), Option.bind_some]
  have hc : r1 = e.f4.f0 ∧ r2 = e.f4.f1 ∧ r3 = e.f4.f2 ∧ r4 = e.f4.f3 ∧ q' = e.f4.f4 := by
    by_cases hx : r1 = e.f4.f0 ∧ r2 = e.f4.f1 ∧ r3 = e.f4.f2 ∧ r4 = e.f4.f3 ∧ q' = e.f4.f4
    · exact hx
    · rw [decide_eq_false hx] at h
      simp at h
  obtain ⟨c1, c2, c3, c4, c5⟩ := hc
  rw [decide_eq_false]
  · rfl
  · show ¬ (r1 = (spoilA what e.f4).f0 ∧ r2 = (spoilA what e.f4).f1 ∧ r3 = (spoilA what e.f4).f2 ∧ r4 = (spoilA what e.f4).f3 ∧ q' = (spoilA what e.f4).f4)
    unfold spoilA
    rintro ⟨d1, d2, d3, d4, d5⟩
    rcases hw with hw | hw | hw | ⟨hw, hne⟩
    · rw [if_pos hw] at d2
      rw [c2] at d2
      dsimp only at d2
      cases hb : e.f4.f1 <;> rw [hb] at d2 <;> cases d2
    · rw [if_neg (by omega), if_pos hw] at d4
      exact wrap_ne e.f4.f3 (d4.symm.trans c4)
    · rw [if_neg (by omega), if_neg (by omega), if_pos hw] at d3
      exact wrap_ne e.f4.f2 (d3.symm.trans c3)
    · rw [if_neg (by omega), if_neg (by omega), if_neg (by omega), if_pos hw] at d1
      exact hne (c1.symm.trans d1)
theorem chain_same {P : Type} {S T : Srch.St P} : ∀ (so : List Nat) (p : P), (∀ i ∈ so, ∀ p, S.step p i = T.step p i) → Srch.chain S p so = Srch.chain T p so
  | [], _, _ => rfl
  | i :: r, p, h => by
    simp only [Srch.chain]
    rw [h i List.mem_cons_self]
    congr 1
    funext q
    exact chain_same r q (fun j hj => h j (List.mem_cons_of_mem _ hj))
theorem StoryOne (a0 : List Int) (a1 : List S126) (a2 a3 : Int) (_y0 : a0.length ≤ 9223372036854775807) (w0 : ∀ y ∈ a0, X.wf y) (_y1 : a1.length ≤ 9223372036854775807) (w1 : ∀ y ∈ a1, X.ok126 y) (w2 : (Lit.int .u8 a2).wf = true) (w3 : (Lit.int .u8 a3).wf = true) :
    ∃ k, boscagelaw22_StoryOne.f k a0 a1 a2 a3 = some true := by
  refine ⟨6000 + 1, ?_⟩
  obtain ⟨hd, hds⟩ := deeds_ok w1
  unfold boscagelaw22_StoryOne.f
  rw [if_pos ⟨hds, byte_ok w2, byte_ok w3⟩]
  by_cases h0 : 8 < a0.length ∨ 30 < a1.length
  · rw [if_pos h0]
  · rw [if_neg h0]
    have hrl := rise_length a0
    have hgf := rise_good a0 w0 (by omega)
    obtain ⟨first, hfi⟩ : ∃ first, first = rise a0 := ⟨_, rfl⟩
    rw [← hfi] at hrl hgf
    obtain ⟨h, h1, h2, h3⟩ := hist_sq 6000 (by omega) a1 0 first hgf (by omega) (by omega) hd
    have hown : Own h := fun j e he => by
      obtain ⟨g1, g2, _⟩ := sq_own h2 j e he
      rw [Nat.zero_add] at g1
      exact ⟨g1, g2⟩
    have hbnd : ∀ e ∈ h, bndE e := fun e he => by
      obtain ⟨j, hj⟩ := List.getElem?_of_mem he
      exact (sq_own h2 j e hj).2.2
    obtain ⟨s1, s2, s3, s4⟩ := own_st (6000 + 1) h hown
    obtain ⟨c1, c2⟩ := sq_chain (6000 + 1) first h h [] first rfl h2 rfl hgf (by simp)
    have hL : Srch.Legal (stOf (6000 + 1) h) first (List.range (stOf (6000 + 1) h).n) := Srch.legal_seq_ok s4 s2 (by rw [st_n]; exact c2)
    have hok : ∀ e ∈ h, okE e := fun e he => (hbnd e he).1
    obtain ⟨so, ho1, ho2, ho3⟩ := order_spec 6000 (by omega) first h hgf (by omega) (by omega) hok
    have hS : (Srch.srch (stOf (6000 + 1) h) 100 0 first).isSome = true := (Srch.srch_iff _ (by rw [st_n]; omega)).2 ⟨_, hL⟩
    have hso := Srch.legal_seq s3 s1 (Srch.srch_legal _ (ho2 hS))
    rw [hS] at ho1
    rw [st_n] at hso
    subst hso
    rw [Rising_f a0 _ (by omega) (by omega), ← hfi, Option.bind_some, show History.f (6000 + 1) first (a1.map oneD) = some h from h1, Option.bind_some, ho1, Option.bind_some]
    dsimp only
    rw [List.length_range, if_pos ⟨rfl, rfl⟩, if_pos rfl]
    by_cases hx : h.length = 0 ∨ a3.tmod 6 = 0 ∨ a3.tmod 6 = 5 ∨ (a3.tmod 6 = 4 ∧ (rd_T128 h ((a2.toNat % h.length : Nat) : Int)).f4.f0 = 10)
    · rw [if_pos hx]
    · rw [if_neg hx]
      obtain ⟨j, hj⟩ : ∃ j, j = a2.toNat % h.length := ⟨_, rfl⟩
      have hn0 : 0 < h.length := by omega
      have hjl : j < h.length := by rw [hj]; exact Nat.mod_lt _ hn0
      rw [← hj] at hx
      have m0 := Int.tmod_nonneg 6 (byte_ok w3).1
      have m1 := Int.tmod_lt_of_pos a3 (show (0 : Int) < 6 by decide)
      have hs : Spoilt.f h a2 a3 = h.set j (spoilE a3 (rd_T128 h (j : Int))) := by
        unfold Spoilt.f
        rw [if_neg (by omega), ← hj]
      have hat : ∀ i : Nat, (Spoilt.f h a2 a3)[i]? = if i = j then some (spoilE a3 (rd_T128 h (j : Int))) else h[i]? := fun i => by
        rw [hs, List.getElem?_set]
        by_cases hij : j = i
        · subst hij; simp [hjl]
        · rw [if_neg hij, if_neg (Ne.symm hij)]
      have hown2 : Own (Spoilt.f h a2 a3) := fun i e he => by
        rw [hat] at he
        split at he
        · rename_i hij
          subst hij
          cases he
          obtain ⟨g1, g2⟩ := hown i _ (rd128_at h hjl)
          refine ⟨g1, ?_⟩
          show (decide (0 ≤ (rd_T128 h (i : Int)).f3) && ((spoilA a3 (rd_T128 h (i : Int)).f4).f0 == 3 || (spoilA a3 (rd_T128 h (i : Int)).f4).f0 == 4)) = false
          unfold noneE at g2
          unfold spoilA
          by_cases q1 : a3.tmod 6 = 1
          · rw [if_pos q1]; exact g2
          by_cases q2 : a3.tmod 6 = 2
          · rw [if_neg q1, if_pos q2]; exact g2
          by_cases q3 : a3.tmod 6 = 3
          · rw [if_neg q1, if_neg q2, if_pos q3]; exact g2
          by_cases q4 : a3.tmod 6 = 4
          · rw [if_neg q1, if_neg q2, if_neg q3, if_pos q4]; simp
          · omega
        · exact hown i e he
      have hbnd2 : ∀ e ∈ Spoilt.f h a2 a3, okE e := mem_Spoilt okE hok hok
      obtain ⟨b, hb1, hb2⟩ := linear_spec 6000 (by omega) first (Spoilt.f h a2 a3) hgf (by omega) (by rw [Spoilt.length]; omega) hbnd2
      rw [hb1, Option.bind_some]
      cases b with
      | false => rfl
      | true =>
        exfalso
        obtain ⟨so, hso⟩ := hb2.1 rfl
        obtain ⟨t1, t2, t3, t4⟩ := own_st (6000 + 1) (Spoilt.f h a2 a3) hown2
        have hr := Srch.legal_seq t3 t1 hso
        have hch := hso.1.2.2.2
        rw [hr, st_n, Spoilt.length] at hch
        obtain ⟨nj, q, e, g1, g2, g3, g4, g5⟩ := c1 j (Nat.zero_le _) hjl
        obtain rfl : e = rd_T128 h (j : Int) := Option.some.inj (g1.symm.trans (rd128_at h hjl))
        have hpre : Srch.chain (stOf (6000 + 1) (Spoilt.f h a2 a3)) first (List.range j) = some nj := by
          rw [← g2]
          refine chain_same _ _ (fun i hi p => ?_)
          have hij := List.mem_range.1 hi
          have hih : h[i]? = some (rd_T128 h (i : Int)) := rd128_at h (by omega)
          rw [st_step (6000 + 1) h hih, st_step (6000 + 1) _ (e := rd_T128 h (i : Int)) (by rw [hat, if_neg (by omega)]; exact hih)]
        obtain ⟨o1, o2⟩ := hown j _ (rd128_at h hjl)
        have hst := spoil_step 6000 (by omega) (what := a3) g4 (by omega) (hok _ (List.mem_of_getElem? (rd128_at h hjl))) g3 (by omega) (by
          by_cases q1 : a3.tmod 6 = 1
          · exact .inl q1
          by_cases q2 : a3.tmod 6 = 2
          · exact .inr (.inl q2)
          by_cases q3 : a3.tmod 6 = 3
          · exact .inr (.inr (.inl q3))
          · have q4 : a3.tmod 6 = 4 := by omega
            exact .inr (.inr (.inr ⟨q4, fun hh => hx (.inr (.inr (.inr ⟨q4, hh⟩)))⟩)))
        have hrng : List.range h.length = List.range j ++ j :: ((List.range (h.length - j - 1)).map (fun x => j + (x + 1))) := by
          rw [show h.length = j + (h.length - j - 1 + 1) by omega, List.range_add, List.range_succ_eq_map]
          simp [Function.comp_def]
        rw [hrng, Srch.chain_append, hpre, Option.bind_some] at hch
        simp only [Srch.chain] at hch
        rw [st_step (6000 + 1) _ (e := spoilE a3 (rd_T128 h (j : Int))) (by rw [hat, if_pos rfl]), hst] at hch
        cases hch
end Go.Proofs.Ytkoiffkonjpoiaa.Pure
