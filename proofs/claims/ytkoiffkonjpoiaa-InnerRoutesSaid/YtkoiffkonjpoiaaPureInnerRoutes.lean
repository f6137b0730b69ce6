/- The statement InnerRoutes as plain Lean: what it computes is true for every input. No condition beyond the arguments' own bounds. -/
import Derived.Test.YtkoiffkonjpoiaaQLInnerRoutes
import Derived.Test.YtkoiffkonjpoiaaYInner5
import Derived.Test.YtkoiffkonjpoiaaYInner6
namespace Go.Proofs.Ytkoiffkonjpoiaa.Pure
open Go.RowKit Go.Proofs.Ytkoiffkonjpoiaa.Q Go.Proofs.YtkoiffkonjpoiaaW.PrintWords Go.Proofs.YtkoiffkonjpoiaaW.PrintLast Go.Proofs.Ytkoiffkonjpoiaa.Y
theorem wfR8_bounds {n : Int} (h : (Lit.int .u8 n).wf = true) : 0 ≤ n ∧ n ≤ 255 := by
  have h' : (decide (IntKind.u8.min ≤ n) && decide (n ≤ IntKind.u8.max)) = true := h
  rw [Bool.and_eq_true, decide_eq_true_iff, decide_eq_true_iff] at h'
  have e1 : IntKind.u8.min = 0 := by decide
  have e2 : IntKind.u8.max = 255 := by decide
  omega
theorem tmod_nat (a b : Nat) : Int.tmod (a : Int) (b : Int) = ((a % b : Nat) : Int) := rfl
theorem mod_some (n N : Nat) (h : 0 < N) : ∃ p, p < N ∧ Int.tmod (n : Int) (N : Int) = (p : Int) := ⟨n % N, Nat.mod_lt _ h, tmod_nat _ _⟩
theorem wrap_sub1 (N p : Nat) (h : p < N) (hN : N < 1000) : wrap64 ((N : Int) - (p : Int)) = ((N - p : Nat) : Int) := by unfold wrap64; omega
theorem wrap_small (n : Nat) (h : n < 1000) : wrap64 (n : Int) = (n : Int) := by unfold wrap64; omega
theorem wraps4 (n1 n2 N p q : Nat) (h1 : n1 < 1000) (h2 : n2 < 1000) (h3 : p < N) (h4 : N < 1000) (h5 : q < N - p) : wrap64 (n1 : Int) = (n1 : Int) ∧ wrap64 (n2 : Int) = (n2 : Int) ∧ wrap64 ((N : Int) - (p : Int)) = ((N - p : Nat) : Int) ∧ wrap64 (wrap64 ((p : Int) + 1) + (q : Int)) = ((p + 1 + q : Nat) : Int) := by
  refine ⟨wrap_small _ (by omega), wrap_small _ (by omega), wrap_sub1 _ _ h3 h4, ?_⟩
  rw [wrap_succ p (by omega), show ((p + 1 : Nat) : Int) + (q : Int) = ((p + 1 + q : Nat) : Int) by omega]
  exact wrap_small _ (by omega)
theorem parted_f (raw : List Int) (a1 a2 : Int) (k : Nat) (hl : raw.length ≤ 40) (h1 : 0 ≤ a1 ∧ a1 ≤ 255) (h2 : 0 ≤ a2 ∧ a2 ≤ 255) (hk : 5000 ≤ k) (K : List Int) (hK : (rise raw).map (·.f0) = K) :
    ∃ at' t : Nat, at' < t ∧ t ≤ K.length + 1 ∧ boscagelaw03_parted.f (k + 1) raw a1 a2 = some (K, wayL 1 (K.length + 1), K.take at' ++ [] ++ K.drop (t - 1), (wayL 1 (K.length + 1)).take at' ++ [-5] ++ (wayL 1 (K.length + 1)).drop t, (K.take (t - 1)).drop at', ((wayL 1 (K.length + 1)).take t).drop at', (at' : Int)) := by
  have hn := rise_length raw
  have hKl : K.length = (rise raw).length := by rw [← hK]; simp
  obtain ⟨n1, rfl⟩ := Int.eq_ofNat_of_zero_le h1.1
  obtain ⟨n2, rfl⟩ := Int.eq_ofNat_of_zero_le h2.1
  have hO := Of_f raw 1 (by omega) (k + 1) (by omega) (by omega)
  rw [hK, ← hKl] at hO
  have hWl := wayL_length 1 (K.length + 1)
  obtain ⟨p, b1, t1⟩ := mod_some n1 (K.length + 1) (by omega)
  obtain ⟨q, b2, t2⟩ := mod_some n2 (K.length + 1 - p) (by omega)
  refine ⟨p, p + 1 + q, by omega, by omega, ?_⟩
  generalize wayL 1 (K.length + 1) = W at hO hWl ⊢
  have hC := Cut_f K W p (p + 1 + q) (k + 1) hWl (by omega) (by omega) (by omega) (by omega)
  have hI := Instead_f K W [] [-5] p (p + 1 + q) k hWl (by omega) (by omega) (by omega) (by simp) (by simp) (by omega)
  have z1 : ¬ ((K.length + 1 : Nat) : Int) = 0 := by omega
  have z2 : ¬ ((K.length + 1 - p : Nat) : Int) = 0 := by omega
  obtain ⟨w1, w2, w3, w4⟩ := wraps4 n1 n2 (K.length + 1) p q (by omega) (by omega) b1 (by omega) b2
  unfold boscagelaw03_parted.f
  rw [hO, Option.bind_some]
  show (if (W.length : Int) = 0 then none else _) = _
  rw [hWl, if_neg z1, w1, w2, t1, w3, t2, w4, if_neg z2, hC, Option.bind_some, hI, Option.bind_some]
theorem InnerRoutes : boscagelaw03_InnerRoutes.Pure := by
  intro raw a1 a2 x _ _ _ h1 h2 _
  obtain ⟨m, hm⟩ : ∃ m, m = 6000 := ⟨_, rfl⟩
  refine ⟨m + 1, ?_⟩
  unfold boscagelaw03_InnerRoutes.f
  rw [Awake03 _ (by omega), Option.bind_some, if_pos rfl]
  by_cases hl : (raw.length : Int) > 40
  · rw [if_pos hl]
  · have hn := rise_length raw
    have hs := keys_rise raw
    obtain ⟨K, hK⟩ : ∃ K, (rise raw).map (·.f0) = K := ⟨_, rfl⟩
    have hKl : K.length = (rise raw).length := by rw [← hK]; simp
    rw [hK] at hs
    obtain ⟨p, t, hpt, htn, he⟩ := parted_f raw a1 a2 m (by omega) (wfR8_bounds h1) (wfR8_bounds h2) (by omega) K hK
    obtain ⟨W, hW⟩ : ∃ W, W = wayL 1 (K.length + 1) := ⟨_, rfl⟩
    have hWl : W.length = K.length + 1 := by rw [hW, wayL_length]
    have hWr : ∀ c : Nat, c ≤ K.length → rd W (c : Int) = 1 + (c : Int) := fun c hc => by rw [hW]; exact rd_ways _ _ _ (by omega)
    rw [if_neg hl, he, Option.bind_some, ← hW]
    dsimp only
    rw [List.append_nil]
    have hc := cle_le K x
    obtain ⟨c, hcc⟩ : ∃ c, c = cle K x := ⟨_, rfl⟩
    rw [← hcc] at hc
    -- the page without the part
    have lK : (K.take p ++ K.drop (t - 1)).length = p + (K.length - (t - 1)) := by simp; omega
    have lW : (W.take p ++ [-5] ++ W.drop t).length = p + 1 + (K.length + 1 - t) := by simp; omega
    have sK : (K.take p ++ K.drop (t - 1)).Pairwise (· < ·) := by
      have h3 : (K.take p ++ K.drop (t - 1)).Sublist K := by
        conv => rhs; rw [← List.take_append_drop p K]
        exact List.Sublist.append (List.Sublist.refl _) (List.drop_sublist_drop_left K (by omega))
      exact hs.sublist h3
    have cK : cle (K.take p ++ K.drop (t - 1)) x = min p c + (c - (t - 1)) := by
      rw [cle_app, (cle_cut K x p (by omega) hs).1, (cle_cut K x (t - 1) (by omega) hs).2, ← hcc]
    -- the part
    have lO : ((K.take (t - 1)).drop p).length = t - 1 - p := by simp; omega
    have lP : ((W.take t).drop p).length = t - p := by simp; omega
    have sO : ((K.take (t - 1)).drop p).Pairwise (· < ·) := pw_drop (pw_take hs _) _
    have cO : cle ((K.take (t - 1)).drop p) x = min (t - 1) c - p := by
      rw [(cle_cut (K.take (t - 1)) x p (by simp; omega) (pw_take hs _)).2, (cle_cut K x (t - 1) (by omega) hs).1, ← hcc]
    -- both
    have eK : (K.take p ++ K.drop (t - 1)).take p ++ (K.take (t - 1)).drop p ++ (K.take p ++ K.drop (t - 1)).drop p = K := by
      rw [List.take_left' (by simp; omega), List.drop_left' (by simp; omega)]
      have : K.take p ++ (K.take (t - 1)).drop p = K.take (t - 1) := by
        conv => rhs; rw [← List.take_append_drop p (K.take (t - 1)), List.take_take, Nat.min_eq_left (by omega)]
      rw [this, List.take_append_drop]
    have eW : (W.take p ++ [-5] ++ W.drop t).take p ++ (W.take t).drop p ++ (W.take p ++ [-5] ++ W.drop t).drop (p + 1) = W := by
      rw [List.append_assoc (W.take p) [-5], List.take_left' (by simp; omega), ← List.append_assoc, List.drop_left' (by simp; omega)]
      have : W.take p ++ (W.take t).drop p = W.take t := by
        conv => rhs; rw [← List.take_append_drop p (W.take t), List.take_take, Nat.min_eq_left (by omega)]
      rw [this, List.take_append_drop]
    rw [Absorb_yes _ _ _ _ p m (by omega) (by rw [lW, lK]; omega) (by rw [lW]; omega) (by omega) (by rw [lP, lO]; omega), Option.bind_some, eK, eW]
    dsimp only
    rw [on_f _ _ x _ sK (by omega) (by rw [lW, lK]; omega) (by omega), Option.bind_some, cK, ISame_f K W _ (by omega) (by omega) (by omega), on_f K W x _ hs (by omega) hWl (by omega), ← hcc, hWr c hc]
    have hpos : decide ((1 : Int) + (c : Int) > 0) = true := decide_eq_true (by omega)
    by_cases g1 : c < p
    · have e1 : rd (W.take p ++ [-5] ++ W.drop t) ((min p c + (c - (t - 1)) : Nat) : Int) = 1 + (c : Int) := by
        rw [show min p c + (c - (t - 1)) = c by omega, List.append_assoc, rd_left _ _ _ (by simp; omega), rd_take _ _ _ g1, hWr c hc]
      rw [e1, if_neg (by omega), Option.bind_some, if_pos rfl, Option.bind_some, if_pos rfl, hpos]
    · by_cases g2 : c ≤ t - 1
      · have e1 : rd (W.take p ++ [-5] ++ W.drop t) ((min p c + (c - (t - 1)) : Nat) : Int) = -5 := by
          rw [show min p c + (c - (t - 1)) = p by omega, List.append_assoc, rd_right _ _ p 0 (by simp; omega)]
          rfl
        rw [e1, if_pos rfl, on_f _ _ x _ sO (by omega) (by rw [lP, lO]; omega) (by omega), Option.bind_some, cO, show min (t - 1) c - p = c - p by omega, rd_drop, show p + (c - p) = c by omega, rd_take _ _ _ (by omega), hWr c hc, Option.bind_some, if_pos rfl, Option.bind_some, if_pos rfl, hpos]
      · have e1 : rd (W.take p ++ [-5] ++ W.drop t) ((min p c + (c - (t - 1)) : Nat) : Int) = 1 + (c : Int) := by
          rw [show min p c + (c - (t - 1)) = p + 1 + (c - t) by omega, rd_right _ _ _ (c - t) (by simp; omega), rd_drop, show t + (c - t) = c by omega, hWr c hc]
        rw [e1, if_neg (by omega), Option.bind_some, if_pos rfl, Option.bind_some, if_pos rfl, hpos]
end Go.Proofs.Ytkoiffkonjpoiaa.Pure
