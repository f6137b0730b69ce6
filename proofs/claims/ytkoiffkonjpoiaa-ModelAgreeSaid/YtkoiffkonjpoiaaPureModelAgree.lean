/- The statement ModelAgree as plain Lean: what it computes is true for every input. No condition beyond the arguments' own bounds. -/
import Derived.Test.YtkoiffkonjpoiaaQLModelAgree
import Derived.Test.YtkoiffkonjpoiaaYModel2
namespace Go.Proofs.Ytkoiffkonjpoiaa.Pure
open Go.RowKit Go.Proofs.Ytkoiffkonjpoiaa.Q Go.Proofs.YtkoiffkonjpoiaaW.PrintWords Go.Proofs.YtkoiffkonjpoiaaW.PrintLast Go.Proofs.Ytkoiffkonjpoiaa.Y
theorem upMA {α : Type} {f : Nat → Option α} (mono : ∀ k, LeO (f k) (f (k + 1))) {k m : Nat} {r : α} (h : k ≤ m) (e : f k = some r) : f m = some r := by
  induction h with
  | refl => exact e
  | step _ ih => exact mono _ r ih
/-- An element that is found is one of them. -/
theorem oneR_mem (l : List S40) (i : Int) (h : (oneR l i).1 = true) : ∃ p ∈ l, (oneR l i).2.1 = p.f0 := by
  unfold oneR at h ⊢
  by_cases h0 : 0 ≤ i
  · rw [if_pos h0] at h ⊢
    cases hp : l[i.toNat]? with
    | none => rw [hp] at h; cases h
    | some p => exact ⟨p, List.mem_of_getElem? hp, rfl⟩
  · rw [if_neg h0] at h
    cases h
theorem oneR_last (A : List S40) (q : S40) : oneR (A ++ [q]) (((A ++ [q]).length : Int) - 1) = (true, q.f0, q.f1) := by
  have e : ((A ++ [q]).length : Int) - 1 = (A.length : Int) := by simp
  rw [e]
  unfold oneR
  rw [if_pos (by omega), Int.toNat_natCast, List.getElem?_append_right (Nat.le_refl _), Nat.sub_self]
  rfl
theorem oneR_first (q : S40) (A : List S40) : oneR (q :: A) 0 = (true, q.f0, q.f1) := rfl
theorem lo_last {A : List S40} {q : S40} (hs : srt (A ++ [q])) : lo (A ++ [q]) q.f0 = A := by
  rw [lo_app, lo_none (l := [q]) (fun p hp => by simp at hp; rw [hp]; exact Int.le_refl _), List.append_nil]
  refine lo_all (fun p hp => ?_)
  have h := List.pairwise_append.1 hs
  exact h.2.2 p hp q (by simp)
theorem valL_has {L : List S40} {b v : Int} (hc : kcnt L b = (lo L b).length) (hh : khas L b = true) (hv : L = lo L b ++ ⟨b, v⟩ :: hi L b) : valL L b = v := by
  have e : L[(lo L b).length]? = some ⟨b, v⟩ := by
    have h := congrArg (fun l : List S40 => l[(lo L b).length]?) hv
    rw [h, List.getElem?_append_right (Nat.le_refl _), Nat.sub_self]
    rfl
  unfold valL
  rw [if_pos hh, hc]
  simp [rd_T40, List.getD_eq_getElem?_getD, e]
theorem ModelAgree (l0 : List Int) (x : Int) (_y0 : l0.length ≤ 9223372036854775807) (w0 : ∀ y ∈ l0, X.wf y) (w1 : X.wf x) : ∃ k, boscagelaw18_ModelAgree.f k l0 x = some true := by
  obtain ⟨m, hm⟩ : ∃ m, m = 6000 := ⟨_, rfl⟩
  refine ⟨m, ?_⟩
  unfold boscagelaw18_ModelAgree.f
  rw [upMA boscagelaw18_Awake.mono (by omega) Awake18, Option.bind_some, if_pos rfl]
  by_cases hl : (l0.length : Int) < 1 ∨ 50 < (l0.length : Int)
  · rw [if_pos hl]
  · have hs := srt_rise l0
    have hn := rise_length l0
    have hne := rise_ne l0 (fun h => hl (by rw [h]; left; decide))
    have hwk : ∀ p ∈ rise l0, X.wf p.f0 := rising_wf l0 0 [] w0 (by simp)
    have hR := Rising_f l0 m (by omega) (by omega)
    have hlen : (rise l0).length < 1000 := by omega
    rw [if_neg hl, hR, Option.bind_some]
    generalize rise l0 = L at hs hne hwk hlen
    have hlow : ∀ p ∈ L, -9223372036854775808 ≤ p.f0 := fun p hp => (wf_bounds (hwk p hp)).1
    have hup : ∀ p ∈ L, p.f0 ≤ 9223372036854775807 := fun p hp => (wf_bounds (hwk p hp)).2
    have hk : 1000 ≤ m := by omega
    obtain ⟨A, q, hA⟩ : ∃ A q, L = A ++ [q] := by
      rcases List.eq_nil_or_concat L with h | ⟨A, q, h⟩
      · exact absurd h hne
      · exact ⟨A, q, by rw [h]; simp⟩
    have hG : oneR L ((L.length : Int) - 1) = (true, q.f0, q.f1) := by rw [hA]; exact oneR_last A q
    have hq : q ∈ L := by rw [hA]; simp
    have hlo : (lo L q.f0).length + 1 = L.length := by
      have h1 := lo_last (hA ▸ hs)
      rw [← hA] at h1
      rw [h1, hA]
      simp
    have h8 := ap8 m hlow hup hlen hk q.f0 ⟨hlow q hq, hup q hq⟩
    have h8x := ap8 m hlow hup hlen hk x (wf_bounds w1)
    have hU : oneR (L.filter (fun p => decide (x ≤ p.f0))) 0 = oneR L ((lo L x).length : Int) := by
      obtain ⟨hc, ⟨hh, v, hv⟩ | ⟨hh, hv⟩⟩ := view hs x
      · rw [ge_has hv]
        exact one_ceil hv
      · rw [ge_not hv]
        exact one_ceil hv
    rw [ap7 m hlow hup hlen hk, hG, Option.bind_some, ap10 m hlow hup hlen hk, Option.bind_some]
    dsimp only
    rw [h8, Option.bind_some, h8x, Option.bind_some, ap5 m hlow hup hlen hk x, Option.bind_some, ap4 m hlow hup hlen hk x, Option.bind_some]
    dsimp only
    rw [ap9 m hlow hup hlen hk, Option.bind_some, ap0 m hlow hup hlen hk hs x, Option.bind_some]
    dsimp only
    have ew : wrap64 (((lo L q.f0).length : Int) + 1) = (L.length : Int) := by rw [wrap_succ _ (by omega)]; omega
    have c2 := hU
    refine if_pos ⟨⟨hlen, ew.symm, rfl⟩, ⟨by rw [hU], by rw [hU], by rw [hU]⟩, fun hh => ?_, fun hh => ?_⟩
    · obtain ⟨hc, ⟨h1, v, hv⟩ | ⟨h1, hv⟩⟩ := view hs x
      · rw [le_has hv, ge_has hv, oneR_last, oneR_first, valL_has hc h1 hv]
        exact ⟨rfl, rfl, rfl, rfl⟩
      · rw [h1] at hh
        cases hh
    · obtain ⟨hc, ⟨h1, v, hv⟩ | ⟨h1, hv⟩⟩ := view hs x
      · rw [h1] at hh
        cases hh
      · rw [le_not hv, ge_not hv]
        constructor
        · cases h2 : (oneR (lo L x) (((lo L x).length : Int) - 1)).1 with
          | false => exact .inl rfl
          | true =>
            obtain ⟨p, hp, hp2⟩ := oneR_mem _ _ h2
            exact .inr (by rw [hp2]; exact (mem_lo hp).2)
        · cases h2 : (oneR (hi L x) 0).1 with
          | false => exact .inl rfl
          | true =>
            obtain ⟨p, hp, hp2⟩ := oneR_mem _ _ h2
            exact .inr (by rw [hp2]; exact (mem_hi hp).2)
end Go.Proofs.Ytkoiffkonjpoiaa.Pure
