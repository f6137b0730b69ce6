/- Go functions of the program as plain Lean functions, and for each the contract that the call comes to its answers; written by a turned print of this session. -/
import Derived.Test.YtkoiffkonjpoiaaQ0
namespace Go.Proofs.Ytkoiffkonjpoiaa.Q
open Go.RowKit Go.Proofs.YtkoiffkonjpoiaaW.PrintWords Go.Proofs.YtkoiffkonjpoiaaW.PrintLast Go.Proofs.YtkoiffkonjpoiaaW.PrintMore Go.Proofs.YtkoiffkonjpoiaaX
attribute [local go_sem] max2_int min2_int max_two min_two max_three min_three max_four min_four   -- for this text's walks alone
set_option linter.unusedVariables false
set_option linter.unusedSimpArgs false

def enc40 (x : S40) : List Value := [.int .i64 x.f0, .int .i64 x.f1]
theorem flat40 : Flat k40 enc40 := ⟨fun w x cs => ⟨fun h => k40_open h, fun h => h ▸ k40_mk w x⟩, fun w b o x cs => ⟨fun h => k40_openM h, fun h => h ▸ k40_mkM w b o x⟩, fun _ => rfl, by decide⟩
theorem at40 {w wr : World} {A : Option Addr} {l : List S40} (hr : Kd.C k40 w A l.length l) (hb : Below w.heap.size w wr) (h : Nat) (p : S40) (hp : l[h]? = some p) : ∃ b o, A = some ⟨b, o, none⟩ ∧ wr.cell? ⟨b, o + h * 2, none⟩ = some (.int .i64 p.f0) ∧ wr.cell? ⟨b, o + h * 2 + 1, none⟩ = some (.int .i64 p.f1) := by
  rcases C_at flat40 (Kd.C_below hr hb) with h0 | ⟨b, o, rfl, hc⟩
  · have h1 := flatMap_get flat40 l h 0 p _ hp rfl
    rw [h0] at h1
    cases h1
  · exact ⟨b, o, rfl, hc _ _ (flatMap_get flat40 l h 0 p _ hp rfl), hc _ _ (flatMap_get flat40 l h 1 p _ hp rfl)⟩
abbrev srt (l : List S40) : Prop := l.Pairwise (fun a b => a.f0 < b.f0)
def kcnt (l : List S40) (k : Int) : Nat := l.countP (fun p => decide (p.f0 < k))
def khas (l : List S40) (k : Int) : Bool := l.any (fun p => decide (p.f0 = k))
/-- In a list whose keys rise: how many are below a key, and whether it is there. -/
def leaf_Leaf_find.f (l0 : List S40) (a1 : Int) : Option (Int × Bool) := if srt l0 ∧ l0.length < 8796093022208 then some ((kcnt l0 a1 : Int), khas l0 a1) else none
theorem kcnt_boundary (k : Int) : ∀ (l : List S40) (i : Nat), i ≤ l.length → (∀ t p, t < i → l[t]? = some p → p.f0 < k) → (∀ t p, i ≤ t → l[t]? = some p → k ≤ p.f0) → kcnt l k = i
  | [], i, hi, _, _ => by simp at hi; simp [hi, kcnt]
  | a :: r, 0, _, _, h2 => by
    unfold kcnt
    rw [List.countP_eq_zero]
    intro x hx
    obtain ⟨t, ht, rfl⟩ := List.getElem_of_mem hx
    have := h2 t _ (Nat.zero_le _) (List.getElem?_eq_getElem ht)
    simpa using this
  | a :: r, i + 1, hi, h1, h2 => by
    have ha : decide (a.f0 < k) = true := decide_eq_true (h1 0 a (Nat.succ_pos _) rfl)
    have := kcnt_boundary k r i (by simpa using hi) (fun t p ht hp => h1 (t + 1) p (by omega) (by simpa using hp)) (fun t p h3 h4 => h2 (t + 1) p (by omega) (by simpa using h4))
    unfold kcnt at this ⊢
    rw [List.countP_cons_of_pos (by simpa using ha), this]
theorem khas_at {l : List S40} (hs : srt l) (k : Int) (i : Nat) (h1 : ∀ t p, t < i → l[t]? = some p → p.f0 < k) (h2 : ∀ t p, i ≤ t → l[t]? = some p → k ≤ p.f0) : khas l k = true ↔ ∃ p, l[i]? = some p ∧ p.f0 = k := by
  unfold khas
  rw [List.any_eq_true]
  constructor
  · rintro ⟨x, hx, he⟩
    obtain ⟨t, ht, rfl⟩ := List.getElem_of_mem hx
    have he : (l[t]).f0 = k := by simpa using he
    have h3 : i ≤ t := by
      refine Nat.le_of_not_lt fun h => ?_
      have := h1 t _ h (List.getElem?_eq_getElem ht)
      omega
    have hi : i < l.length := by omega
    refine ⟨l[i], List.getElem?_eq_getElem hi, ?_⟩
    rcases Nat.lt_or_ge i t with h | h
    · have h4 := List.pairwise_iff_getElem.1 hs i t hi ht h
      have h5 := h2 i _ (Nat.le_refl _) (List.getElem?_eq_getElem hi)
      omega
    · obtain rfl : i = t := by omega
      exact he
  · rintro ⟨p, hp, he⟩
    exact ⟨p, List.mem_of_getElem? hp, by simpa using he⟩
def cmp3 (a k : Int) : Int := if a < k then -1 else if a > k then 1 else 0
set_option maxHeartbeats 2000000 in
set_option maxRecDepth 100000 in
theorem cmp_calls (p : S40) (k : Int) (w : World) :
    Calls Try.prog 124 #[.agg #[.int .i64 p.f0, .int .i64 p.f1], .int .i64 k] w fun e w' => e = .returned (.int .i64 (cmp3 p.f0 k)) ∧ Below w.heap.size w w' := by
  have hu40 := Try.underlying40
  generalize p.f0 = a
  generalize p.f1 = b
  by_cases h1 : a < k
  · have hd : cmp3 a k = -1 := by simp [cmp3, h1]
    rw [hd]
    clear hd
    go_enter Try.func124, Try.ntmps124
    go_wp2
    go_ret
    exact ⟨rfl, (Below.refl _ _).alloc (Nat.le_refl _) _⟩
  · by_cases h2 : a > k
    · have hd : cmp3 a k = 1 := by simp [cmp3, h1, h2]
      rw [hd]
      clear hd
      go_enter Try.func124, Try.ntmps124
      go_wp2
      go_ret
      exact ⟨rfl, (Below.refl _ _).alloc (Nat.le_refl _) _⟩
    · have hd : cmp3 a k = 0 := by simp [cmp3, h1, h2]
      rw [hd]
      clear hd
      go_enter Try.func124, Try.ntmps124
      go_wp2
      go_ret
      exact ⟨rfl, (Below.refl _ _).alloc (Nat.le_refl _) _⟩
set_option maxHeartbeats 4000000 in
set_option maxRecDepth 100000 in
theorem search_calls (A0 : Option Addr) (c0 : Nat) (l0 : List S40) (a1 : Int) (w : World) (hr0 : Kd.C k40 w A0 l0.length l0) (hs : srt l0) (hl : l0.length < 8796093022208) :
    Calls Try.prog 123 #[.slice A0 l0.length c0, .int .i64 a1, .func (.func 124) #[] #[]] w fun e w' => e = .returned (.tuple #[.int .i64 (kcnt l0 a1 : Int), .bool (khas l0 a1)]) ∧ Below w.heap.size w w' := by
  have hu40 := Try.underlying40
  have HR := Lib.hid hr0
  have HS := Lib.hid hs
  clear hr0 hs
  have S0 := Lib.hid (Below.refl w.heap.size w)
  generalize hcnt : (kcnt l0 a1 : Int) = cnt
  have CN := Lib.hid hcnt
  clear hcnt
  generalize hfin : khas l0 a1 = fin
  have FIN := Lib.hid hfin
  clear hfin
  go_enter Try.func123, Try.ntmps123
  go_wp2
  go_loopg [9, 10] l0.length (fun kx s9 s10 wr => ∃ lo hi : Nat, s9 = .int .i64 lo ∧ s10 = .int .i64 hi ∧ lo ≤ hi ∧ hi ≤ l0.length ∧ hi - lo ≤ kx ∧ Hid (Below w.heap.size w wr) ∧
    Hid ((∀ t p, t < lo → l0[t]? = some p → p.f0 < a1) ∧ (∀ t p, hi ≤ t → l0[t]? = some p → a1 ≤ p.f0)))
  case atStart => exact ⟨0, l0.length, rfl, rfl, Nat.zero_le _, Nat.le_refl _, by omega, S0, Lib.hid ⟨fun t p ht => absurd ht (Nat.not_lt_zero _), fun t p h1 h2 => by rw [List.getElem?_eq_none h1] at h2; cases h2⟩⟩
  case round =>
    clear S0
    obtain ⟨lo, hi, rfl, rfl, hlh, hin, hg, S1, I⟩ := hrel
    by_cases hlt : lo < hi
    · have hm : (lo + hi) / 2 < l0.length := by omega
      obtain ⟨p, hp⟩ : ∃ p, l0[(lo + hi) / 2]? = some p := ⟨_, List.getElem?_eq_getElem hm⟩
      obtain ⟨b, o, rfl, hx0, hx1⟩ := at40 HR.out S1.out _ p hp
      have HP := Lib.hid hp
      clear hp
      have hc := cmp_calls p a1 wr
      by_cases hyx : p.f0 < a1
      · have hy : cmp3 p.f0 a1 = -1 := by simp [cmp3, hyx]
        rw [hy] at hc
        clear hy
        have I2 : Hid ((∀ t p, t < (lo + hi) / 2 + 1 → l0[t]? = some p → p.f0 < a1) ∧ (∀ t p, hi ≤ t → l0[t]? = some p → a1 ≤ p.f0)) := Lib.hid ⟨fun t q ht hq => by
          rcases Nat.lt_or_ge t ((lo + hi) / 2) with h | h
          · obtain ⟨ht', rfl⟩ := List.getElem?_eq_some_iff.1 hq
            obtain ⟨hm', rfl⟩ := List.getElem?_eq_some_iff.1 HP.out
            have := List.pairwise_iff_getElem.1 HS.out t _ ht' hm' h
            omega
          · obtain rfl : t = (lo + hi) / 2 := by omega
            have := HP.out
            rw [hq] at this
            obtain rfl := Option.some.inj this
            exact hyx, I.out.2⟩
        clear I
        generalize p.f0 = pa at hc hyx hx0
        generalize p.f1 = pb at hc hx1
        go_wp2_with (go_at_call 124; refine hc.mono ?_; rintro e w' ⟨rfl, hb1⟩)
        go_roundg (hi - ((lo + hi) / 2 + 1))
        case measure => omega
        case rel => exact ⟨(lo + hi) / 2 + 1, hi, by rw [show ((lo : Int) + (hi : Int)) / 2 + 1 = (((lo + hi) / 2 + 1 : Nat) : Int) by omega], rfl, by omega, hin, Nat.le_refl _, Lib.hid (below_then S1.out S1.out.size hb1), I2⟩
      · have I2 : Hid ((∀ t p, t < lo → l0[t]? = some p → p.f0 < a1) ∧ (∀ t p, (lo + hi) / 2 ≤ t → l0[t]? = some p → a1 ≤ p.f0)) := Lib.hid ⟨I.out.1, fun t q ht hq => by
          rcases Nat.lt_or_ge ((lo + hi) / 2) t with h | h
          · obtain ⟨ht', rfl⟩ := List.getElem?_eq_some_iff.1 hq
            obtain ⟨hm', rfl⟩ := List.getElem?_eq_some_iff.1 HP.out
            have := List.pairwise_iff_getElem.1 HS.out _ t hm' ht' h
            omega
          · obtain rfl : t = (lo + hi) / 2 := by omega
            have := HP.out
            rw [hq] at this
            obtain rfl := Option.some.inj this
            omega⟩
        clear I
        have hy : 0 ≤ cmp3 p.f0 a1 := by unfold cmp3; split; omega; split <;> omega
        generalize cmp3 p.f0 a1 = cc at hc hy
        generalize p.f0 = pa at hc hyx hx0
        generalize p.f1 = pb at hc hx1
        go_wp2_with (go_at_call 124; refine hc.mono ?_; rintro e w' ⟨rfl, hb1⟩)
        go_roundg ((lo + hi) / 2 - lo)
        case measure => omega
        case rel => exact ⟨lo, (lo + hi) / 2, rfl, by rw [show ((lo : Int) + (hi : Int)) / 2 = (((lo + hi) / 2 : Nat) : Int) by omega], by omega, by omega, Nat.le_refl _, Lib.hid (below_then S1.out S1.out.size hb1), I2⟩
    · obtain rfl : hi = lo := by omega
      have ecnt : kcnt l0 a1 = hi := kcnt_boundary a1 l0 hi hin I.out.1 I.out.2
      have hh := khas_at HS.out a1 hi I.out.1 I.out.2
      rw [FIN.out] at hh
      obtain rfl : cnt = (hi : Int) := by rw [← CN.out, ecnt]
      clear CN FIN ecnt I hlt hlh hg
      by_cases hn : hi < l0.length
      · obtain ⟨p, hp⟩ : ∃ p, l0[hi]? = some p := ⟨_, List.getElem?_eq_getElem hn⟩
        obtain ⟨b, o, rfl, hx0, hx1⟩ := at40 HR.out S1.out _ p hp
        have hc := cmp_calls p a1 wr
        have hfin : fin = decide (p.f0 = a1) := by
          rw [Bool.eq_iff_iff, hh, hp]
          simp
        clear hh hp
        by_cases he : p.f0 = a1
        · rw [decide_eq_true he] at hfin
          subst hfin
          have hy : cmp3 p.f0 a1 = 0 := by simp [cmp3, he]
          rw [hy] at hc
          clear hy he
          generalize p.f0 = pa at hc hx0
          generalize p.f1 = pb at hc hx1
          go_wp2_with (go_at_call 124; refine hc.mono ?_; rintro e w' ⟨rfl, hb1⟩)
          go_ret2
          exact ⟨rfl, below_then S1.out S1.out.size hb1⟩
        · rw [decide_eq_false he] at hfin
          subst hfin
          have hy : (cmp3 p.f0 a1 == 0) = false := by unfold cmp3; split; rfl; split; rfl; omega
          clear he
          generalize cmp3 p.f0 a1 = cc at hc hy
          generalize p.f0 = pa at hc hx0
          generalize p.f1 = pb at hc hx1
          go_wp2_with (go_at_call 124; refine hc.mono ?_; rintro e w' ⟨rfl, hb1⟩)
          go_ret2
          exact ⟨rfl, below_then S1.out S1.out.size hb1⟩
      · have hfin : fin = false := by
          rw [Bool.eq_false_iff]
          intro h
          obtain ⟨p, hp, _⟩ := hh.1 h
          rw [List.getElem?_eq_none (by omega)] at hp
          cases hp
        clear hh
        subst hfin
        go_wp2
        go_ret2
        exact ⟨rfl, S1.out⟩
set_option maxHeartbeats 2000000 in
set_option maxRecDepth 100000 in
theorem leaf_Leaf_find.calls (A0 : Option Addr) (c0 : Nat) (l0 : List S40) (a1 : Int) (r1 : Int) (r2 : Bool) (w : World) (hr0 : Kd.C k40 w A0 l0.length l0) (hc0 : l0.length ≤ c0) (h : leaf_Leaf_find.f l0 a1 = some (r1, r2)) :
    Calls Try.prog 98 #[.slice A0 l0.length c0, .int .i64 a1] w fun e w' => e = .returned (.tuple #[.int .i64 r1, .bool r2]) ∧ Below w.heap.size w w' := by
  unfold leaf_Leaf_find.f at h
  split at h
  · rename_i hs
    obtain ⟨rfl, rfl⟩ := Prod.mk.inj (Option.some.inj h)
    clear h
    have hc := search_calls A0 c0 l0 a1 w hr0 hs.1 hs.2
    generalize (kcnt l0 a1 : Int) = cnt at hc
    generalize khas l0 a1 = fin at hc
    clear hs hr0
    go_enter Try.func98, Try.ntmps98
    go_wp2_with (go_at_call 123; refine hc.mono ?_; rintro e w' ⟨rfl, hb1⟩)
    go_ret2
    exact ⟨rfl, hb1⟩
  · cases h

def leaf_Leaf_Get.f (l0 : List (S40)) (a1 : Int) : Option (Int × Bool) := (leaf_Leaf_find.f l0 a1).bind fun bt177 => (if bt177.2 = true then (if 0 ≤ bt177.1 then (if bt177.1 < (l0.length : Int) then (some ((rd_T40 l0 bt177.1).f1, true)) else (none)) else (none)) else (some (0, false)))
set_option maxHeartbeats 8000000 in
set_option maxRecDepth 100000 in
theorem leaf_Leaf_Get.calls (A0 : Option Addr) (c0 : Nat) (l0 : List (S40)) (a1 : Int) (r1 : Int) (r2 : Bool) (w : World) (hr0 : Kd.C k40 w A0 l0.length l0) (hc0 : l0.length ≤ c0) (h : leaf_Leaf_Get.f l0 a1 = some (r1, r2)) :
    Calls Try.prog 45 #[.slice A0 l0.length c0, .int .i64 a1] w fun e w' => e = .returned (.tuple #[.int .i64 r1, .bool r2]) ∧ Below w.heap.size w w' := by
  have HR0 := Aside0.mk hr0
  have HC0 := Aside0.mk hc0
  clear hr0 hc0
  have HB := Aside0.mk (Below.refl w.heap.size w)
  have H : ((leaf_Leaf_find.f l0 a1).bind fun bt177 => (if bt177.2 = true then (if 0 ≤ bt177.1 then (if bt177.1 < (l0.length : Int) then (some ((rd_T40 l0 bt177.1).f1, true)) else (none)) else (none)) else (some (0, false)))) = some (r1, r2) := h
  clear h
  replace H := Option.bind_eq_some_iff.mp H
  obtain ⟨⟨t177, t178⟩, A30, H⟩ := H
  replace H : (if t178 = true then (if 0 ≤ t177 then (if t177 < (l0.length : Int) then (some ((rd_T40 l0 t177).f1, true)) else (none)) else (none)) else (some (0, false))) = some (r1, r2) := H
  have A3 := Aside0.mk A30
  clear A30
  by_cases c4 : t178 = true
  · subst c4
    have H1 : (if 0 ≤ t177 then (if t177 < (l0.length : Int) then (some ((rd_T40 l0 t177).f1, true)) else (none)) else (none)) = some (r1, r2) := by rw [if_pos rfl] at H; exact H
    clear H
    have H := H1
    clear H1
    by_cases c5 : 0 ≤ t177
    · rw [if_pos c5] at H
      have c5b0 : decide (0 ≤ t177) = true := decide_eq_true c5
      clear c5
      by_cases c6 : t177 < (l0.length : Int)
      · rw [if_pos c6] at H
        have c6b0 : decide (t177 < (l0.length : Int)) = true := decide_eq_true c6
        clear c6
        simp only [Option.some.injEq, Prod.mk.injEq] at H
        obtain ⟨rfl, rfl⟩ := H
        go_enter Try.func45, Try.ntmps45
        go_wp2_with (first | ((with_reducible refine gate_callee (f := 98) rfl ?_); refine goesL_ (some 11) rfl rfl Try.func98 (by kernel_rfl) rfl #[.slice A0 l0.length c0, .int .i64 a1] rfl (by (try simp only [List.map_toArray, List.map_cons, List.map_nil]); first | done | rfl | (simp only [List.length_drop, List.length_take]; rfl)) ?_; (with_reducible refine (leaf_Leaf_find.calls _ _ l0 a1 t177 true _ ?side1 ?side2 A3.out).mono ?_); (case side1 => repeat (first | exact HR0.out | (with_reducible refine Kd.C_alloc ?_ _) | (with_reducible refine Kd.C_drewN ?_ _) | (with_reducible refine Kd.C_drew ?_))); (case side2 => exact HC0.out); rintro e w7 ⟨rfl, hb⟩; refine ⟨_, rfl, ?_⟩; have n0_ := Aside0.mk (below_step (by repeat (first | (with_reducible first | exact HB.out | apply below_alloc | apply pw_below_drewN | apply below_drew1) | exact HB.out)) hb); clear HB; have HB := n0_; clear n0_; (try clear hb); (try clear hb2); (try clear hk); (try clear hi); have p179 : 0 ≤ (t177 : Int) := of_decide_eq_true (by first | (with_reducible assumption) | assumption); have q179 : t177 < (l0.length : Int) := of_decide_eq_true (by first | (with_reducible assumption) | assumption); obtain ⟨ad179, e179, hx179_0, hx179_1⟩ := at_T40 HR0.out t177 p179 q179; cases e179; replace hx179_0 := (HB.out.cell (World.block_lt_of_cell? w _ hx179_0)).trans hx179_0; replace hx179_1 := (HB.out.cell (World.block_lt_of_cell? w _ hx179_1)).trans hx179_1; replace p179 := eq_true p179; replace q179 := eq_true q179))
        go_ret2
        exact ⟨by first | rfl | (simp [errW_none, errW_some] <;> rfl) | (simp [*, errW_none, errW_some] <;> rfl), by repeat (first | (with_reducible first | exact HB.out | apply below_alloc | apply pw_below_drewN | apply below_drew1) | exact HB.out)⟩
      · rw [if_neg c6] at H
        exact absurd H (by simp)
    · rw [if_neg c5] at H
      exact absurd H (by simp)
  · replace c4 := Bool.eq_false_iff.mpr c4
    subst c4
    have H1 : (some (0, false)) = some (r1, r2) := by rw [if_neg (show ¬ (false = true) by decide)] at H; exact H
    clear H
    have H := H1
    clear H1
    simp only [Option.some.injEq, Prod.mk.injEq] at H
    obtain ⟨rfl, rfl⟩ := H
    go_enter Try.func45, Try.ntmps45
    go_wp2_with (first | ((with_reducible refine gate_callee (f := 98) rfl ?_); refine goesL_ (some 11) rfl rfl Try.func98 (by kernel_rfl) rfl #[.slice A0 l0.length c0, .int .i64 a1] rfl (by (try simp only [List.map_toArray, List.map_cons, List.map_nil]); first | done | rfl | (simp only [List.length_drop, List.length_take]; rfl)) ?_; (with_reducible refine (leaf_Leaf_find.calls _ _ l0 a1 t177 false _ ?side1 ?side2 A3.out).mono ?_); (case side1 => repeat (first | exact HR0.out | (with_reducible refine Kd.C_alloc ?_ _) | (with_reducible refine Kd.C_drewN ?_ _) | (with_reducible refine Kd.C_drew ?_))); (case side2 => exact HC0.out); rintro e w8 ⟨rfl, hb⟩; refine ⟨_, rfl, ?_⟩; have n0_ := Aside0.mk (below_step (by repeat (first | (with_reducible first | exact HB.out | apply below_alloc | apply pw_below_drewN | apply below_drew1) | exact HB.out)) hb); clear HB; have HB := n0_; clear n0_; (try clear hb); (try clear hb2); (try clear hk); (try clear hi)))
    go_ret2
    exact ⟨by first | rfl | (simp [errW_none, errW_some] <;> rfl) | (simp [*, errW_none, errW_some] <;> rfl), by repeat (first | (with_reducible first | exact HB.out | apply below_alloc | apply pw_below_drewN | apply below_drew1) | exact HB.out)⟩

def leaf_Pair_99.f (l0 : List S40) : Option (List S40) := if l0.length < 8796093022208 then some l0 else none
theorem leaf_Pair_99.f_some {l0 r : List S40} (h : leaf_Pair_99.f l0 = some r) : l0.length < 8796093022208 ∧ r = l0 := by
  unfold leaf_Pair_99.f at h
  split at h
  · exact ⟨by assumption, (Option.some.inj h).symm⟩
  · cases h
set_option maxHeartbeats 2000000 in
set_option maxRecDepth 100000 in
theorem leaf_Pair_99.calls (A0 : Option Addr) (c0 : Nat) (l0 : List S40) (r : List S40) (w : World) (hr0 : Kd.C k40 w A0 l0.length l0) (hc0 : l0.length ≤ c0) (h : leaf_Pair_99.f l0 = some r) :
    Calls Try.prog 99 #[.slice A0 l0.length c0] w fun e w' => ∃ v0_ : Value, e = .returned v0_ ∧ Kd.R k40 40 w' w.heap.size (fun _ => True) v0_ r ∧ Below w.heap.size w w' := by
  obtain ⟨hl, rfl⟩ := leaf_Pair_99.f_some h
  clear h
  have q : ∀ (w : World) (a : Option Addr) (n c n' c' : Nat), (binOp .eql 34 (.slice a n c) (.slice none n' c')).run Try.prog w = .ok (.bool a.isNone) w := fun w a n c n' c' => Lib.run_eql_slice_nil w _ _ a n c n' c' Try.underlying34
  have hat := Lib.hid (C_at flat40 hr0)
  have hlen := Lib.hid (flatMap_length flat40 r)
  cases A0 with
  | none =>
    have h0 : r = [] := by
      rcases hat.out with h | ⟨b, o, h, _⟩
      · rw [h] at hlen
        have h1 := hlen.out
        exact List.eq_nil_of_length_eq_zero ((Nat.mul_eq_zero.1 h1.symm).resolve_right (by decide))
      · cases h
    subst h0
    clear hat hlen hr0
    go_enter Try.func99, Try.ntmps99
    go_wp2
    go_ret
    exact ⟨_, rfl, Kd.R_nil _ _ _ _ _, Below.refl _ _⟩
  | some ad =>
    obtain ⟨i0, hi, hz0, hz1, hz2⟩ := info_parts info40
    have hnews : Hid (∀ j u, (r.flatMap enc40)[j]? = some u → w.cell? (ad.add j) = some u) := Lib.hid (by
      rcases hat.out with h | ⟨b, o, h, hc⟩
      · rw [h]; intro j u hu; simp at hu
      · obtain rfl := Option.some.inj h
        intro j u hu
        rw [add_lit']
        exact hc j u hu)
    clear hat hr0
    go_enter Try.func99, Try.ntmps99
    go_wp2_with (at_builtin; refine wpList_append_own _ rfl _ _ 34 rfl w.heap.size 40 i0 _ _ _ Try.underlying34 hi hz0 hz1 hz2 rfl (by decide) _ _ _ rfl (World.ownsRow_made w #[] 0 (Nat.le_refl _) (Nat.zero_le _) (by simp)) ad r.length c0 (r.flatMap enc40) rfl ?qc1 ?qc2 ?qc3 ?qc4 ?qc5 ?qc6 ?_)
    case qc1 => exact hlen.out
    case qc2 =>
      intro j u hj
      exact Lib.cell?_alloc_some _ (hnews.out j u hj)
    case qc3 => exact Flat.ones flat40 r
    case qc4 => rw [Nat.zero_add]; simp only [maxLen]; omega
    case qc5 => rw [Nat.zero_add]; omega
    case qc6 => simp
    intro v' w1 hown hgrow hnil
    go_wp2
    go_ret
    refine ⟨v', rfl, (R_iff flat40).2 ⟨fun _ _ => trivial, hown⟩, ?_⟩
    exact ((Below.refl _ w).alloc (Nat.le_refl _) _).grown hgrow (by simp) (by intro k hk; simp [Value.ownBlock] at hk; omega)

end Go.Proofs.Ytkoiffkonjpoiaa.Q
namespace Go.Proofs.Ytkoiffkonjpoiaa.Q
open Go.RowKit Go.Proofs.YtkoiffkonjpoiaaW.PrintWords Go.Proofs.YtkoiffkonjpoiaaW.PrintLast Go.Proofs.YtkoiffkonjpoiaaW.PrintMore Go.Proofs.YtkoiffkonjpoiaaX
attribute [local go_sem] max2_int min2_int max_two min_two max_three min_three max_four min_four   -- for this text's walks alone
set_option linter.unusedVariables false
set_option linter.unusedSimpArgs false

theorem eqA40 (d : Nat) (w : World) (x0 y0 : Int) (x1 y1 : Int) :
    (Op.equalIn (d + 2) 40 (.agg #[.int .i64 x0, .int .i64 x1]) (.agg #[.int .i64 y0, .int .i64 y1])).run Try.prog w = .ok (x0 == y0 && (x1 == y1)) w := by
  refine eqA_of Try.underlying40 (by kernel_rfl) ?_
  refine eqf_cons (by rfl) (by go_simp; rfl) (by go_simp; rfl) (by go_simp) ?_
  exact eqf_last (by rfl) (by go_simp; rfl) (by go_simp; rfl) (by go_simp)
end Go.Proofs.Ytkoiffkonjpoiaa.Q
namespace Go.Proofs.Ytkoiffkonjpoiaa.Q
open Go.RowKit Go.Proofs.YtkoiffkonjpoiaaW.PrintWords Go.Proofs.YtkoiffkonjpoiaaW.PrintLast Go.Proofs.YtkoiffkonjpoiaaW.PrintMore Go.Proofs.YtkoiffkonjpoiaaX
attribute [local go_sem] max2_int min2_int max_two min_two max_three min_three max_four min_four   -- for this text's walks alone
set_option linter.unusedVariables false
set_option linter.unusedSimpArgs false

attribute [local go_sem high] eqA40
def leaf_Leaf_Between.l0 : Nat → Int → Int → List (S40) → List (S40) → Int → Int → Option ((List (S40)))
  | 0, _, _, _, _, _, _ => none
  | k + 1, x1, x2, x7, x10, x11, x12 => if x12 < x11 then (if 0 ≤ x12 then (if x12 < (x10.length : Int) then (if ((rd_T40 x10 x12).f0) ≥ x1 then (if ((rd_T40 x10 x12).f0) ≤ x2 then (if x7.length < 8796093022208 then (leaf_Leaf_Between.l0 k x1 x2 (x7 ++ [(⟨(rd_T40 x10 x12).f0, (rd_T40 x10 x12).f1⟩ : S40)]) x10 x11 (wrap64 (x12 + 1))) else (none)) else (leaf_Leaf_Between.l0 k x1 x2 x7 x10 x11 (wrap64 (x12 + 1)))) else (leaf_Leaf_Between.l0 k x1 x2 x7 x10 x11 (wrap64 (x12 + 1)))) else (none)) else (none)) else (some x7)
def leaf_Leaf_Between.f (k : Nat) (l0 : List (S40)) (a1 : Int) (a2 : Int) : Option ((List (S40))) := leaf_Leaf_Between.l0 k a1 a2 ([] : List (S40)) l0 (l0.length : Int) 0
set_option maxHeartbeats 8000000 in
set_option maxRecDepth 100000 in
theorem leaf_Leaf_Between.calls (k : Nat) (A0 : Option Addr) (c0 : Nat) (l0 : List (S40)) (a1 : Int) (a2 : Int) (r : List (S40)) (w : World) (hr0 : Kd.C k40 w A0 l0.length l0) (hc0 : l0.length ≤ c0) (h : leaf_Leaf_Between.f k l0 a1 a2 = some r) :
    Calls Try.prog 64 #[.slice A0 l0.length c0, .int .i64 a1, .int .i64 a2] w fun e w' => ∃ v0_ : Value, e = .returned (v0_) ∧ Kd.R k40 40 w' w.heap.size (fun _ => True) v0_ r ∧ Below w.heap.size w w' := by
  have hu40 := Try.underlying40
  have HR0 := Aside0.mk hr0
  have HC0 := Aside0.mk hc0
  clear hr0 hc0
  have HB := Aside0.mk (Below.refl w.heap.size w)
  have H : (leaf_Leaf_Between.l0 k a1 a2 ([] : List (S40)) l0 (l0.length : Int) 0) = some r := h
  clear h
  have H' := Aside0.mk H
  clear H
  go_enter Try.func64, Try.ntmps64
  go_wp2
  go_loopg [7, 12] k (fun kq v7 v12 w' => ∃ (x7_1 : List (S40)) (x12_1 : Int), v12 = .int .i64 x12_1 ∧ Aside0 (leaf_Leaf_Between.l0 kq a1 a2 x7_1 l0 (l0.length : Int) x12_1 = some r) ∧ Aside0 (kq ≤ k) ∧ Aside0 (Kd.R k40 40 w' w.heap.size (fun _ => True) v7 x7_1) ∧ Aside0 (Below w.heap.size w w'))
  case atStart => exact ⟨(([] : List (S40))), (0), (by first | rfl | (simp; done) | (simp [*]; done)), H', ⟨Nat.le_refl _⟩, ⟨by first | exact Kd.R_nil _ _ _ _ _ | exact Kd.N_nil _ _ _ _ _ | exact Kd.V_nil _ _ _ _ _ | exact Kd.Q_nil _ _ _ _ _ | exact Kd.S_nil _ _ _ _ _⟩, ⟨by repeat (first | (with_reducible first | exact HB.out | apply below_alloc | apply pw_below_drewN | apply below_drew1) | exact HB.out)⟩⟩
  case round =>
    clear H'
    try clear p2
    obtain ⟨x7_1, x12_1, rfl, HA, HK1, HO_7, HB⟩ := hrel
    cases gk with
    | zero => exact absurd HA.out (by simp [leaf_Leaf_Between.l0])
    | succ k1 =>
      have H := HA.out
      clear HA
      simp only [leaf_Leaf_Between.l0] at H
      by_cases c4 : x12_1 < (l0.length : Int)
      · rw [if_pos c4] at H
        have c4b0 : decide (x12_1 < (l0.length : Int)) = true := decide_eq_true c4
        clear c4
        by_cases c5 : 0 ≤ x12_1
        · rw [if_pos c5] at H
          have c5b0 : decide (0 ≤ x12_1) = true := decide_eq_true c5
          clear c5
          by_cases c6 : x12_1 < (l0.length : Int)
          · rw [if_pos c6] at H
            have c6b0 : decide (x12_1 < (l0.length : Int)) = true := decide_eq_true c6
            clear c6
            by_cases c7 : ((rd_T40 l0 x12_1).f0) ≥ a1
            · rw [if_pos c7] at H
              have c7b0 : decide (a1 ≤ ((rd_T40 l0 x12_1).f0)) = true := decide_eq_true c7
              clear c7
              by_cases c8 : ((rd_T40 l0 x12_1).f0) ≤ a2
              · rw [if_pos c8] at H
                have c8b0 : decide (((rd_T40 l0 x12_1).f0) ≤ a2) = true := decide_eq_true c8
                clear c8
                by_cases c9 : x7_1.length < 8796093022208
                · rw [if_pos c9] at H
                  have LMc9 := Aside0.mk c9
                  clear c9
                  obtain ⟨y593, hy593⟩ : ∃ y_ : List (S40), y_ = (x7_1 ++ [(⟨(rd_T40 l0 x12_1).f0, (rd_T40 l0 x12_1).f1⟩ : S40)]) := ⟨_, rfl⟩
                  replace H : (leaf_Leaf_Between.l0 k1 a1 a2 y593 l0 (l0.length : Int) (wrap64 (x12_1 + 1))) = some r := by first | (rw [hy593]; with_reducible exact H) | (have H2_ := (Option.bind_some _ _).symm.trans H; rw [hy593]; with_reducible exact H2_) | (have H2_ := (Option.bind_some _ _).symm.trans H; with_reducible exact H2_) | with_reducible exact H | (rw [hy593]; exact H) | exact H
                  have Ny593 := Aside0.mk hy593
                  clear hy593
                  have H' := Aside0.mk H
                  clear H
                  have p591 : 0 ≤ (x12_1 : Int) := of_decide_eq_true (by first | (with_reducible assumption) | assumption)
                  have q591 : x12_1 < (l0.length : Int) := of_decide_eq_true (by first | (with_reducible assumption) | assumption)
                  obtain ⟨ad591, e591, hx591_0, hx591_1⟩ := at_T40 HR0.out x12_1 p591 q591
                  cases e591
                  replace hx591_0 := (HB.out.cell (World.block_lt_of_cell? w _ hx591_0)).trans hx591_0
                  replace hx591_1 := (HB.out.cell (World.block_lt_of_cell? w _ hx591_1)).trans hx591_1
                  replace p591 := eq_true p591
                  replace q591 := eq_true q591
                  go_wp2_with (first | ((with_reducible refine gate_dst (N := 9) rfl ?_); refine box_event ?hg (N := 9) ?hd (cs := #[.int .i64 0, .int .i64 0]) (t := 40) ?hr ?_; (case hd => rfl); (case hg => rfl); (case hr => first | (go_simp; done) | (go_simp; rfl)); intro gb592 hg w10 hbox hb; have n0_ := Aside0.mk (Kd.R_below (Kd.R_elderB (by (with_reducible repeat (first | apply Kd.R_alloc | apply Kd.R_drewN | apply Kd.R_drew)); exact HO_7.out) gb592 (Nat.le_of_eq hg.symm)) hb); have n1_ := Aside0.mk (below_step (by repeat (first | (with_reducible first | exact HB.out | apply below_alloc | apply pw_below_drewN | apply below_drew1) | exact HB.out)) hb); have n2_ := Aside0.mk (hbox); have n3_ := Aside0.mk ((by rw [hg]; exact (below_size (by repeat (first | (with_reducible first | exact HB.out | apply below_alloc | apply pw_below_drewN | apply below_drew1) | exact HB.out))) : w.heap.size ≤ gb592)); have n4_ := Aside0.mk ((by rw [hg]; exact (below_size (by repeat (first | (with_reducible first | exact HB.out | apply below_alloc | apply pw_below_drewN | apply below_drew1) | exact HB.out))) : w.heap.size ≤ gb592)); clear HO_7; clear HB; have HO_7 := n0_; have HB := n1_; have BK592 := n2_; have GW592 := n3_; have GE592 := n4_; clear n0_ n1_ n2_ n3_ n4_; clear hb hbox hg; have hcz11_0 : w10.cell? ⟨gb592, 0, none⟩ = some (.int .i64 0) := (blk_cell BK592.out 0).trans rfl; have hcz11_1 : w10.cell? ⟨gb592, 1, none⟩ = some (.int .i64 0) := (blk_cell BK592.out 1).trans rfl; have hfz11_0 := blk_frozen BK592.out 0; have hfz11_1 := blk_frozen BK592.out 1) | ((with_reducible refine gate_builtin (b := .append) (xs := #[.tmp 26, .tmp 28]) rfl ?_); at_builtin; refine Kd.R_append k40 (w0 := w) w.heap.size rfl (.tmp 26) (.tmp 28) 34 40 (.agg #[(.int .i64 0), (.int .i64 0)]) 16 rfl Try.underlying34 info40 rfl (by decide) (by omega) u7 x7_1 (⟨(rd_T40 l0 x12_1).f0, (rd_T40 l0 x12_1).f1⟩ : S40) [.int .i64 ((rd_T40 l0 x12_1).f0), .int .i64 ((rd_T40 l0 x12_1).f1)] (fun k_ => k_ ≠ gb592) (fun _ => False) rfl (by first | (go_simp; done) | (go_simp; rfl)) ?aP (fun _ hk => hk.elim) ?aF ?aO ?aB ?aS ?aL ?_; (case aP => exact k40_mkM _ _ _ (⟨(rd_T40 l0 x12_1).f0, (rd_T40 l0 x12_1).f1⟩ : S40)); (case aB => exact (by repeat (first | (with_reducible first | exact HB.out | apply below_alloc | apply pw_below_drewN | apply below_drew1 | refine below_set ?_ GE592.out) | exact HB.out))); (case aF => exact (fun k_ hk => Kd.freshB (g := gb592) (o := .cells #[.int .i64 ((rd_T40 l0 x12_1).f0), .int .i64 ((rd_T40 l0 x12_1).f1)] 40 (0, 0)) (by (with_reducible repeat (first | refine blk_drewN ?_ _ | refine blk_drew ?_ | refine blk_alloc ?_ _)); refine blk_put (cs := #[.int .i64 ((rd_T40 l0 x12_1).f0), .int .i64 0]) ?_ 1 _ rfl; (with_reducible repeat (first | refine blk_drewN ?_ _ | refine blk_drew ?_ | refine blk_alloc ?_ _)); refine blk_put (cs := #[.int .i64 0, .int .i64 0]) ?_ 0 _ rfl; (with_reducible repeat (first | refine blk_drewN ?_ _ | refine blk_drew ?_ | refine blk_alloc ?_ _)); exact BK592.out) k_ hk)); (case aO => exact (by (with_reducible repeat (first | apply Kd.R_alloc | apply Kd.R_drewN | apply Kd.R_drew)); exact Kd.R_mono (Kd.R_far (p := ⟨gb592, 1, none⟩) (Kd.R_far (p := ⟨gb592, 0, none⟩) (Kd.R_mono HO_7.out (fun k_ hk => (⟨hk, hk.2⟩ : _ ∧ k_ ≠ gb592))) (fun _ hk => hk.2) (.int .i64 ((rd_T40 l0 x12_1).f0))) (fun _ hk => hk.2) (.int .i64 ((rd_T40 l0 x12_1).f1))) (fun _ hk => hk.1.2))); (case aS => exact (below_size (by repeat (first | (with_reducible first | exact HB.out | apply below_alloc | apply pw_below_drewN | apply below_drew1 | refine below_set ?_ GE592.out) | exact HB.out)))); (case aL => have := LMc9.out; omega); intro v594 w12 ho hb hg hat; rw [← Ny593.out] at ho; have n0_ := Aside0.mk (blk_grown (g := gb592) (o := .cells #[.int .i64 ((rd_T40 l0 x12_1).f0), .int .i64 ((rd_T40 l0 x12_1).f1)] 40 (0, 0)) (by (with_reducible repeat (first | refine blk_drewN ?_ _ | refine blk_drew ?_ | refine blk_alloc ?_ _)); refine blk_put (cs := #[.int .i64 ((rd_T40 l0 x12_1).f0), .int .i64 0]) ?_ 1 _ rfl; (with_reducible repeat (first | refine blk_drewN ?_ _ | refine blk_drew ?_ | refine blk_alloc ?_ _)); refine blk_put (cs := #[.int .i64 0, .int .i64 0]) ?_ 0 _ rfl; (with_reducible repeat (first | refine blk_drewN ?_ _ | refine blk_drew ?_ | refine blk_alloc ?_ _)); exact BK592.out) hg (Kd.R_away HO_7.out (fun _ hk => hk.2))); have n1_ := Aside0.mk (hb); have n2_ := Aside0.mk (ho); clear BK592; clear HB; clear HO_7; have BK592 := n0_; have HB := n1_; have HO595 := n2_; clear n0_ n1_ n2_; clear ho hb hg hat))
                  go_roundg k1
                  case measure => have := HK1.out; omega
                  case rel => exact ⟨(y593), (wrap64 (x12_1 + 1)), (by first | rfl | (simp; done) | (simp [*]; done)), H', ⟨by have := HK1.out; omega⟩, ⟨by (with_reducible repeat (first | apply Kd.R_alloc | apply Kd.R_drewN | apply Kd.R_drew)); exact Kd.R_mono HO595.out (fun _ hk => trivial)⟩, ⟨by repeat (first | (with_reducible first | exact HB.out | apply below_alloc | apply pw_below_drewN | apply below_drew1 | refine below_set ?_ GE592.out) | exact HB.out)⟩⟩
                · rw [if_neg c9] at H
                  exact absurd H (by simp)
              · rw [if_neg c8] at H
                have c8b0 : decide (((rd_T40 l0 x12_1).f0) ≤ a2) = false := decide_eq_false c8
                clear c8
                have H' := Aside0.mk H
                clear H
                have p591 : 0 ≤ (x12_1 : Int) := of_decide_eq_true (by first | (with_reducible assumption) | assumption)
                have q591 : x12_1 < (l0.length : Int) := of_decide_eq_true (by first | (with_reducible assumption) | assumption)
                obtain ⟨ad591, e591, hx591_0, hx591_1⟩ := at_T40 HR0.out x12_1 p591 q591
                cases e591
                replace hx591_0 := (HB.out.cell (World.block_lt_of_cell? w _ hx591_0)).trans hx591_0
                replace hx591_1 := (HB.out.cell (World.block_lt_of_cell? w _ hx591_1)).trans hx591_1
                replace p591 := eq_true p591
                replace q591 := eq_true q591
                go_wp2_with (first | ((with_reducible refine gate_dst (N := 9) rfl ?_); refine box_event ?hg (N := 9) ?hd (cs := #[.int .i64 0, .int .i64 0]) (t := 40) ?hr ?_; (case hd => rfl); (case hg => rfl); (case hr => first | (go_simp; done) | (go_simp; rfl)); intro gb592 hg w13 hbox hb; have n0_ := Aside0.mk (Kd.R_below (Kd.R_elderB (by (with_reducible repeat (first | apply Kd.R_alloc | apply Kd.R_drewN | apply Kd.R_drew)); exact HO_7.out) gb592 (Nat.le_of_eq hg.symm)) hb); have n1_ := Aside0.mk (below_step (by repeat (first | (with_reducible first | exact HB.out | apply below_alloc | apply pw_below_drewN | apply below_drew1) | exact HB.out)) hb); have n2_ := Aside0.mk (hbox); have n3_ := Aside0.mk ((by rw [hg]; exact (below_size (by repeat (first | (with_reducible first | exact HB.out | apply below_alloc | apply pw_below_drewN | apply below_drew1) | exact HB.out))) : w.heap.size ≤ gb592)); have n4_ := Aside0.mk ((by rw [hg]; exact (below_size (by repeat (first | (with_reducible first | exact HB.out | apply below_alloc | apply pw_below_drewN | apply below_drew1) | exact HB.out))) : w.heap.size ≤ gb592)); clear HO_7; clear HB; have HO_7 := n0_; have HB := n1_; have BK592 := n2_; have GW592 := n3_; have GE592 := n4_; clear n0_ n1_ n2_ n3_ n4_; clear hb hbox hg; have hcz14_0 : w13.cell? ⟨gb592, 0, none⟩ = some (.int .i64 0) := (blk_cell BK592.out 0).trans rfl; have hcz14_1 : w13.cell? ⟨gb592, 1, none⟩ = some (.int .i64 0) := (blk_cell BK592.out 1).trans rfl; have hfz14_0 := blk_frozen BK592.out 0; have hfz14_1 := blk_frozen BK592.out 1))
                go_roundg k1
                case measure => have := HK1.out; omega
                case rel => exact ⟨(x7_1), (wrap64 (x12_1 + 1)), (by first | rfl | (simp; done) | (simp [*]; done)), H', ⟨by have := HK1.out; omega⟩, ⟨by (with_reducible repeat (first | apply Kd.R_alloc | apply Kd.R_drewN | apply Kd.R_drew)); exact Kd.R_mono (Kd.R_far (p := ⟨gb592, 1, none⟩) (Kd.R_far (p := ⟨gb592, 0, none⟩) (Kd.R_mono HO_7.out (fun k_ hk => (⟨hk, hk.2⟩ : _ ∧ k_ ≠ gb592))) (fun _ hk => hk.2) (.int .i64 ((rd_T40 l0 x12_1).f0))) (fun _ hk => hk.2) (.int .i64 ((rd_T40 l0 x12_1).f1))) (fun _ hk => trivial)⟩, ⟨by repeat (first | (with_reducible first | exact HB.out | apply below_alloc | apply pw_below_drewN | apply below_drew1 | refine below_set ?_ GE592.out) | exact HB.out)⟩⟩
            · rw [if_neg c7] at H
              have c7b0 : decide (a1 ≤ ((rd_T40 l0 x12_1).f0)) = false := decide_eq_false c7
              clear c7
              have H' := Aside0.mk H
              clear H
              have p591 : 0 ≤ (x12_1 : Int) := of_decide_eq_true (by first | (with_reducible assumption) | assumption)
              have q591 : x12_1 < (l0.length : Int) := of_decide_eq_true (by first | (with_reducible assumption) | assumption)
              obtain ⟨ad591, e591, hx591_0, hx591_1⟩ := at_T40 HR0.out x12_1 p591 q591
              cases e591
              replace hx591_0 := (HB.out.cell (World.block_lt_of_cell? w _ hx591_0)).trans hx591_0
              replace hx591_1 := (HB.out.cell (World.block_lt_of_cell? w _ hx591_1)).trans hx591_1
              replace p591 := eq_true p591
              replace q591 := eq_true q591
              go_wp2_with (first | ((with_reducible refine gate_dst (N := 9) rfl ?_); refine box_event ?hg (N := 9) ?hd (cs := #[.int .i64 0, .int .i64 0]) (t := 40) ?hr ?_; (case hd => rfl); (case hg => rfl); (case hr => first | (go_simp; done) | (go_simp; rfl)); intro gb592 hg w15 hbox hb; have n0_ := Aside0.mk (Kd.R_below (Kd.R_elderB (by (with_reducible repeat (first | apply Kd.R_alloc | apply Kd.R_drewN | apply Kd.R_drew)); exact HO_7.out) gb592 (Nat.le_of_eq hg.symm)) hb); have n1_ := Aside0.mk (below_step (by repeat (first | (with_reducible first | exact HB.out | apply below_alloc | apply pw_below_drewN | apply below_drew1) | exact HB.out)) hb); have n2_ := Aside0.mk (hbox); have n3_ := Aside0.mk ((by rw [hg]; exact (below_size (by repeat (first | (with_reducible first | exact HB.out | apply below_alloc | apply pw_below_drewN | apply below_drew1) | exact HB.out))) : w.heap.size ≤ gb592)); have n4_ := Aside0.mk ((by rw [hg]; exact (below_size (by repeat (first | (with_reducible first | exact HB.out | apply below_alloc | apply pw_below_drewN | apply below_drew1) | exact HB.out))) : w.heap.size ≤ gb592)); clear HO_7; clear HB; have HO_7 := n0_; have HB := n1_; have BK592 := n2_; have GW592 := n3_; have GE592 := n4_; clear n0_ n1_ n2_ n3_ n4_; clear hb hbox hg; have hcz16_0 : w15.cell? ⟨gb592, 0, none⟩ = some (.int .i64 0) := (blk_cell BK592.out 0).trans rfl; have hcz16_1 : w15.cell? ⟨gb592, 1, none⟩ = some (.int .i64 0) := (blk_cell BK592.out 1).trans rfl; have hfz16_0 := blk_frozen BK592.out 0; have hfz16_1 := blk_frozen BK592.out 1))
              go_roundg k1
              case measure => have := HK1.out; omega
              case rel => exact ⟨(x7_1), (wrap64 (x12_1 + 1)), (by first | rfl | (simp; done) | (simp [*]; done)), H', ⟨by have := HK1.out; omega⟩, ⟨by (with_reducible repeat (first | apply Kd.R_alloc | apply Kd.R_drewN | apply Kd.R_drew)); exact Kd.R_mono (Kd.R_far (p := ⟨gb592, 1, none⟩) (Kd.R_far (p := ⟨gb592, 0, none⟩) (Kd.R_mono HO_7.out (fun k_ hk => (⟨hk, hk.2⟩ : _ ∧ k_ ≠ gb592))) (fun _ hk => hk.2) (.int .i64 ((rd_T40 l0 x12_1).f0))) (fun _ hk => hk.2) (.int .i64 ((rd_T40 l0 x12_1).f1))) (fun _ hk => trivial)⟩, ⟨by repeat (first | (with_reducible first | exact HB.out | apply below_alloc | apply pw_below_drewN | apply below_drew1 | refine below_set ?_ GE592.out) | exact HB.out)⟩⟩
          · rw [if_neg c6] at H
            exact absurd H (by simp)
        · rw [if_neg c5] at H
          exact absurd H (by simp)
      · rw [if_neg c4] at H
        have c4b0 : decide (x12_1 < (l0.length : Int)) = false := decide_eq_false c4
        clear c4
        obtain rfl := Option.some.inj H
        go_wp2
        go_ret
        exact ⟨_, by first | rfl | (simp [errW_none, errW_some] <;> rfl) | (simp [*, errW_none, errW_some] <;> rfl), by (with_reducible repeat (first | apply Kd.R_alloc | apply Kd.R_drewN | apply Kd.R_drew)); exact HO_7.out, by repeat (first | (with_reducible first | exact HB.out | apply below_alloc | apply pw_below_drewN | apply below_drew1) | exact HB.out)⟩

end Go.Proofs.Ytkoiffkonjpoiaa.Q
namespace Go.Proofs.Ytkoiffkonjpoiaa.Q
open Go.RowKit Go.Proofs.YtkoiffkonjpoiaaW.PrintWords Go.Proofs.YtkoiffkonjpoiaaW.PrintLast Go.Proofs.YtkoiffkonjpoiaaW.PrintMore Go.Proofs.YtkoiffkonjpoiaaX
attribute [local go_sem] max2_int min2_int max_two min_two max_three min_three max_four min_four   -- for this text's walks alone
set_option linter.unusedVariables false
set_option linter.unusedSimpArgs false

/-- Without the elements from a1 on up to a2 (one at least). -/
def leaf_Pair_108.f (l0 : List S40) (a1 a2 : Int) : Option (List S40) := if 0 ≤ a1 ∧ a1 < a2 ∧ a2 ≤ (l0.length : Int) then some (l0.take a1.toNat ++ l0.drop a2.toNat) else none
set_option maxHeartbeats 4000000 in
set_option maxRecDepth 100000 in
theorem leaf_Pair_108.low (g n cap i j : Nat) (cur : Array Value) (w : World) (hg : w.heap[g]? = some (.cells cur 40 (0, 0))) (hsz : cur.size = ((cap) * 2)) (hn : n ≤ cap) (hm : cap ≤ 9223372036854775807) (hij : i < j) (hj : j ≤ n) (h1 : ∀ u ∈ cur.toList.take ((n) * 2), u.oneCell' = true) :
    Calls Try.prog 108 #[.slice (some ⟨g, 0, none⟩) n cap, .int .i64 i, .int .i64 j] w fun e w' => e = .returned (.slice (some ⟨g, 0, none⟩) (i + (n - j)) cap) ∧ w' = (w.drew.setCells g ((i) * 2) ((cur.toList.take ((n) * 2)).drop ((j) * 2))).setCells g (((i + (n - j)) * 2)) (Builtin.zeroCells (Value.agg #[.int .i64 0, .int .i64 0]).cells (n - (i + (n - j)))).toList := by
  obtain ⟨i0, hi0, _, hz1, _⟩ := info_parts info40
  obtain ⟨news, hnews⟩ : ∃ news, news = (cur.toList.take ((n) * 2)).drop ((j) * 2) := ⟨_, rfl⟩
  have hlen : news.length = ((n - j) * 2) := by rw [hnews]; simp; omega
  obtain ⟨A, hA, hsrc⟩ : ∃ A : Addr, (if cap = j then some (⟨g, 0, none⟩ : Addr) else some ⟨g, ((j) * 2), none⟩) = some A ∧ Hid (∀ t u, news[t]? = some u → w.drew.cell? (A.add t) = some u) := by
    by_cases h : cap = j
    · refine ⟨⟨g, 0, none⟩, by simp [h], Lib.hid fun t u hu => ?_⟩
      have h0 : news.length = 0 := by rw [hlen]; omega
      rw [List.length_eq_zero_iff.1 h0] at hu
      simp at hu
    · refine ⟨⟨g, ((j) * 2), none⟩, by simp [h], Lib.hid fun t u hu => ?_⟩
      rw [add_lit']
      show w.cell? _ = _
      rw [cells_cell hg]
      rw [hnews, List.getElem?_drop, List.getElem?_take] at hu
      split at hu
      · exact hu
      · cases hu
  have s1 : Hid (news.length = ((n - j) * 2)) := Lib.hid hlen
  have s2 : Hid (∀ u ∈ news, u.oneCell' = true) := Lib.hid (by
    intro u hu
    rw [hnews] at hu
    exact h1 u (List.mem_of_mem_drop hu))
  have s3 : Hid (∀ t, t < news.length → (w.drew.cell? ⟨g, 0 + ((i) * 2) + t, none⟩).isSome = true ∧ w.drew.frozen? ⟨g, 0 + ((i) * 2) + t, none⟩ = false) := Lib.hid (by
    intro t ht
    rw [hlen] at ht
    exact ⟨cells_some (w := w) hg (by omega), cells_free (w := w) hg _⟩)
  obtain ⟨W1, hW1⟩ : ∃ W1, W1 = w.drew.setCells g (0 + ((i) * 2)) news := ⟨_, rfl⟩
  obtain ⟨cur1, g1, g2, _⟩ := setCells_heap_at g news (0 + ((i) * 2)) w.drew cur 40 (0, 0) hg (by rw [hlen]; omega)
  rw [← hW1] at g1
  have hcl : ∀ ty c, (Builtin.clear_ #[34] ty #[.slice (some ⟨g, ((i + (n - j)) * 2), none⟩) (n - (i + (n - j))) c]).run Try.prog W1 = .ok (.tuple #[]) (W1.setCells g (((i + (n - j)) * 2)) (Builtin.zeroCells (Value.agg #[.int .i64 0, .int .i64 0]).cells (n - (i + (n - j)))).toList) :=
    fun ty c => run_clear_cells W1 34 40 ty (Value.agg #[.int .i64 0, .int .i64 0]) Try.underlying34 Try.zeroValue40 g _ _ c (by omega) (zeroCells_one _ _ (by simp [Value.cells, Value.oneCell'])) (fun t ht => cells_some g1 (by rw [zeroCells_len] at ht; simp [Value.cells] at ht; omega)) (fun t _ => cells_free g1 _)
  have hW : Hid (W1 = w.drew.setCells g (0 + ((i) * 2)) news) := Lib.hid hW1
  have hic : i ≤ cap := by omega
  have hjc : j ≤ cap := by omega
  rw [← hnews]
  rw [show w.drew.setCells g ((i) * 2) news = W1 from by rw [hW1, Nat.zero_add]]
  clear hW1 hnews hlen g1 g2 hg hsz h1
  go_enter Try.func108, Try.ntmps108
  go_wp2_with fail
  go_region_law (refine step_append_room rfl (.tmp 22) (.tmp 25) 34 rfl 40 i0 2 Try.underlying34 hi0 hz1 g 0 i cap (by simp [Act.eval, Act.put]) A (n - j) (cap - j) news (by simp [Act.eval, Act.put]) (by have := s1.out; omega) hsrc.out s2.out (by omega) (by have := s3.out; (try simp only [Nat.mul_one]); exact this) ?_; (try simp only [Nat.mul_one]); rw [← hW.out])
  go_wp2
  go_ret
  exact ⟨rfl, rfl⟩
set_option maxHeartbeats 1000000 in
theorem leaf_Pair_108.calls (P0_ : Nat → Prop) (u9000_ : Value) (l0 : List S40) (a1 : Int) (a2 : Int) (r : List S40) (w0 w : World) (hB : Below w0.heap.size w0 w) (ho0 : Kd.R k40 40 w w0.heap.size P0_ u9000_ l0) (h : leaf_Pair_108.f l0 a1 a2 = some r) :
    Calls Try.prog 108 #[u9000_, .int .i64 a1, .int .i64 a2] w fun e w' => ∃ v0_ : Value, e = .returned v0_ ∧ Kd.R k40 40 w' w0.heap.size (fun k_ => (P0_ k_ ∨ w.heap.size ≤ k_)) v0_ r ∧ Below w0.heap.size w0 w' ∧ Kept w w' (fun k_ => P0_ k_) := by
  unfold leaf_Pair_108.f at h
  split at h
  · rename_i hc
    obtain ⟨h0, h1, h2⟩ := hc
    obtain rfl := Option.some.inj h
    obtain ⟨i, rfl⟩ := Int.eq_ofNat_of_zero_le h0
    obtain ⟨j, rfl⟩ := Int.eq_ofNat_of_zero_le (show 0 ≤ a2 by omega)
    rw [Int.toNat_natCast, Int.toNat_natCast]
    obtain ⟨hok, hl, ho⟩ := (R_iff flat40).1 ho0
    rcases ho with ⟨rfl, hz⟩ | ⟨g, cap, cur, rfl, hb, hg, hn, hm, hs, ht⟩
    · omega
    · have hP : P0_ g := hok g rfl
      have hs' : cur.size = cap * 2 := hs
      have ht' : cur.toList.take (l0.length * 2) = l0.flatMap enc40 := ht
      have hij : i < j := by omega
      have hjl : j ≤ l0.length := by omega
      have hm' : cap ≤ 9223372036854775807 := by simpa [maxLen] using hm
      have hlow : Calls Try.prog 108 #[.slice (some ⟨g, 0, none⟩) l0.length cap, .int .i64 i, .int .i64 j] w fun e w' => e = .returned (.slice (some ⟨g, 0, none⟩) (i + (l0.length - j)) cap) ∧ w' = (w.drew.setCells g (i * 2) ((cur.toList.take (l0.length * 2)).drop (j * 2))).setCells g ((i + (l0.length - j)) * 2) (Builtin.zeroCells (Value.agg #[.int .i64 0, .int .i64 0]).cells (l0.length - (i + (l0.length - j)))).toList := by
        have hones : ∀ u ∈ cur.toList.take (l0.length * 2), u.oneCell' = true := by rw [ht']; exact Flat.ones flat40 l0
        (try simp only [Nat.mul_one] at hones hs' ⊢)
        exact leaf_Pair_108.low g l0.length cap i j cur w hg hs' hn hm' hij hjl hones
      refine hlow.mono ?_
      rintro e w' ⟨rfl, rfl⟩
      rw [ht']
      obtain ⟨cur1, g1, g2, g3⟩ := setCells_heap_at g ((l0.flatMap enc40).drop (j * 2)) (i * 2) w.drew cur 40 (0, 0) hg (by rw [List.length_drop, flatMap_length flat40, hs']; show i * 2 + (l0.length * 2 - j * 2) ≤ _; omega)
      obtain ⟨cur2, k1, k2, k3⟩ := setCells_heap_at g (Builtin.zeroCells (Value.agg #[.int .i64 0, .int .i64 0]).cells (l0.length - (i + (l0.length - j)))).toList ((i + (l0.length - j)) * 2) _ cur1 40 (0, 0) g1 (by rw [zeroCells_len, g2, hs']; simp [Value.cells]; omega)
      have hlen : (l0.take i ++ l0.drop j).length = i + (l0.length - j) := by simp; omega
      have hcells : cur2.toList.take ((i + (l0.length - j)) * 2) = (l0.take i ++ l0.drop j).flatMap enc40 := by
        have e1 : ((l0.flatMap enc40).drop (j * 2)) = (l0.drop j).flatMap enc40 := flatMap_drop flat40 l0 j
        have e2 : cur.toList.take (i * 2) = (l0.take i).flatMap enc40 := by
          have : (l0.flatMap enc40).take (i * 2) = (l0.take i).flatMap enc40 := flatMap_take flat40 l0 i
          rw [← this, ← ht', List.take_take]
          congr 1
          omega
        have e3 : ((l0.drop j).flatMap enc40).length = (l0.length - j) * 2 := by rw [flatMap_length flat40, List.length_drop]; rfl
        have e5 : cur1.toList.length = cap * 2 := by simp [g2, hs']
        rw [k3, List.append_assoc, List.take_append_of_le_length (by rw [List.length_take, e5]; omega), List.take_take, Nat.min_self, g3, e1, e2, List.flatMap_append]
        have e4 : ((l0.take i).flatMap enc40 ++ (l0.drop j).flatMap enc40).length = (i + (l0.length - j)) * 2 := by
          rw [← List.flatMap_append, flatMap_length flat40, hlen]; rfl
        exact List.take_left' e4
      refine ⟨_, rfl, (R_iff flat40).2 ⟨fun k hk => ?_, by rw [flatMap_length flat40], .inr ⟨g, cap, cur2, by rw [hlen], hb, k1, by rw [hlen]; omega, hm, by rw [k2, g2]; exact hs, by rw [hlen]; exact hcells⟩⟩, ?_, ?_⟩
      · have : g = k := by simpa [Value.ownBlock] using hk
        subst this
        exact .inl hP
      · exact bel_setCells (bel_setCells (below_drew1 hB) hb _ _) hb _ _
      · exact kep_setCells (kep_setCells (Kept.drew (Kept.refl w _)) hP _ _) hP _ _
  · cases h

def leaf_Leaf_Cut.f (l0 : List (S40)) (a1 : Int) : Option ((List (S40)) × Int × Bool) := (leaf_Leaf_find.f l0 a1).bind fun bt609 => ((leaf_Pair_99.f l0).bind fun t611 => (if bt609.2 = true then ((leaf_Pair_108.f t611 bt609.1 (wrap64 (bt609.1 + 1))).bind fun t614 => (if 0 ≤ bt609.1 then (if bt609.1 < (l0.length : Int) then (some (t614, (rd_T40 l0 bt609.1).f1, true)) else (none)) else (none))) else (some (t611, 0, false))))
def leaf_Leaf_Cut.T5 : Bool × List (List Nat × List Nat) := (true, [([], []), ([], []), ([], []), ([2], [2]), ([0, 1, 3], [0, 1, 3]), ([], []), ([], []), ([5, 6], [5, 6]), ([7], [7]), ([8], [8]), ([4, 4, 0, 1, 2, 3, 4], [4]), ([9, 10, 0, 1, 2, 3, 4, 5, 6, 7, 8, 9, 10], [9]), ([11, 0, 1, 2, 3, 4, 5, 6, 7, 8, 9, 10, 11], [])])
def leaf_Leaf_Cut.B5 : List Nat := [0, 0, 0, 4, 15, 0, 0, 96, 224, 480, 31, 2047, 4095]
theorem leaf_Leaf_Cut.tab5 : rtab .any (opsOf Try.f66 5) = leaf_Leaf_Cut.T5 := by kernel_rfl
theorem leaf_Leaf_Cut.bits5 : waitsOk leaf_Leaf_Cut.T5.2 leaf_Leaf_Cut.B5 = true := by kernel_rfl
set_option maxHeartbeats 8000000 in
set_option maxRecDepth 100000 in
theorem leaf_Leaf_Cut.calls (A0 : Option Addr) (c0 : Nat) (l0 : List (S40)) (a1 : Int) (r1 : List (S40)) (r2 : Int) (r3 : Bool) (w : World) (hr0 : Kd.C k40 w A0 l0.length l0) (hc0 : l0.length ≤ c0) (h : leaf_Leaf_Cut.f l0 a1 = some (r1, r2, r3)) :
    Calls Try.prog 66 #[.slice A0 l0.length c0, .int .i64 a1] w fun e w' => ∃ v0_ : Value, e = .returned (.tuple #[v0_, .int .i64 r2, .bool r3]) ∧ Kd.R k40 40 w' w.heap.size (fun _ => True) v0_ r1 ∧ Below w.heap.size w w' := by
  have HR0 := Aside0.mk hr0
  have HC0 := Aside0.mk hc0
  clear hr0 hc0
  have HB := Aside0.mk (Below.refl w.heap.size w)
  have H : ((leaf_Leaf_find.f l0 a1).bind fun bt609 => ((leaf_Pair_99.f l0).bind fun t611 => (if bt609.2 = true then ((leaf_Pair_108.f t611 bt609.1 (wrap64 (bt609.1 + 1))).bind fun t614 => (if 0 ≤ bt609.1 then (if bt609.1 < (l0.length : Int) then (some (t614, (rd_T40 l0 bt609.1).f1, true)) else (none)) else (none))) else (some (t611, 0, false))))) = some (r1, r2, r3) := h
  clear h
  replace H := Option.bind_eq_some_iff.mp H
  obtain ⟨⟨t609, t610⟩, A30, H⟩ := H
  replace H : ((leaf_Pair_99.f l0).bind fun t611 => (if t610 = true then ((leaf_Pair_108.f t611 t609 (wrap64 (t609 + 1))).bind fun t614 => (if 0 ≤ t609 then (if t609 < (l0.length : Int) then (some (t614, (rd_T40 l0 t609).f1, true)) else (none)) else (none))) else (some (t611, 0, false)))) = some (r1, r2, r3) := H
  have A3 := Aside0.mk A30
  clear A30
  replace H := Option.bind_eq_some_iff.mp H
  obtain ⟨t611, A40, H⟩ := H
  replace H : (if t610 = true then ((leaf_Pair_108.f t611 t609 (wrap64 (t609 + 1))).bind fun t614 => (if 0 ≤ t609 then (if t609 < (l0.length : Int) then (some (t614, (rd_T40 l0 t609).f1, true)) else (none)) else (none))) else (some (t611, 0, false))) = some (r1, r2, r3) := H
  have A4 := Aside0.mk A40
  clear A40
  by_cases c5 : t610 = true
  · subst c5
    have H1 : ((leaf_Pair_108.f t611 t609 (wrap64 (t609 + 1))).bind fun t614 => (if 0 ≤ t609 then (if t609 < (l0.length : Int) then (some (t614, (rd_T40 l0 t609).f1, true)) else (none)) else (none))) = some (r1, r2, r3) := by rw [if_pos rfl] at H; exact H
    clear H
    have H := H1
    clear H1
    replace H := Option.bind_eq_some_iff.mp H
    obtain ⟨t614, A60, H⟩ := H
    replace H : (if 0 ≤ t609 then (if t609 < (l0.length : Int) then (some (t614, (rd_T40 l0 t609).f1, true)) else (none)) else (none)) = some (r1, r2, r3) := H
    have A6 := Aside0.mk A60
    clear A60
    by_cases c7 : 0 ≤ t609
    · rw [if_pos c7] at H
      have c7b0 : decide (0 ≤ t609) = true := decide_eq_true c7
      clear c7
      by_cases c8 : t609 < (l0.length : Int)
      · rw [if_pos c8] at H
        have c8b0 : decide (t609 < (l0.length : Int)) = true := decide_eq_true c8
        clear c8
        simp only [Option.some.injEq, Prod.mk.injEq] at H
        obtain ⟨rfl, rfl, rfl⟩ := H
        go_enter Try.func66, Try.ntmps66
        try go_wp2_with (first | ((with_reducible refine gate_callee (f := 98) rfl ?_); refine goesL_ (some 13) rfl rfl Try.func98 (by kernel_rfl) rfl #[.slice A0 l0.length c0, .int .i64 a1] rfl (by (try simp only [List.map_toArray, List.map_cons, List.map_nil]); first | done | rfl | (simp only [List.length_drop, List.length_take]; rfl)) ?_; (with_reducible refine (leaf_Leaf_find.calls _ _ l0 a1 t609 true _ ?side1 ?side2 A3.out).mono ?_); (case side1 => repeat (first | exact HR0.out | (with_reducible refine Kd.C_alloc ?_ _) | (with_reducible refine Kd.C_drewN ?_ _) | (with_reducible refine Kd.C_drew ?_))); (case side2 => exact HC0.out); rintro e w9 ⟨rfl, hb⟩; refine ⟨_, rfl, ?_⟩; have n0_ := Aside0.mk (below_step (by repeat (first | (with_reducible first | exact HB.out | apply below_alloc | apply pw_below_drewN | apply below_drew1) | exact HB.out)) hb); clear HB; have HB := n0_; clear n0_; (try clear hb); (try clear hb2); (try clear hk); (try clear hi)) | ((with_reducible refine gate_callee (f := 99) rfl ?_); refine goesL_ (some 17) rfl rfl Try.func99 (by kernel_rfl) rfl #[.slice A0 l0.length c0] rfl (by (try simp only [List.map_toArray, List.map_cons, List.map_nil]); first | done | rfl | (simp only [List.length_drop, List.length_take]; rfl)) ?_; (with_reducible refine (leaf_Pair_99.calls _ _ l0 t611 _ ?side1 ?side2 A4.out).mono ?_); (case side1 => repeat (first | exact (Kd.C_below HR0.out HB.out) | (with_reducible refine Kd.C_alloc ?_ _) | (with_reducible refine Kd.C_drewN ?_ _) | (with_reducible refine Kd.C_drew ?_))); (case side2 => exact HC0.out); rintro e w10 ⟨v612, rfl, ho0, hb⟩; refine ⟨_, rfl, ?_⟩; have n0_ := Aside0.mk (Kd.R_lower ho0 (below_size (by repeat (first | (with_reducible first | exact HB.out | apply below_alloc | apply pw_below_drewN | apply below_drew1) | exact HB.out)))); have n1_ := Aside0.mk (below_step (by repeat (first | (with_reducible first | exact HB.out | apply below_alloc | apply pw_below_drewN | apply below_drew1) | exact HB.out)) hb); clear HB; have HO613 := n0_; have HB := n1_; clear n0_ n1_; (try clear hb); (try clear hb2); (try clear hk); (try clear hi); (try clear ho0)))
        have n0_ := Aside0.mk (Kd.R_drew HO613.out)
        have n1_ := Aside0.mk (below_drew1 HB.out)
        clear HO613
        clear HB
        have HO613 := n0_
        have HB := n1_
        clear n0_ n1_
        have p617 : 0 ≤ (t609 : Int) := of_decide_eq_true (by first | (with_reducible assumption) | assumption)
        have q617 : t609 < (l0.length : Int) := of_decide_eq_true (by first | (with_reducible assumption) | assumption)
        obtain ⟨ad617, e617, hx617_0, hx617_1⟩ := at_T40 HR0.out t609 p617 q617
        have hw617_1 := hx617_1
        have hw617_0 := hx617_0
        cases e617
        replace hx617_0 := (HB.out.cell (World.block_lt_of_cell? w _ hx617_0)).trans hx617_0
        replace hx617_1 := (HB.out.cell (World.block_lt_of_cell? w _ hx617_1)).trans hx617_1
        replace p617 := eq_true p617
        replace q617 := eq_true q617
        obtain ⟨Ao12, co12, eo12⟩ := Kd.R_slice HO613.out
        (first | subst eo12 | (injection eo12 with f1_ f2_ f3_; have f4_ := f1_.symm; have f5_ := f3_.symm; clear f1_ f2_ f3_; subst f4_; subst f5_))
        refine start_ (n := 13) (S := fun w' => w'.cell? (ad617.add ((t609).toNat * 2)) = some (.int .i64 ((rd_T40 l0 t609).f0)) ∧ w'.cell? ⟨(ad617.add ((t609).toNat * 2)).block, (ad617.add ((t609).toNat * 2)).off + 1, none⟩ = some (.int .i64 ((rd_T40 l0 t609).f1))) (ds := []) #[false, false, false, false, false, false, false, false, false, false, false, false, false] (by kernel_rfl) rfl rfl ⟨((HB.out.cell (World.block_lt_of_cell? w _ hw617_0)).trans hw617_0), ((HB.out.cell (World.block_lt_of_cell? w _ hw617_1)).trans hw617_1)⟩ (fun hHeld => ?_); refine with_tabW leaf_Leaf_Cut.tab5 leaf_Leaf_Cut.bits5 (fun HT_ HW_ => ?_)
        generalize w10.drew = w11 at HO613 HB hx617_0 hx617_1 hHeld ⊢
        refine pure_ (i := 0) (N := some 21) (v := ?_) (a' := ?_) #[true, false, false, false, false, false, false, false, false, false, false, false, false] rfl rfl (any_of HT_.out (by kernel_rfl)) (fun _ _ _ h => h) (Or.inl ⟨by rfl, ?_⟩) ?_ ?_
        rotate_left
        · intro w'
          go_simp
          with_reducible rfl
        rotate_left
        · simp only [Act.put, List.setIfInBounds_toArray, List.set_cons_zero, List.set_cons_succ, i64_w, i32_w]
          rfl
        refine pure_ (i := 1) (N := some 22) (v := ?_) (a' := ?_) #[true, true, false, false, false, false, false, false, false, false, false, false, false] rfl rfl (any_of HT_.out (by kernel_rfl)) (fun _ _ _ h => h) (Or.inl ⟨by rfl, ?_⟩) ?_ ?_
        rotate_left
        · intro w'
          go_simp
          with_reducible rfl
        rotate_left
        · simp only [Act.put, List.setIfInBounds_toArray, List.set_cons_zero, List.set_cons_succ, i64_w, i32_w]
          rfl
        refine pure_ (i := 2) (N := some 23) (v := ?_) (a' := ?_) #[true, true, true, false, false, false, false, false, false, false, false, false, false] rfl rfl (any_of HT_.out (by kernel_rfl)) (fun _ _ _ h => h) (Or.inl ⟨by rfl, ?_⟩) ?_ ?_
        rotate_left
        · intro w'
          go_simp
          with_reducible rfl
        rotate_left
        · simp only [Act.put, List.setIfInBounds_toArray, List.set_cons_zero, List.set_cons_succ, i64_w, i32_w]
          rfl
        refine pure_ (i := 3) (N := some 24) (v := ?_) (a' := ?_) #[true, true, true, true, false, false, false, false, false, false, false, false, false] rfl rfl (any_of HT_.out (by kernel_rfl)) (fun _ _ _ h => h) (Or.inl ⟨by rfl, ?_⟩) ?_ ?_
        rotate_left
        · intro w'
          go_simp
          with_reducible rfl
        rotate_left
        · simp only [Act.put, List.setIfInBounds_toArray, List.set_cons_zero, List.set_cons_succ, i64_w, i32_w]
          rfl
        refine pure_ (i := 5) (N := some 26) (v := ?_) (a' := ?_) #[true, true, true, true, false, true, false, false, false, false, false, false, false] rfl rfl (any_of HT_.out (by kernel_rfl)) (fun _ _ _ h => h) (Or.inl ⟨by rfl, ?_⟩) ?_ ?_
        rotate_left
        · intro w'
          go_simp
          with_reducible rfl
        rotate_left
        · simp only [Act.put, List.setIfInBounds_toArray, List.set_cons_zero, List.set_cons_succ, i64_w, i32_w]
          rfl
        refine pure_ (i := 6) (N := some 27) (v := ?_) (a' := ?_) #[true, true, true, true, false, true, true, false, false, false, false, false, false] rfl rfl (any_of HT_.out (by kernel_rfl)) (fun _ _ _ h => h) (Or.inl ⟨by rfl, ?_⟩) ?_ ?_
        rotate_left
        · intro w'
          go_simp
          with_reducible rfl
        rotate_left
        · simp only [Act.put, List.setIfInBounds_toArray, List.set_cons_zero, List.set_cons_succ, i64_w, i32_w]
          rfl
        refine pure_ (i := 7) (N := some 28) (v := ?_) (a' := ?_) #[true, true, true, true, false, true, true, true, false, false, false, false, false] rfl rfl (any_of HT_.out (by kernel_rfl)) (fun _ _ _ h => h) (Or.inl ⟨by rfl, ?_⟩) ?_ ?_
        rotate_left
        · intro w'
          go_simp
          with_reducible rfl
        rotate_left
        · simp only [Act.put, List.setIfInBounds_toArray, List.set_cons_zero, List.set_cons_succ, i64_w, i32_w]
          rfl
        refine pure_ (i := 8) (N := some 29) (v := ?_) (a' := ?_) #[true, true, true, true, false, true, true, true, true, false, false, false, false] rfl rfl (any_of HT_.out (by kernel_rfl)) (fun _ _ _ h => h) (Or.inl ⟨by rfl, ?_⟩) ?_ ?_
        rotate_left
        · intro w'
          go_simp
          with_reducible rfl
        rotate_left
        · simp only [Act.put, List.setIfInBounds_toArray, List.set_cons_zero, List.set_cons_succ, i64_w, i32_w]
          rfl
        refine take_ (i := 9) (N := some 30) (v := ?_) (a' := ?_) #[true, true, true, true, false, true, true, true, true, true, false, false, false] rfl rfl (take_ofW HT_.out HW_.out (by kernel_rfl)) (fun _ _ _ h => h) (Or.inl ⟨by rfl, ?_⟩) hHeld ?_ ?_
        rotate_left
        · rintro w' ⟨s0, s1⟩
          go_simp
          with_reducible rfl
        rotate_left
        · simp only [Act.put, List.setIfInBounds_toArray, List.set_cons_zero, List.set_cons_succ, i64_w, i32_w]
          rfl
        refine one_ (i := 4) (N := some 25) #[true, true, true, true, true, true, true, true, true, true, false, false, false] rfl rfl (one_of HT_.out (by kernel_rfl)) (by decide) (fun K hK => ?_)
        refine goes_ Try.func108 (by kernel_rfl) rfl #[.slice Ao12 t611.length co12, .int .i64 t609, .int .i64 (wrap64 (t609 + 1))] (by rfl) rfl rfl (by (try simp only [List.map_toArray, List.map_cons, List.map_nil]); first | done | rfl | (simp only [List.length_drop, List.length_take]; rfl)) ?_
        with_reducible refine (leaf_Pair_108.calls (fun k_ => some k_ = (.slice Ao12 t611.length co12 : Value).ownBlock) (.slice Ao12 t611.length co12) t611 t609 (wrap64 (t609 + 1)) t614 w _ ?side1 ?side2 A6.out).mono ?_
        (case side1 => repeat (first | (with_reducible first | exact HB.out | apply below_alloc | apply pw_below_drewN | apply below_drew1) | exact HB.out))
        (case side2 => exact Kd.R_tight rfl HO613.out)
        rintro e w13 ⟨v615, rfl, ho0, hb, hkp⟩
        refine ⟨_, rfl, ?_⟩
        have n0_ := Aside0.mk (Kd.R_mono (ok' := fun k_ => True) ho0 (fun k_ hk_ => trivial))
        have n1_ := Aside0.mk (hb)
        clear HB
        clear HO613
        have HO616 := n0_
        have HB := n1_
        clear n0_ n1_
        (try clear hb)
        (try clear hkp)
        (try clear ho0)
        refine hK.out _ _ ⟨((HB.out.cell (World.block_lt_of_cell? w _ hw617_0)).trans hw617_0), ((HB.out.cell (World.block_lt_of_cell? w _ hw617_1)).trans hw617_1)⟩ (fun hHeld => ?_)
        clear hK K
        refine norm_ (a' := ?_) ?_ ?_
        rotate_left
        · show Act.put _ (some 25) _ = _
          simp only [Act.put, List.setIfInBounds_toArray, List.set_cons_zero, List.set_cons_succ, i64_w, i32_w]
          rfl
        refine pure_ (i := 10) (N := some 4) (v := ?_) (a' := ?_) #[true, true, true, true, true, true, true, true, true, true, true, false, false] rfl rfl (any_of HT_.out (by kernel_rfl)) (fun _ _ _ h => h) (Or.inl ⟨by rfl, ?_⟩) ?_ ?_
        rotate_left
        · intro w'
          go_simp
          with_reducible rfl
        rotate_left
        · simp only [Act.put, List.setIfInBounds_toArray, List.set_cons_zero, List.set_cons_succ, i64_w, i32_w]
          rfl
        refine pure_ (i := 11) (N := some 5) (v := ?_) (a' := ?_) #[true, true, true, true, true, true, true, true, true, true, true, true, false] rfl rfl (any_of HT_.out (by kernel_rfl)) (fun _ _ _ h => h) (Or.inl ⟨by rfl, ?_⟩) ?_ ?_
        rotate_left
        · intro w'
          go_simp
          with_reducible rfl
        rotate_left
        · simp only [Act.put, List.setIfInBounds_toArray, List.set_cons_zero, List.set_cons_succ, i64_w, i32_w]
          rfl
        refine pure_ (i := 12) (N := some 6) (v := ?_) (a' := ?_) #[true, true, true, true, true, true, true, true, true, true, true, true, true] rfl rfl (any_of HT_.out (by kernel_rfl)) (fun _ _ _ h => h) (Or.inl ⟨by rfl, ?_⟩) ?_ ?_
        rotate_left
        · intro w'
          go_simp
          with_reducible rfl
        rotate_left
        · simp only [Act.put, List.setIfInBounds_toArray, List.set_cons_zero, List.set_cons_succ, i64_w, i32_w]
          rfl
        refine done_ (done_of HT_.out (by kernel_rfl)) ?_
        try go_wp2
        go_ret3
        exact ⟨_, by first | rfl | (simp [errW_none, errW_some] <;> rfl) | (simp [*, errW_none, errW_some] <;> rfl), by (with_reducible repeat (first | apply Kd.R_alloc | apply Kd.R_drewN | apply Kd.R_drew)); exact HO616.out, by repeat (first | (with_reducible first | exact HB.out | apply below_alloc | apply pw_below_drewN | apply below_drew1) | exact HB.out)⟩
      · rw [if_neg c8] at H
        exact absurd H (by simp)
    · rw [if_neg c7] at H
      exact absurd H (by simp)
  · replace c5 := Bool.eq_false_iff.mpr c5
    subst c5
    have H1 : (some (t611, 0, false)) = some (r1, r2, r3) := by rw [if_neg (show ¬ (false = true) by decide)] at H; exact H
    clear H
    have H := H1
    clear H1
    simp only [Option.some.injEq, Prod.mk.injEq] at H
    obtain ⟨rfl, rfl, rfl⟩ := H
    go_enter Try.func66, Try.ntmps66
    go_wp2_with (first | ((with_reducible refine gate_callee (f := 98) rfl ?_); refine goesL_ (some 13) rfl rfl Try.func98 (by kernel_rfl) rfl #[.slice A0 l0.length c0, .int .i64 a1] rfl (by (try simp only [List.map_toArray, List.map_cons, List.map_nil]); first | done | rfl | (simp only [List.length_drop, List.length_take]; rfl)) ?_; (with_reducible refine (leaf_Leaf_find.calls _ _ l0 a1 t609 false _ ?side1 ?side2 A3.out).mono ?_); (case side1 => repeat (first | exact HR0.out | (with_reducible refine Kd.C_alloc ?_ _) | (with_reducible refine Kd.C_drewN ?_ _) | (with_reducible refine Kd.C_drew ?_))); (case side2 => exact HC0.out); rintro e w14 ⟨rfl, hb⟩; refine ⟨_, rfl, ?_⟩; have n0_ := Aside0.mk (below_step (by repeat (first | (with_reducible first | exact HB.out | apply below_alloc | apply pw_below_drewN | apply below_drew1) | exact HB.out)) hb); clear HB; have HB := n0_; clear n0_; (try clear hb); (try clear hb2); (try clear hk); (try clear hi)) | ((with_reducible refine gate_callee (f := 99) rfl ?_); refine goesL_ (some 17) rfl rfl Try.func99 (by kernel_rfl) rfl #[.slice A0 l0.length c0] rfl (by (try simp only [List.map_toArray, List.map_cons, List.map_nil]); first | done | rfl | (simp only [List.length_drop, List.length_take]; rfl)) ?_; (with_reducible refine (leaf_Pair_99.calls _ _ l0 t611 _ ?side1 ?side2 A4.out).mono ?_); (case side1 => repeat (first | exact (Kd.C_below HR0.out HB.out) | (with_reducible refine Kd.C_alloc ?_ _) | (with_reducible refine Kd.C_drewN ?_ _) | (with_reducible refine Kd.C_drew ?_))); (case side2 => exact HC0.out); rintro e w15 ⟨v612, rfl, ho0, hb⟩; refine ⟨_, rfl, ?_⟩; have n0_ := Aside0.mk (Kd.R_lower ho0 (below_size (by repeat (first | (with_reducible first | exact HB.out | apply below_alloc | apply pw_below_drewN | apply below_drew1) | exact HB.out)))); have n1_ := Aside0.mk (below_step (by repeat (first | (with_reducible first | exact HB.out | apply below_alloc | apply pw_below_drewN | apply below_drew1) | exact HB.out)) hb); clear HB; have HO613 := n0_; have HB := n1_; clear n0_ n1_; (try clear hb); (try clear hb2); (try clear hk); (try clear hi); (try clear ho0)))
    go_ret3
    exact ⟨_, by first | rfl | (simp [errW_none, errW_some] <;> rfl) | (simp [*, errW_none, errW_some] <;> rfl), by (with_reducible repeat (first | apply Kd.R_alloc | apply Kd.R_drewN | apply Kd.R_drew)); exact HO613.out, by repeat (first | (with_reducible first | exact HB.out | apply below_alloc | apply pw_below_drewN | apply below_drew1) | exact HB.out)⟩

/-- With some elements put in ahead of element a1. -/
def leaf_Pair_109.f (l0 : List S40) (a1 : Int) (l2 : List S40) : Option (List S40) := if 0 ≤ a1 ∧ a1 ≤ (l0.length : Int) ∧ l0.length + l2.length < 8796093022208 then some (l0.take a1.toNat ++ l2 ++ l0.drop a1.toNat) else none
set_option maxHeartbeats 4000000 in
set_option maxRecDepth 100000 in
theorem leaf_Pair_109.shift (g n cap i : Nat) (cur : Array Value) (w : World) (hg : w.heap[g]? = some (.cells cur 40 (0, 0))) (hsz : cur.size = ((cap) * 2)) (hm : cap ≤ 9223372036854775807) (h1c : ∀ u ∈ cur.toList.take ((n) * 2), u.oneCell' = true)
    (vb vo m vc : Nat) (vs : List Value) (hvl : vs.length = ((m) * 2)) (hvs : ∀ j u, vs[j]? = some u → w.cell? ⟨vb, vo + j, none⟩ = some u) (h1v : ∀ u ∈ vs, u.oneCell' = true) (hm0 : 0 < m) (hvb : vb ≠ g)
    (hi : i < n) (hroom : n + m ≤ cap) :
    Calls Try.prog 109 #[.slice (some ⟨g, 0, none⟩) n cap, .int .i64 i, .slice (some ⟨vb, vo, none⟩) m vc] w fun e w' => e = .returned (.slice (some ⟨g, 0, none⟩) (n + m) cap) ∧ w' = (w.drew.setCells g ((i + m) * 2) ((cur.toList.take ((n) * 2)).drop ((i) * 2))).setCells g ((i) * 2) vs := by
  obtain ⟨i0, hi0, _, hz1, _⟩ := info_parts info40
  have hz1' : ¬ ((m : Int) = 0) := by omega
  have hz2 : ¬ ((i : Int) = (n : Int)) := by omega
  obtain ⟨cs, hcs⟩ : ∃ cs, cs = (cur.toList.take ((n) * 2)).drop ((i) * 2) := ⟨_, rfl⟩
  have hcl : cs.length = ((n - i) * 2) := by rw [hcs]; simp; omega
  have h1s : ∀ u ∈ cs, u.oneCell' = true := fun u hu => h1c u (List.mem_of_mem_drop (hcs ▸ hu))
  rw [← hcs]
  have hv0 : ∃ u, vs[0]? = some u := ⟨_, List.getElem?_eq_getElem (by omega)⟩
  obtain ⟨u0, hu0⟩ := hv0
  have hc0 := hvs 0 u0 hu0
  obtain ⟨cA, tA, fA, hA, hA0⟩ : ∃ cA tA fA, w.heap[vb]? = some (.cells cA tA fA) ∧ cA.size ≠ 0 := by
    unfold World.cell? at hc0
    split at hc0
    · rename_i c t f h
      refine ⟨c, t, f, h, ?_⟩
      simp at hc0
      intro h0
      rw [Array.getElem?_eq_none (by omega)] at hc0
      cases hc0
    · cases hc0
  have hov : ∀ lb cb, (callFunc 125 #[.slice (some ⟨vb, vo, none⟩) m vc, .slice (some ⟨g, ((i + m) * 2), none⟩) lb cb]).run Try.prog w = .ok (.value (.bool false)) w := fun lb cb => by
    rw [run_callFunc_extern Try.func125 (by kernel_rfl) (by kernel_rfl) (by kernel_rfl) (e := Extern.SlicesOverlaps.overlaps #[33, 33] #[4]) (by kernel_rfl),
      run_overlaps_x w 33 4 40 Try.underlying33 2 Try.sizeOf40 ⟨vb, vo, none⟩ ⟨g, ((i + m) * 2), none⟩ m vc lb cb hvb tA 40 cA.size cur.size (by simp [World.shape?, hA]) (by simp [World.shape?, hg]) (by omega) hA0 (fun k => cells_free hg k) rfl]
    rfl
  have hcp1 : ∀ ty dc sc, (Builtin.copy_ #[34, 34] ty #[.slice (some ⟨g, ((i + m) * 2), none⟩) (n + m - (i + m)) dc, .slice (some ⟨g, ((i) * 2), none⟩) (n + m - i) sc]).run Try.prog w.drew = .ok (goInt (n - i : Nat)) (w.drew.setCells g ((i + m) * 2) cs) := fun ty dc sc => by
    have hmin : Nat.min (n + m - i) (n + m - (i + m)) = n - i := by simp only [Nat.min_def]; split <;> omega
    have := run_copy_K (P := Try.prog) w.drew 34 34 ty 40 i0 g ((i + m) * 2) (n + m - (i + m)) dc ⟨g, ((i) * 2), none⟩ (n + m - i) sc cs Try.underlying34 hi0 (by rw [hmin, hcl, hz1] <;> omega)
      (fun j u hj => by
        rw [add_lit']
        show w.cell? _ = _
        rw [cells_cell hg]
        rw [hcs, List.getElem?_drop, List.getElem?_take] at hj
        split at hj
        · exact hj
        · cases hj)
      (fun j hj => cells_some (w := w) hg (by rw [hcl] at hj; omega)) (fun j _ => cells_free (w := w) hg _) h1s
    rw [hmin] at this
    exact this
  obtain ⟨W1, hW1⟩ : ∃ W1, W1 = w.drew.setCells g ((i + m) * 2) cs := ⟨_, rfl⟩
  obtain ⟨cur1, g1, g2, _⟩ := setCells_heap_at g cs ((i + m) * 2) w.drew cur 40 (0, 0) hg (by rw [hcl, hsz]; omega)
  have gv : W1.heap[vb]? = w.heap[vb]? := by rw [hW1]; exact setCells_heap_ne g cs _ w.drew vb hvb
  rw [← hW1] at g1
  have hcp2 : ∀ (W : World), (∀ x, W.cell? x = W1.cell? x) → (∀ x, W.frozen? x = W1.frozen? x) → ∀ ty dc, (Builtin.copy_ #[34, 33] ty #[.slice (some ⟨g, ((i) * 2), none⟩) (n + m - i) dc, .slice (some ⟨vb, vo, none⟩) m vc]).run Try.prog W = .ok (goInt (m : Nat)) (W.setCells g ((i) * 2) vs) := fun W hWc hWf ty dc => by
    have hmin : Nat.min m (n + m - i) = m := by simp only [Nat.min_def]; split <;> omega
    have := run_copy_K (P := Try.prog) W 34 33 ty 40 i0 g ((i) * 2) (n + m - i) dc ⟨vb, vo, none⟩ m vc vs Try.underlying34 hi0 (by rw [hmin, hvl, hz1] <;> omega)
      (fun j u hj => by
        rw [add_lit', hWc]
        have := hvs j u hj
        simp only [World.cell?] at this ⊢
        rw [gv]
        exact this)
      (fun j hj => by rw [hWc]; exact cells_some g1 (by rw [hvl] at hj; omega)) (fun j _ => by rw [hWf]; exact cells_free g1 _) h1v
    rw [hmin] at this
    exact this
  rw [← hW1] at hcp1
  have hw1 : IntKind.i64.wrap ((i : Int) + (m : Int)) = (i : Int) + (m : Int) := by rw [IntKind.wrap_i64]; omega
  have hb1 : (0 : Int) ≤ (i : Int) + (m : Int) := by omega
  have hin : i ≤ n := by omega
  have htn : ((i : Int) + (m : Int)).toNat = i + m := by omega
  have hb2 : ¬ (cap = i + m) := by omega
  have hb3 : (i : Int) ≤ (n : Int) + (m : Int) := by omega
  have hb4 : ¬ (cap = i) := by omega
  have HW := Lib.hid hW1
  rw [← hW1]
  clear hW1 hcs hcl h1s hu0 hc0 hA hA0 g1 g2 gv hg hsz h1c hvl hvs h1v hvb
  go_enter Try.func109, Try.ntmps109
  go_wp2_with (simp only [hov])
  go_region_law (refine stepx_copy rfl _ _ 34 34 rfl _ _ (by simp [Act.eval, Act.put]) (by simp [Act.eval, Act.put]) (hcp1 _ _ _) ?_)
  go_wp2_with (at_builtin; refine wpx_copy _ rfl _ _ 34 33 rfl _ _ rfl rfl (hcp2 _ (fun _ => rfl) (fun _ => rfl) _ _) ?_)
  go_ret
  exact ⟨rfl, rfl⟩
set_option maxHeartbeats 4000000 in
set_option maxRecDepth 100000 in
theorem leaf_Pair_109.grow (g n cap i : Nat) (cur : Array Value) (w : World) (hg : w.heap[g]? = some (.cells cur 40 (0, 0))) (hsz : cur.size = ((cap) * 2)) (hn : n ≤ cap) (h1c : ∀ u ∈ cur.toList.take ((n) * 2), u.oneCell' = true)
    (vb vo m vc : Nat) (vs : List Value) (hvl : vs.length = ((m) * 2)) (hvs : ∀ j u, vs[j]? = some u → w.cell? ⟨vb, vo + j, none⟩ = some u) (h1v : ∀ u ∈ vs, u.oneCell' = true) (hm0 : 0 < m)
    (hi : i < n) (hroom : cap < n + m) (hbig : (n + m) * 16 ≤ 140737488355328) :
    Calls Try.prog 109 #[.slice (some ⟨g, 0, none⟩) n cap, .int .i64 i, .slice (some ⟨vb, vo, none⟩) m vc] w fun e w' => ∃ (G : Nat) (ROW : Array Value), n + m ≤ G ∧ G ≤ maxLen ∧ ROW.size = ((G) * 2) ∧ ROW.toList.take ((i) * 2) = (cur.toList.take ((n) * 2)).take ((i) * 2) ∧ e = .returned (.slice (some ⟨w.heap.size, 0, none⟩) (n + m) G) ∧ w' = ((w.drew.alloc (.cells ROW 40)).setCells w.heap.size ((i) * 2) vs).drew.setCells w.heap.size ((i + m) * 2) ((cur.toList.take ((n) * 2)).drop ((i) * 2)) := by
  obtain ⟨i0, hi0, hz0, hz1, hzb⟩ := info_parts info40
  have hz1' : ¬ ((m : Int) = 0) := by omega
  have hz2 : ¬ ((i : Int) = (n : Int)) := by omega
  have hz3 : (cap : Int) < (n : Int) + (m : Int) := by omega
  have hgw : g < w.heap.size := (Array.getElem?_eq_some_iff.1 hg).1
  have hvw : vb < w.heap.size := World.block_lt_of_cell? w _ (hvs 0 _ (List.getElem?_eq_getElem (by omega)))
  obtain ⟨cs, hcs⟩ : ∃ cs, cs = cur.toList.take ((n) * 2) := ⟨_, rfl⟩
  have hcl : cs.length = ((n) * 2) := by rw [hcs]; simp; omega
  have hcc : ∀ j u, cs[j]? = some u → w.cell? ⟨g, j, none⟩ = some u := fun j u hj => by
    rw [cells_cell hg]
    rw [hcs, List.getElem?_take] at hj
    split at hj
    · exact hj
    · cases hj
  rw [← hcs] at h1c ⊢
  have hkk : (n : Int) + (m : Int) - (i : Int) = ((n + m - i : Nat) : Int) := by omega
  have hik : i + (n + m - i) = n + m := by omega
  have hold : (Builtin.firstCells i0.size i (.slice (some ⟨g, 0, none⟩) i cap)).run Try.prog w.drew = .ok (cs.take ((i) * 2)).toArray w.drew := by
    rw [hz1]
    exact run_firstCells_some w.drew 2 i ⟨g, 0, none⟩ i cap (cs.take ((i) * 2)) (by rw [List.length_take]; omega) (fun j v hj => by
      rw [add_lit', Nat.zero_add]
      rw [List.getElem?_take] at hj
      split at hj
      · exact hcc j v hj
      · cases hj)
  have hG63 : grownCap w (n + m) cap 40 ≤ maxLen := grownCap_le_maxLen w (n + m) cap 40 (by unfold maxLen; omega)
  have hrz : ∀ ty, (Builtin.append_ #[34, 3] ty #[.slice (some ⟨g, 0, none⟩) i cap, .int .i64 ((n : Int) + (m : Int) - (i : Int))]).run Try.prog w =
      .ok (.slice (some ⟨w.heap.size, 0, none⟩) (n + m) (grownCap w (n + m) cap 40)) (w.drew.alloc (.cells ((cs.take ((i) * 2)).toArray ++ Builtin.zeroCells (Value.agg #[.int .i64 0, .int .i64 0]).cells (n + m - i) ++ Builtin.zeroCells (Value.agg #[.int .i64 0, .int .i64 0]).cells (grownCap w (n + m) cap 40 - (n + m))) 40)) := fun ty => by
    have h := Lib.run_append_grow_zeros w 34 3 ty 40 i0 _ .i64 .i64 Try.underlying34 Try.underlying3 hi0 hz0 (some ⟨g, 0, none⟩) i cap (cs.take ((i) * 2)) hold (n + m - i) (by omega) (by omega) (by omega) (by omega) (by rw [hzb]; omega) (by rw [hzb, hik]; exact growslice_fits hroom hbig)
    rw [hik] at h
    rw [hkk]
    exact h
  have hGn : n + m ≤ grownCap w (n + m) cap 40 := grownCap_ge w _ _ _
  generalize grownCap w (n + m) cap 40 = G at hrz hG63 hGn
  have hG63' : G ≤ 9223372036854775807 := by unfold maxLen at hG63; omega
  obtain ⟨ROW, hROW⟩ : ∃ ROW : Array Value, ROW = (cs.take ((i) * 2)).toArray ++ Builtin.zeroCells (Value.agg #[.int .i64 0, .int .i64 0]).cells (n + m - i) ++ Builtin.zeroCells (Value.agg #[.int .i64 0, .int .i64 0]).cells (G - (n + m)) := ⟨_, rfl⟩
  rw [← hROW] at hrz
  have hRs : ROW.size = ((G) * 2) := by
    rw [hROW]
    simp [Builtin.zeroCells, Value.cells, hcl]
    omega
  have hRt : ROW.toList.take ((i) * 2) = cs.take ((i) * 2) := by
    rw [hROW]
    simp only [Array.toList_append, List.append_assoc]
    exact List.take_left' (by rw [List.length_take, hcl]; omega)
  obtain ⟨W1, hW1⟩ : ∃ W1, W1 = w.drew.alloc (.cells ROW 40) := ⟨_, rfl⟩
  have hN : ∀ j, j < ((n + m) * 2) → (W1.cell? ⟨w.heap.size, j, none⟩).isSome = true := fun j hj => by
    rw [hW1, World.cell?_alloc_at (w := w.drew) ROW _ w.heap.size j rfl, Array.getElem?_eq_getElem (by rw [hRs]; omega)]; rfl
  have hNf : ∀ j, W1.frozen? ⟨w.heap.size, j, none⟩ = false := fun j => by rw [hW1]; exact World.frozen?_alloc_at (w := w.drew) ROW _ w.heap.size j rfl
  have hOb : ∀ j v, w.cell? ⟨g, j, none⟩ = some v → W1.cell? ⟨g, j, none⟩ = some v := fun j v h => by rw [hW1, World.cell?_alloc_past (w := w.drew) _ g j hgw]; exact h
  have hOv : ∀ j v, w.cell? ⟨vb, j, none⟩ = some v → W1.cell? ⟨vb, j, none⟩ = some v := fun j v h => by rw [hW1, World.cell?_alloc_past (w := w.drew) _ vb j hvw]; exact h
  have hcpA : ∀ (W : World), (∀ x, W.cell? x = W1.cell? x) → (∀ x, W.frozen? x = W1.frozen? x) → ∀ ty dc, (Builtin.copy_ #[34, 33] ty #[.slice (some ⟨w.heap.size, ((i) * 2), none⟩) (n + m - i) dc, .slice (some ⟨vb, vo, none⟩) m vc]).run Try.prog W = .ok (goInt (m : Nat)) (W.setCells w.heap.size ((i) * 2) vs) := fun W hWc hWf ty dc => by
    have hmin : Nat.min m (n + m - i) = m := by simp only [Nat.min_def]; split <;> omega
    have := run_copy_K (P := Try.prog) W 34 33 ty 40 i0 w.heap.size ((i) * 2) (n + m - i) dc ⟨vb, vo, none⟩ m vc vs Try.underlying34 hi0 (by rw [hmin, hvl, hz1] <;> omega)
      (fun j v hj => by rw [add_lit', hWc]; exact hOv _ v (hvs j v hj))
      (fun j hj => by rw [hWc]; exact hN _ (by omega)) (fun j hj => by rw [hWf]; exact hNf _) h1v
    rw [hmin] at this
    exact this
  have hGi : ¬ (G = i) := by omega
  have hGim : ¬ (G = i + m) := by omega
  have hci : ¬ (cap = i) := by omega
  have hgN : g ≠ w.heap.size := by omega
  have hdl : (cs.drop ((i) * 2)).length = ((n - i) * 2) := by rw [List.length_drop, hcl] <;> omega
  have hout : ∀ k, ((W1.setCells w.heap.size ((i) * 2) vs).cell? ⟨g, k, none⟩) = W1.cell? ⟨g, k, none⟩ := fun k => World.cell?_setCells_out _ _ _ _ _ (fun h _ => absurd h hgN)
  obtain ⟨cur1, g1, g2, _⟩ := setCells_heap_at w.heap.size vs ((i) * 2) W1 ROW 40 (0, 0) (by rw [hW1]; exact heap_alloc_new w.drew _) (by rw [hvl, hRs] <;> omega)
  have hcpB : ∀ (W : World), (∀ x, W.cell? x = (W1.setCells w.heap.size ((i) * 2) vs).cell? x) → (∀ x, W.frozen? x = (W1.setCells w.heap.size ((i) * 2) vs).frozen? x) → ∀ ty dc sc, (Builtin.copy_ #[34, 34] ty #[.slice (some ⟨w.heap.size, ((i + m) * 2), none⟩) (n + m - (i + m)) dc, .slice (some ⟨g, ((i) * 2), none⟩) (n - i) sc]).run Try.prog W = .ok (goInt (n - i : Nat)) (W.setCells w.heap.size ((i + m) * 2) (cs.drop ((i) * 2))) := fun W hWc hWf ty dc sc => by
    have hmin : Nat.min (n - i) (n + m - (i + m)) = n - i := by simp only [Nat.min_def]; split <;> omega
    have := run_copy_K (P := Try.prog) W 34 34 ty 40 i0 w.heap.size ((i + m) * 2) (n + m - (i + m)) dc ⟨g, ((i) * 2), none⟩ (n - i) sc (cs.drop ((i) * 2)) Try.underlying34 hi0 (by rw [hmin, hdl, hz1] <;> omega)
      (fun j v hj => by
        rw [add_lit', hWc, hout]
        exact hOb _ v (hcc _ v (by rwa [List.getElem?_drop] at hj)))
      (fun j hj => by rw [hWc]; exact cells_some g1 (by rw [hdl] at hj; rw [g2, hRs] <;> omega))
      (fun j hj => by rw [hWf]; exact cells_free g1 _) (fun v hv => h1c v (List.mem_of_mem_drop hv))
    rw [hmin] at this
    exact this
  subst hW1
  have hE1 : ∀ x, ((w.alloc (.cells ROW 40)).drew).cell? x = (w.drew.alloc (.cells ROW 40)).cell? x := fun x => rfl
  have hE2 : ∀ x, ((w.alloc (.cells ROW 40)).drew).frozen? x = (w.drew.alloc (.cells ROW 40)).frozen? x := fun x => rfl
  have hF1 : ∀ x, (((w.alloc (.cells ROW 40)).drew.setCells w.heap.size ((i) * 2) vs).drew).cell? x = ((w.drew.alloc (.cells ROW 40)).setCells w.heap.size ((i) * 2) vs).cell? x := fun x => rfl
  have hF2 : ∀ x, (((w.alloc (.cells ROW 40)).drew.setCells w.heap.size ((i) * 2) vs).drew).frozen? x = ((w.drew.alloc (.cells ROW 40)).setCells w.heap.size ((i) * 2) vs).frozen? x := fun x => rfl
  have hw1 : IntKind.i64.wrap ((i : Int) + (m : Int)) = (i : Int) + (m : Int) := by rw [IntKind.wrap_i64]; omega
  have hb1 : (0 : Int) ≤ (i : Int) + (m : Int) := by omega
  have hin : i ≤ n := by omega
  have htn : ((i : Int) + (m : Int)).toNat = i + m := by omega
  have hb3 : (i : Int) ≤ (n : Int) := by omega
  obtain ⟨Fin, hFin⟩ : ∃ Fin : Ending → World → Prop, Fin = fun e w' => ∃ (G : Nat) (ROW : Array Value), n + m ≤ G ∧ G ≤ maxLen ∧ ROW.size = ((G) * 2) ∧ ROW.toList.take ((i) * 2) = cs.take ((i) * 2) ∧ e = .returned (.slice (some ⟨w.heap.size, 0, none⟩) (n + m) G) ∧ w' = ((w.drew.alloc (.cells ROW 40)).setCells w.heap.size ((i) * 2) vs).drew.setCells w.heap.size ((i + m) * 2) (cs.drop ((i) * 2)) := ⟨_, rfl⟩
  have hdone : Hid (Fin (.returned (.slice (some ⟨w.heap.size, 0, none⟩) (n + m) G)) (((w.drew.alloc (.cells ROW 40)).setCells w.heap.size ((i) * 2) vs).drew.setCells w.heap.size ((i + m) * 2) (cs.drop ((i) * 2)))) := Lib.hid (by rw [hFin]; exact ⟨G, ROW, hGn, hG63, hRs, hRt, rfl, rfl⟩)
  rw [← hFin]
  clear hkk hik hold hROW hRs hRt hFin hN hNf hOb hOv hout g1 g2 hcl hcc hcs hdl hvs hvl hsz hg h1c h1v hG63
  go_enter Try.func109, Try.ntmps109
  go_wp2_with (first
    | (at_builtin; refine Lib.wpList_append_run _ rfl _ _ _ _ rfl _ _ rfl rfl _ _ (hrz _) ?_)
    | (at_builtin; refine wpx_copy _ rfl _ _ 34 33 rfl _ _ rfl rfl (hcpA _ hE1 hE2 _ _) ?_)
    | (at_builtin; refine wpx_copy _ rfl _ _ 34 34 rfl _ _ rfl rfl (hcpB _ (fun _ => rfl) (fun _ => rfl) _ _ _) ?_))
  go_region_law (refine stepx_copy rfl _ _ 34 34 rfl (.slice (some ⟨w.heap.size, ((i + m) * 2), none⟩) (n + m - (i + m)) (G - (i + m))) (.slice (some ⟨g, ((i) * 2), none⟩) (n - i) (cap - i)) (by simp [Act.eval, Act.put]) (by simp [Act.eval, Act.put]) (hcpB _ hF1 hF2 3 (G - (i + m)) (cap - i)) ?_)
  go_wp2
  exact hdone.out
set_option maxHeartbeats 2000000 in
set_option maxRecDepth 100000 in
theorem leaf_Pair_109.nothing_ (v : Value) (n i : Nat) (A2 : Option Addr) (c2 : Nat) (w : World) (hv : (v = .slice none 0 0 ∧ n = 0) ∨ ∃ g cap, v = .slice (some ⟨g, 0, none⟩) n cap ∧ n ≤ cap ∧ cap ≤ 9223372036854775807) (hi : i ≤ n) :
    Calls Try.prog 109 #[v, .int .i64 i, .slice A2 0 c2] w fun e w' => e = .returned v ∧ w = w' := by
  rcases hv with ⟨rfl, rfl⟩ | ⟨g, cap, rfl, hn, hm⟩
  · obtain rfl : i = 0 := by omega
    go_enter Try.func109, Try.ntmps109
    go_wp2
    go_ret
    exact ⟨rfl, rfl⟩
  · have hic : i ≤ cap := by omega
    go_enter Try.func109, Try.ntmps109
    go_wp2
    all_goals (go_ret; exact ⟨rfl, rfl⟩)
set_option maxHeartbeats 2000000 in
set_option maxRecDepth 100000 in
theorem leaf_Pair_109.end_ (v v' : Value) (n m : Nat) (A2 : Option Addr) (c2 : Nat) (w w1 : World) (hv : (v = .slice none 0 0 ∧ n = 0) ∨ ∃ g cap, v = .slice (some ⟨g, 0, none⟩) n cap ∧ n ≤ cap ∧ cap ≤ 9223372036854775807) (hm0 : 0 < m)
    (hr : (Builtin.append_ #[34, 33] 34 #[v, .slice A2 m c2]).run Try.prog w = .ok v' w1) :
    Calls Try.prog 109 #[v, .int .i64 n, .slice A2 m c2] w fun e w' => e = .returned v' ∧ w' = w1 := by
  have hz1' : ¬ ((m : Int) = 0) := by omega
  have HR := Lib.hid hr
  clear hr
  rcases hv with ⟨rfl, rfl⟩ | ⟨g, cap, rfl, hn, hm⟩
  · go_enter Try.func109, Try.ntmps109
    go_wp2_with (at_builtin; refine Lib.wpList_append_run _ rfl _ _ _ _ rfl _ _ rfl rfl _ _ HR.out ?_)
    go_ret
    exact ⟨rfl, rfl⟩
  · go_enter Try.func109, Try.ntmps109
    go_wp2_with (at_builtin; refine Lib.wpList_append_run _ rfl _ _ _ _ rfl _ _ rfl rfl _ _ HR.out ?_)
    all_goals (go_ret; exact ⟨rfl, rfl⟩)
set_option maxHeartbeats 1000000 in
theorem leaf_Pair_109.calls (P0_ : Nat → Prop) (u9000_ : Value) (l0 : List S40) (a1 : Int) (A2 : Option Addr) (c2 : Nat) (l2 : List S40) (r : List S40) (w0 w : World) (hB : Below w0.heap.size w0 w) (ho0 : Kd.R k40 40 w w0.heap.size P0_ u9000_ l0) (hr2 : ∀ W_, Kept w W_ (fun k_ => P0_ k_) → Kd.C k40 W_ A2 l2.length l2) (hc2 : l2.length ≤ c2) (h : leaf_Pair_109.f l0 a1 l2 = some r) :
    Calls Try.prog 109 #[u9000_, .int .i64 a1, .slice A2 l2.length c2] w fun e w' => ∃ v0_ : Value, e = .returned v0_ ∧ Kd.R k40 40 w' w0.heap.size (fun k_ => (P0_ k_ ∨ w.heap.size ≤ k_)) v0_ r ∧ Below w0.heap.size w0 w' ∧ Kept w w' (fun k_ => P0_ k_) := by
  unfold leaf_Pair_109.f at h
  split at h
  · rename_i hc
    obtain ⟨h0, h1, h2⟩ := hc
    obtain rfl := Option.some.inj h
    clear h
    obtain ⟨i, rfl⟩ := Int.eq_ofNat_of_zero_le h0
    rw [Int.toNat_natCast]
    have hil : i ≤ l0.length := by omega
    clear h0 h1
    obtain ⟨hok, hown⟩ := (R_iff flat40).1 ho0
    have hown' : w.ownsRow w0.heap.size 40 2 u9000_ l0.length (l0.flatMap enc40) := hown
    have hform : (u9000_ = .slice none 0 0 ∧ l0.length = 0) ∨ ∃ g cap, u9000_ = .slice (some ⟨g, 0, none⟩) l0.length cap ∧ l0.length ≤ cap ∧ cap ≤ 9223372036854775807 := by
      rcases hown'.2 with ⟨h1, h2⟩ | ⟨g, cap, cur, h1, _, _, h2, h3, _⟩
      · exact .inl ⟨h1, h2⟩
      · exact .inr ⟨g, cap, h1, h2, by simpa [maxLen] using h3⟩
    rcases List.eq_nil_or_concat l2 with he | ⟨_, _, he⟩
    · subst he
      refine (leaf_Pair_109.nothing_ u9000_ l0.length i A2 c2 w hform hil).mono ?_
      rintro e w' ⟨rfl, rfl⟩
      refine ⟨_, rfl, ?_, hB, Kept.refl _ _⟩
      rw [List.append_nil, List.take_append_drop]
      exact Kd.R_mono ho0 (fun _ hk => .inl hk)
    · have hne : l2 ≠ [] := by rw [he]; simp
      clear he
      have hm0 : 0 < l2.length := List.length_pos_iff.2 hne
      have hlv : (l2.flatMap enc40).length = l2.length * 2 := flatMap_length flat40 l2
      obtain ⟨vb, vo, rfl, hvs⟩ : ∃ b o, A2 = some ⟨b, o, none⟩ ∧ ∀ j u, (l2.flatMap enc40)[j]? = some u → w.cell? ⟨b, o + j, none⟩ = some u := by
        rcases C_at flat40 (hr2 w (Kept.refl _ _)) with h0 | h0
        · rw [h0] at hlv; simp at hlv; omega
        · exact h0
      by_cases hin : i = l0.length
      · subst hin
        obtain ⟨i0, hi0, hz0, hz1, hzb⟩ := info_parts info40
        obtain ⟨v', w1, hr, ho1, hg1, hb1⟩ := run_append_own_x w 34 33 34 40 i0 _ 2 16 Try.underlying34 Try.underlying33 hi0 hz0 hz1 hzb rfl (by decide) (by decide) w0.heap.size u9000_ l0.length (l0.flatMap enc40) hown' ⟨vb, vo, none⟩ l2.length c2 (l2.flatMap enc40) hlv (fun j u hj => by rw [add_lit']; exact hvs j u hj) (Flat.ones flat40 l2) (by omega) hB.size
        refine (leaf_Pair_109.end_ u9000_ v' l0.length l2.length _ c2 w w1 hform hm0 hr).mono ?_
        rintro e w' ⟨rfl, rfl⟩
        refine ⟨_, rfl, ?_, hB.grown hg1 hB.size (own_base hown'), Kept.of_grown hg1 (Kept.refl _ _) (fun k hk => .inl (hok k hk))⟩
        rw [List.take_length, List.drop_length, List.append_nil]
        refine (R_iff flat40).2 ⟨fun k hk => ?_, by rw [List.length_append, List.flatMap_append]; exact ho1⟩
        rcases hb1 with hb1 | ⟨b, hb1, hb2⟩
        · exact .inl (hok k (hb1 ▸ hk))
        · rw [hb1] at hk
          obtain rfl := Option.some.inj hk
          exact .inr hb2
      · have hi : i < l0.length := by omega
        rcases hown'.2 with ⟨_, h0⟩ | ⟨g, cap, cur, rfl, hb, hg, hn, hm, hs, ht⟩
        · omega
        · have hP : P0_ g := hok g rfl
          have hm' : cap ≤ 9223372036854775807 := by simpa [maxLen] using hm
          have hvb : vb ≠ g := apart_of_kept flat40 hP hne hr2
          have hl0 : (l0.flatMap enc40).length = l0.length * 2 := flatMap_length flat40 l0
          have hones : ∀ u ∈ cur.toList.take (l0.length * 2), u.oneCell' = true := by rw [ht]; exact Flat.ones flat40 l0
          have hcl : cur.toList.length = cap * 2 := by rw [Array.length_toList]; exact hs
          have hlr : (l0.take i ++ l2 ++ l0.drop i).length = l0.length + l2.length := by simp; omega
          have e1 : (l0.flatMap enc40).drop (i * 2) = (l0.drop i).flatMap enc40 := flatMap_drop flat40 l0 i
          have e2 : (l0.flatMap enc40).take (i * 2) = (l0.take i).flatMap enc40 := flatMap_take flat40 l0 i
          have l1 : ((l0.take i).flatMap enc40).length = i * 2 := by
            have : ((l0.take i).flatMap enc40).length = (l0.take i).length * 2 := flatMap_length flat40 _
            rw [this, List.length_take, Nat.min_eq_left hil]
          have l3 : ((l0.drop i).flatMap enc40).length = (l0.length - i) * 2 := by
            have : ((l0.drop i).flatMap enc40).length = (l0.drop i).length * 2 := flatMap_length flat40 _
            rw [this, List.length_drop]
          by_cases hroom : l0.length + l2.length ≤ cap
          · have hlow : Calls Try.prog 109 #[.slice (some ⟨g, 0, none⟩) l0.length cap, .int .i64 i, .slice (some ⟨vb, vo, none⟩) l2.length c2] w fun e w' => e = .returned (.slice (some ⟨g, 0, none⟩) (l0.length + l2.length) cap) ∧ w' = (w.drew.setCells g ((i + l2.length) * 2) ((cur.toList.take (l0.length * 2)).drop (i * 2))).setCells g (i * 2) (l2.flatMap enc40) := by
              have hs' := hs
              have hlv' := hlv
              (try simp only [Nat.mul_one] at hones hs' hlv' ⊢)
              exact leaf_Pair_109.shift g l0.length cap i cur w hg hs' hm' hones vb vo l2.length c2 (l2.flatMap enc40) hlv' hvs (Flat.ones flat40 l2) hm0 hvb hi hroom
            refine hlow.mono ?_
            rintro e w' ⟨rfl, rfl⟩
            rw [ht, e1]
            obtain ⟨cur1, g1, g2, g3⟩ := setCells_heap_at g ((l0.drop i).flatMap enc40) ((i + l2.length) * 2) w.drew cur 40 (0, 0) hg (by rw [l3, hs]; omega)
            obtain ⟨cur2, k1, k2, k3⟩ := setCells_heap_at g (l2.flatMap enc40) (i * 2) _ cur1 40 (0, 0) g1 (by rw [hlv, g2, hs]; omega)
            have hcells : cur2.toList.take ((l0.length + l2.length) * 2) = (l0.take i ++ l2 ++ l0.drop i).flatMap enc40 := by
              have c1 : cur1.toList.take (i * 2) = (l0.take i).flatMap enc40 := by
                rw [g3, List.append_assoc, List.take_append_of_le_length (by rw [List.length_take, hcl]; omega), List.take_take, Nat.min_eq_left (by omega), ← e2, ← ht, List.take_take, Nat.min_eq_left (by omega)]
              have c2 : (cur1.toList.drop (i * 2 + (l2.flatMap enc40).length)).take ((l0.length - i) * 2) = (l0.drop i).flatMap enc40 := by
                rw [hlv, show i * 2 + l2.length * 2 = (i + l2.length) * 2 by omega, g3, List.append_assoc, List.drop_left' (by rw [List.length_take, hcl]; omega)]
                exact List.take_left' l3
              rw [k3, c1, List.flatMap_append, List.flatMap_append, List.take_append, List.take_of_length_le (by rw [List.length_append, l1, hlv]; omega), List.length_append, l1, hlv]
              congr 1
              rw [show (l0.length + l2.length) * 2 - (i * 2 + l2.length * 2) = (l0.length - i) * 2 by omega, ← hlv]
              exact c2
            refine ⟨_, rfl, (R_iff flat40).2 ⟨fun k hk => ?_, by rw [flatMap_length flat40], .inr ⟨g, cap, cur2, by rw [hlr], hb, k1, by rw [hlr]; omega, hm, by rw [k2, g2]; exact hs, by rw [hlr]; exact hcells⟩⟩, ?_, ?_⟩
            · have : g = k := by simpa [Value.ownBlock] using hk
              subst this
              exact .inl hP
            · exact bel_setCells (bel_setCells (below_drew1 hB) hb _ _) hb _ _
            · exact kep_setCells (kep_setCells (Kept.drew (Kept.refl w _)) hP _ _) hP _ _
          · have hlow : Calls Try.prog 109 #[.slice (some ⟨g, 0, none⟩) l0.length cap, .int .i64 i, .slice (some ⟨vb, vo, none⟩) l2.length c2] w fun e w' => ∃ (G : Nat) (ROW : Array Value), l0.length + l2.length ≤ G ∧ G ≤ maxLen ∧ ROW.size = G * 2 ∧ ROW.toList.take (i * 2) = (cur.toList.take (l0.length * 2)).take (i * 2) ∧ e = .returned (.slice (some ⟨w.heap.size, 0, none⟩) (l0.length + l2.length) G) ∧ w' = ((w.drew.alloc (.cells ROW 40)).setCells w.heap.size (i * 2) (l2.flatMap enc40)).drew.setCells w.heap.size ((i + l2.length) * 2) ((cur.toList.take (l0.length * 2)).drop (i * 2)) := by
              have hs' := hs
              have hlv' := hlv
              (try simp only [Nat.mul_one] at hones hs' hlv' ⊢)
              exact leaf_Pair_109.grow g l0.length cap i cur w hg hs' hn hones vb vo l2.length c2 (l2.flatMap enc40) hlv' hvs (Flat.ones flat40 l2) hm0 hi (by omega) (by omega)
            refine hlow.mono ?_
            rintro e w' ⟨G, ROW, q1, q2, q3, q4, rfl, rfl⟩
            rw [ht, e2] at q4
            rw [ht, e1]
            obtain ⟨cur1, g1, g2, g3⟩ := setCells_heap_at w.heap.size (l2.flatMap enc40) (i * 2) (w.drew.alloc (.cells ROW 40)) ROW 40 (0, 0) (heap_alloc_new w.drew _) (by rw [hlv, q3]; omega)
            obtain ⟨cur2, k1, k2, k3⟩ := setCells_heap_at w.heap.size ((l0.drop i).flatMap enc40) ((i + l2.length) * 2) (World.setCells (w.drew.alloc (.cells ROW 40)) w.heap.size (i * 2) (l2.flatMap enc40)).drew cur1 40 (0, 0) g1 (by rw [l3, g2, q3]; omega)
            have hcells : cur2.toList.take ((l0.length + l2.length) * 2) = (l0.take i ++ l2 ++ l0.drop i).flatMap enc40 := by
              have c1 : cur1.toList.take ((i + l2.length) * 2) = (l0.take i).flatMap enc40 ++ l2.flatMap enc40 := by
                rw [g3, q4]
                exact List.take_left' (by rw [List.length_append, l1, hlv]; omega)
              rw [k3, c1, List.flatMap_append, List.flatMap_append]
              exact List.take_left' (by rw [List.length_append, List.length_append, l1, hlv, l3]; omega)
            have hbN : Below w0.heap.size w0 (w.drew.alloc (.cells ROW 40)) := below_alloc (below_drew1 hB) _
            have hkN : Kept w (w.drew.alloc (.cells ROW 40)) (fun k_ => P0_ k_ ∨ w.heap.size ≤ k_) := Kept.alloc (Kept.drew (Kept.refl w _)) _
            refine ⟨_, rfl, (R_iff flat40).2 ⟨fun k hk => ?_, by rw [flatMap_length flat40], .inr ⟨w.heap.size, G, cur2, by rw [hlr], hB.size, k1, by rw [hlr]; omega, q2, by rw [k2, g2]; exact q3, by rw [hlr]; exact hcells⟩⟩, ?_, ?_⟩
            · have : w.heap.size = k := by simpa [Value.ownBlock] using hk
              subst this
              exact .inr (Nat.le_refl _)
            · exact bel_setCells (below_drew1 (bel_setCells hbN hB.size _ _)) hB.size _ _
            · have hk2 := kep_setCells (Kept.drew (kep_setCells hkN (b := w.heap.size) (.inr (Nat.le_refl _)) (i * 2) (l2.flatMap enc40))) (b := w.heap.size) (.inr (Nat.le_refl _)) ((i + l2.length) * 2) ((l0.drop i).flatMap enc40)
              exact ⟨hk2.1, fun k hk hn => hk2.2 k hk (fun h => h.elim hn (fun h => by omega))⟩
  · cases h

end Go.Proofs.Ytkoiffkonjpoiaa.Q
namespace Go.Proofs.Ytkoiffkonjpoiaa.Q
open Go.RowKit Go.Proofs.YtkoiffkonjpoiaaW.PrintWords Go.Proofs.YtkoiffkonjpoiaaW.PrintLast Go.Proofs.YtkoiffkonjpoiaaW.PrintMore Go.Proofs.YtkoiffkonjpoiaaX
attribute [local go_sem] max2_int min2_int max_two min_two max_three min_three max_four min_four   -- for this text's walks alone
set_option linter.unusedVariables false
set_option linter.unusedSimpArgs false

attribute [local go_sem high] eqA40
def leaf_Leaf_Put.f (l0 : List (S40)) (a1 : Int) (a2 : Int) : Option ((List (S40)) × Int × Bool) := (leaf_Leaf_find.f l0 a1).bind fun bt638 => ((leaf_Pair_99.f l0).bind fun t640 => (if bt638.2 = true then (if 0 ≤ bt638.1 then (if bt638.1 < (t640.length : Int) then (if bt638.1 < (l0.length : Int) then (some ((t640.set (bt638.1 : Int).toNat (⟨(rd_T40 t640 bt638.1).f0, a2⟩ : S40)), (rd_T40 l0 bt638.1).f1, true)) else (none)) else (none)) else (none)) else ((leaf_Pair_109.f t640 bt638.1 (([(⟨a1, a2⟩ : S40)] : List (S40)))).bind fun t648 => (some (t648, 0, false)))))
set_option maxHeartbeats 8000000 in
set_option maxRecDepth 100000 in
theorem leaf_Leaf_Put.calls (A0 : Option Addr) (c0 : Nat) (l0 : List (S40)) (a1 : Int) (a2 : Int) (r1 : List (S40)) (r2 : Int) (r3 : Bool) (w : World) (hr0 : Kd.C k40 w A0 l0.length l0) (hc0 : l0.length ≤ c0) (h : leaf_Leaf_Put.f l0 a1 a2 = some (r1, r2, r3)) :
    Calls Try.prog 68 #[.slice A0 l0.length c0, .int .i64 a1, .int .i64 a2] w fun e w' => ∃ v0_ : Value, e = .returned (.tuple #[v0_, .int .i64 r2, .bool r3]) ∧ Kd.R k40 40 w' w.heap.size (fun _ => True) v0_ r1 ∧ Below w.heap.size w w' := by
  have hu40 := Try.underlying40
  have HR0 := Aside0.mk hr0
  have HC0 := Aside0.mk hc0
  clear hr0 hc0
  have HB := Aside0.mk (Below.refl w.heap.size w)
  have H : ((leaf_Leaf_find.f l0 a1).bind fun bt638 => ((leaf_Pair_99.f l0).bind fun t640 => (if bt638.2 = true then (if 0 ≤ bt638.1 then (if bt638.1 < (t640.length : Int) then (if bt638.1 < (l0.length : Int) then (some ((t640.set (bt638.1 : Int).toNat (⟨(rd_T40 t640 bt638.1).f0, a2⟩ : S40)), (rd_T40 l0 bt638.1).f1, true)) else (none)) else (none)) else (none)) else ((leaf_Pair_109.f t640 bt638.1 (([(⟨a1, a2⟩ : S40)] : List (S40)))).bind fun t648 => (some (t648, 0, false)))))) = some (r1, r2, r3) := h
  clear h
  replace H := Option.bind_eq_some_iff.mp H
  obtain ⟨⟨t638, t639⟩, A40, H⟩ := H
  replace H : ((leaf_Pair_99.f l0).bind fun t640 => (if t639 = true then (if 0 ≤ t638 then (if t638 < (t640.length : Int) then (if t638 < (l0.length : Int) then (some ((t640.set (t638 : Int).toNat (⟨(rd_T40 t640 t638).f0, a2⟩ : S40)), (rd_T40 l0 t638).f1, true)) else (none)) else (none)) else (none)) else ((leaf_Pair_109.f t640 t638 (([(⟨a1, a2⟩ : S40)] : List (S40)))).bind fun t648 => (some (t648, 0, false))))) = some (r1, r2, r3) := H
  have A4 := Aside0.mk A40
  clear A40
  replace H := Option.bind_eq_some_iff.mp H
  obtain ⟨t640, A50, H⟩ := H
  replace H : (if t639 = true then (if 0 ≤ t638 then (if t638 < (t640.length : Int) then (if t638 < (l0.length : Int) then (some ((t640.set (t638 : Int).toNat (⟨(rd_T40 t640 t638).f0, a2⟩ : S40)), (rd_T40 l0 t638).f1, true)) else (none)) else (none)) else (none)) else ((leaf_Pair_109.f t640 t638 (([(⟨a1, a2⟩ : S40)] : List (S40)))).bind fun t648 => (some (t648, 0, false)))) = some (r1, r2, r3) := H
  have A5 := Aside0.mk A50
  clear A50
  by_cases c6 : t639 = true
  · subst c6
    have H1 : (if 0 ≤ t638 then (if t638 < (t640.length : Int) then (if t638 < (l0.length : Int) then (some ((t640.set (t638 : Int).toNat (⟨(rd_T40 t640 t638).f0, a2⟩ : S40)), (rd_T40 l0 t638).f1, true)) else (none)) else (none)) else (none)) = some (r1, r2, r3) := by rw [if_pos rfl] at H; exact H
    clear H
    have H := H1
    clear H1
    by_cases c7 : 0 ≤ t638
    · rw [if_pos c7] at H
      have c7b0 : decide (0 ≤ t638) = true := decide_eq_true c7
      clear c7
      by_cases c8 : t638 < (t640.length : Int)
      · rw [if_pos c8] at H
        have c8b0 : decide (t638 < (t640.length : Int)) = true := decide_eq_true c8
        clear c8
        obtain ⟨y643, hy643⟩ : ∃ y_ : List (S40), y_ = (t640.set (t638 : Int).toNat (⟨(rd_T40 t640 t638).f0, a2⟩ : S40)) := ⟨_, rfl⟩
        replace H : (if t638 < (l0.length : Int) then (some (y643, (rd_T40 l0 t638).f1, true)) else (none)) = some (r1, r2, r3) := by first | (rw [hy643]; with_reducible exact H) | (have H2_ := (Option.bind_some _ _).symm.trans H; rw [hy643]; with_reducible exact H2_) | (have H2_ := (Option.bind_some _ _).symm.trans H; with_reducible exact H2_) | with_reducible exact H | (rw [hy643]; exact H) | exact H
        have Ny643 := Aside0.mk hy643
        clear hy643
        by_cases c10 : t638 < (l0.length : Int)
        · rw [if_pos c10] at H
          have c10b0 : decide (t638 < (l0.length : Int)) = true := decide_eq_true c10
          clear c10
          simp only [Option.some.injEq, Prod.mk.injEq] at H
          obtain ⟨rfl, rfl, rfl⟩ := H
          go_enter Try.func68, Try.ntmps68
          go_wp2_with (first | (go_at_call 98; (with_reducible refine (leaf_Leaf_find.calls _ _ l0 a1 t638 true _ ?side1 ?side2 A4.out).mono ?_); (case side1 => repeat (first | exact HR0.out | (with_reducible refine Kd.C_alloc ?_ _) | (with_reducible refine Kd.C_drewN ?_ _) | (with_reducible refine Kd.C_drew ?_))); (case side2 => exact HC0.out); rintro e w11 ⟨rfl, hb⟩; have n0_ := Aside0.mk (below_step (by repeat (first | (with_reducible first | exact HB.out | apply below_alloc | apply pw_below_drewN | apply below_drew1) | exact HB.out)) hb); clear HB; have HB := n0_; clear n0_; (try clear hb); (try clear hb2); (try clear hk); (try clear hi)) | (go_at_call 99; (with_reducible refine (leaf_Pair_99.calls _ _ l0 t640 _ ?side1 ?side2 A5.out).mono ?_); (case side1 => repeat (first | exact (Kd.C_below HR0.out HB.out) | (with_reducible refine Kd.C_alloc ?_ _) | (with_reducible refine Kd.C_drewN ?_ _) | (with_reducible refine Kd.C_drew ?_))); (case side2 => exact HC0.out); rintro e w12 ⟨v641, rfl, ho0, hb⟩; have n0_ := Aside0.mk (Kd.R_lower ho0 (below_size (by repeat (first | (with_reducible first | exact HB.out | apply below_alloc | apply pw_below_drewN | apply below_drew1) | exact HB.out)))); have n1_ := Aside0.mk (below_step (by repeat (first | (with_reducible first | exact HB.out | apply below_alloc | apply pw_below_drewN | apply below_drew1) | exact HB.out)) hb); clear HB; have HO642 := n0_; have HB := n1_; clear n0_ n1_; (try clear hb); (try clear hb2); (try clear hk); (try clear hi); (try clear ho0); have p9 : 0 ≤ (t638 : Int) := of_decide_eq_true (by first | (with_reducible assumption) | assumption); have q9 : (t638 : Int) < ((t640.length : Int) : Int) := of_decide_eq_true (by first | (with_reducible assumption) | assumption); obtain ⟨go9, co9, eo9, gb9, gl9, cl9, HG9⟩ := Kd.R_form HO642.out (by omega); (first | cases eo9 | (injection eo9 with ea_ en_ ec_; (first | subst ea_ | (injection ea_ with ea_; subst ea_)); subst ec_; clear en_)); have GB9 := Aside0.mk gb9; have GG9 := Aside0.mk HG9; clear gb9 gl9 HG9; obtain ⟨ce9, hcl9, hM9, hcc9, hfr9⟩ := Kd.R_elem HO642.out z40 (t638 : Int) p9 q9; obtain rfl := k40_openM hM9; have hx9_0 : w12.cell? ⟨go9, (t638 : Int).toNat * 2, none⟩ = some (.int .i64 ((rd_T40 t640 t638).f0)) := hcc9 0 _ rfl; have hx9_1 : w12.cell? ⟨go9, (t638 : Int).toNat * 2 + 1, none⟩ = some (.int .i64 ((rd_T40 t640 t638).f1)) := hcc9 1 _ rfl; have hf9_0 : w12.frozen? ⟨go9, (t638 : Int).toNat * 2, none⟩ = false := hfr9 0; have hf9_1 : w12.frozen? ⟨go9, (t638 : Int).toNat * 2 + 1, none⟩ = false := hfr9 1; clear hcl9 hcc9 hfr9 hM9; replace p9 := eq_true p9; replace q9 := eq_true q9; have HX13 := Aside0.mk (show Kd.R k40 40 w12 w.heap.size (fun _ => True) (.slice (some ⟨go9, 0, none⟩) t640.length co9) t640 from (by (with_reducible repeat (first | apply Kd.R_alloc | apply Kd.R_drewN | apply Kd.R_drew)); exact HO642.out)); obtain ⟨ce13, hcl13, hM13, hcc13, hfr13⟩ := Kd.R_elem HX13.out z40 (t638 : Int) (of_decide_eq_true (by first | (with_reducible assumption) | assumption)) (by have h_ : (t638 : Int) < ((t640.length : Int) : Int) := of_decide_eq_true (by first | (with_reducible assumption) | assumption); first | exact h_ | (have e_ := (Kd.R_reads' HO642.out).1; omega) | simpa using h_); obtain rfl := k40_openM hM13; have HP13 := Kd.R_seg HX13.out (t638 : Int) (of_decide_eq_true (by first | (with_reducible assumption) | assumption)) (by have h_ : (t638 : Int) < ((t640.length : Int) : Int) := of_decide_eq_true (by first | (with_reducible assumption) | assumption); first | exact h_ | (have e_ := (Kd.R_reads' HO642.out).1; omega) | simpa using h_) (seg := [.int .i64 a2]) (j := 1) hcl13 hcc13 (show 2 ≤ 2 from by decide) (x' := (⟨(rd_T40 t640 t638).f0, a2⟩ : S40)) (k40_mkM _ _ _ (⟨(rd_T40 t640 t638).f0, a2⟩ : S40) ) (fun _ hk => hk); have hx13_1 := hcc13 1 _ rfl; (try simp only [show (k40).sz = 2 from rfl, Nat.mul_one, Nat.add_zero] at hx13_1); have hf13_1 := hfr13 1; (try simp only [show (k40).sz = 2 from rfl, Nat.mul_one, Nat.add_zero] at hf13_1); clear hcl13 hcc13 hfr13 hM13) | ((with_reducible refine gate_store (t := 2) (p := 25) rfl ?_); (try (rw [drewN_self w12]; generalize hq_ : World.drewN w12 _ = w12; have n0_ := Aside0.mk (Kd.R_at hq_ HO642.out); have n1_ := Aside0.mk (below_at hq_ HB.out); clear hq_ HO642 HB; have HO642 := n0_; have HB := n1_; clear n0_ n1_; (try (have HX13 := Aside0.mk (show Kd.R k40 40 w12 w.heap.size (fun _ => True) (.slice (some ⟨go9, 0, none⟩) t640.length co9) t640 from (by (with_reducible repeat (first | apply Kd.R_alloc | apply Kd.R_drewN | apply Kd.R_drew)); exact HO642.out)))); (try (obtain ⟨ce13, hcl13, hM13, hcc13, hfr13⟩ := Kd.R_elem HX13.out z40 (t638 : Int) (of_decide_eq_true (by first | (with_reducible assumption) | assumption)) (by have h_ : (t638 : Int) < ((t640.length : Int) : Int) := of_decide_eq_true (by first | (with_reducible assumption) | assumption); first | exact h_ | (have e_ := (Kd.R_reads' HO642.out).1; omega) | simpa using h_))); (try (obtain rfl := k40_openM hM13)); (try (have HP13 := Kd.R_seg HX13.out (t638 : Int) (of_decide_eq_true (by first | (with_reducible assumption) | assumption)) (by have h_ : (t638 : Int) < ((t640.length : Int) : Int) := of_decide_eq_true (by first | (with_reducible assumption) | assumption); first | exact h_ | (have e_ := (Kd.R_reads' HO642.out).1; omega) | simpa using h_) (seg := [.int .i64 a2]) (j := 1) hcl13 hcc13 (show 2 ≤ 2 from by decide) (x' := (⟨(rd_T40 t640 t638).f0, a2⟩ : S40)) (k40_mkM _ _ _ (⟨(rd_T40 t640 t638).f0, a2⟩ : S40) ) (fun _ hk => hk))); (try (have hx13_1 := hcc13 1 _ rfl)); (try (try simp only [show (k40).sz = 2 from rfl, Nat.mul_one, Nat.add_zero] at hx13_1)); (try (have hf13_1 := hfr13 1)); (try (try simp only [show (k40).sz = 2 from rfl, Nat.mul_one, Nat.add_zero] at hf13_1)); (try (clear hcl13 hcc13 hfr13 hM13)))); refine store_event (t := 2) (p := 25) (v := ?vo_w14) (w1 := (w12.setCell ⟨go9, (t638 : Int).toNat * 2 + 1, none⟩ (.int .i64 a2))) ?hg ?ho ?hn ?hr ?_; (case ho => rfl); (case hg => rfl); (case hn => rfl); (case hr => first | (go_simp; done) | (go_simp; rfl)); intro w14 hw; have hg : w12.grownBy w14 (some go9) := (by rw [hw]; exact HP13.2); have hp_ : Kd.R k40 40 w14 w.heap.size (fun _ => True) (.slice (some ⟨go9, 0, none⟩) t640.length co9) y643 := (by rw [hw, Ny643.out]; exact HP13.1); clear HP13; have n0_ := Aside0.mk (hp_); have n1_ := Aside0.mk ((by rw [hw]; exact below_set (HB.out) GB9.out : Below w.heap.size w w14)); clear HO642; clear HB; have HO642 := n0_; have HB := n1_; clear n0_ n1_; clear hg hw hp_; have p644 : 0 ≤ (t638 : Int) := of_decide_eq_true (by first | (with_reducible assumption) | assumption); have q644 : t638 < (l0.length : Int) := of_decide_eq_true (by first | (with_reducible assumption) | assumption); obtain ⟨ad644, e644, hx644_0, hx644_1⟩ := at_T40 HR0.out t638 p644 q644; cases e644; replace hx644_0 := (HB.out.cell (World.block_lt_of_cell? w _ hx644_0)).trans hx644_0; replace hx644_1 := (HB.out.cell (World.block_lt_of_cell? w _ hx644_1)).trans hx644_1; replace p644 := eq_true p644; replace q644 := eq_true q644))
          repeat (go_quiet (first | (go_at_call 98; (with_reducible refine (leaf_Leaf_find.calls _ _ l0 a1 t638 true _ ?side1 ?side2 A4.out).mono ?_); (case side1 => repeat (first | exact HR0.out | (with_reducible refine Kd.C_alloc ?_ _) | (with_reducible refine Kd.C_drewN ?_ _) | (with_reducible refine Kd.C_drew ?_))); (case side2 => exact HC0.out); rintro e w11 ⟨rfl, hb⟩; have n0_ := Aside0.mk (below_step (by repeat (first | (with_reducible first | exact HB.out | apply below_alloc | apply pw_below_drewN | apply below_drew1) | exact HB.out)) hb); clear HB; have HB := n0_; clear n0_; (try clear hb); (try clear hb2); (try clear hk); (try clear hi)) | (go_at_call 99; (with_reducible refine (leaf_Pair_99.calls _ _ l0 t640 _ ?side1 ?side2 A5.out).mono ?_); (case side1 => repeat (first | exact (Kd.C_below HR0.out HB.out) | (with_reducible refine Kd.C_alloc ?_ _) | (with_reducible refine Kd.C_drewN ?_ _) | (with_reducible refine Kd.C_drew ?_))); (case side2 => exact HC0.out); rintro e w12 ⟨v641, rfl, ho0, hb⟩; have n0_ := Aside0.mk (Kd.R_lower ho0 (below_size (by repeat (first | (with_reducible first | exact HB.out | apply below_alloc | apply pw_below_drewN | apply below_drew1) | exact HB.out)))); have n1_ := Aside0.mk (below_step (by repeat (first | (with_reducible first | exact HB.out | apply below_alloc | apply pw_below_drewN | apply below_drew1) | exact HB.out)) hb); clear HB; have HO642 := n0_; have HB := n1_; clear n0_ n1_; (try clear hb); (try clear hb2); (try clear hk); (try clear hi); (try clear ho0); have p9 : 0 ≤ (t638 : Int) := of_decide_eq_true (by first | (with_reducible assumption) | assumption); have q9 : (t638 : Int) < ((t640.length : Int) : Int) := of_decide_eq_true (by first | (with_reducible assumption) | assumption); obtain ⟨go9, co9, eo9, gb9, gl9, cl9, HG9⟩ := Kd.R_form HO642.out (by omega); (first | cases eo9 | (injection eo9 with ea_ en_ ec_; (first | subst ea_ | (injection ea_ with ea_; subst ea_)); subst ec_; clear en_)); have GB9 := Aside0.mk gb9; have GG9 := Aside0.mk HG9; clear gb9 gl9 HG9; obtain ⟨ce9, hcl9, hM9, hcc9, hfr9⟩ := Kd.R_elem HO642.out z40 (t638 : Int) p9 q9; obtain rfl := k40_openM hM9; have hx9_0 : w12.cell? ⟨go9, (t638 : Int).toNat * 2, none⟩ = some (.int .i64 ((rd_T40 t640 t638).f0)) := hcc9 0 _ rfl; have hx9_1 : w12.cell? ⟨go9, (t638 : Int).toNat * 2 + 1, none⟩ = some (.int .i64 ((rd_T40 t640 t638).f1)) := hcc9 1 _ rfl; have hf9_0 : w12.frozen? ⟨go9, (t638 : Int).toNat * 2, none⟩ = false := hfr9 0; have hf9_1 : w12.frozen? ⟨go9, (t638 : Int).toNat * 2 + 1, none⟩ = false := hfr9 1; clear hcl9 hcc9 hfr9 hM9; replace p9 := eq_true p9; replace q9 := eq_true q9; have HX13 := Aside0.mk (show Kd.R k40 40 w12 w.heap.size (fun _ => True) (.slice (some ⟨go9, 0, none⟩) t640.length co9) t640 from (by (with_reducible repeat (first | apply Kd.R_alloc | apply Kd.R_drewN | apply Kd.R_drew)); exact HO642.out)); obtain ⟨ce13, hcl13, hM13, hcc13, hfr13⟩ := Kd.R_elem HX13.out z40 (t638 : Int) (of_decide_eq_true (by first | (with_reducible assumption) | assumption)) (by have h_ : (t638 : Int) < ((t640.length : Int) : Int) := of_decide_eq_true (by first | (with_reducible assumption) | assumption); first | exact h_ | (have e_ := (Kd.R_reads' HO642.out).1; omega) | simpa using h_); obtain rfl := k40_openM hM13; have HP13 := Kd.R_seg HX13.out (t638 : Int) (of_decide_eq_true (by first | (with_reducible assumption) | assumption)) (by have h_ : (t638 : Int) < ((t640.length : Int) : Int) := of_decide_eq_true (by first | (with_reducible assumption) | assumption); first | exact h_ | (have e_ := (Kd.R_reads' HO642.out).1; omega) | simpa using h_) (seg := [.int .i64 a2]) (j := 1) hcl13 hcc13 (show 2 ≤ 2 from by decide) (x' := (⟨(rd_T40 t640 t638).f0, a2⟩ : S40)) (k40_mkM _ _ _ (⟨(rd_T40 t640 t638).f0, a2⟩ : S40) ) (fun _ hk => hk); have hx13_1 := hcc13 1 _ rfl; (try simp only [show (k40).sz = 2 from rfl, Nat.mul_one, Nat.add_zero] at hx13_1); have hf13_1 := hfr13 1; (try simp only [show (k40).sz = 2 from rfl, Nat.mul_one, Nat.add_zero] at hf13_1); clear hcl13 hcc13 hfr13 hM13) | ((with_reducible refine gate_store (t := 2) (p := 25) rfl ?_); (try (rw [drewN_self w12]; generalize hq_ : World.drewN w12 _ = w12; have n0_ := Aside0.mk (Kd.R_at hq_ HO642.out); have n1_ := Aside0.mk (below_at hq_ HB.out); clear hq_ HO642 HB; have HO642 := n0_; have HB := n1_; clear n0_ n1_; (try (have HX13 := Aside0.mk (show Kd.R k40 40 w12 w.heap.size (fun _ => True) (.slice (some ⟨go9, 0, none⟩) t640.length co9) t640 from (by (with_reducible repeat (first | apply Kd.R_alloc | apply Kd.R_drewN | apply Kd.R_drew)); exact HO642.out)))); (try (obtain ⟨ce13, hcl13, hM13, hcc13, hfr13⟩ := Kd.R_elem HX13.out z40 (t638 : Int) (of_decide_eq_true (by first | (with_reducible assumption) | assumption)) (by have h_ : (t638 : Int) < ((t640.length : Int) : Int) := of_decide_eq_true (by first | (with_reducible assumption) | assumption); first | exact h_ | (have e_ := (Kd.R_reads' HO642.out).1; omega) | simpa using h_))); (try (obtain rfl := k40_openM hM13)); (try (have HP13 := Kd.R_seg HX13.out (t638 : Int) (of_decide_eq_true (by first | (with_reducible assumption) | assumption)) (by have h_ : (t638 : Int) < ((t640.length : Int) : Int) := of_decide_eq_true (by first | (with_reducible assumption) | assumption); first | exact h_ | (have e_ := (Kd.R_reads' HO642.out).1; omega) | simpa using h_) (seg := [.int .i64 a2]) (j := 1) hcl13 hcc13 (show 2 ≤ 2 from by decide) (x' := (⟨(rd_T40 t640 t638).f0, a2⟩ : S40)) (k40_mkM _ _ _ (⟨(rd_T40 t640 t638).f0, a2⟩ : S40) ) (fun _ hk => hk))); (try (have hx13_1 := hcc13 1 _ rfl)); (try (try simp only [show (k40).sz = 2 from rfl, Nat.mul_one, Nat.add_zero] at hx13_1)); (try (have hf13_1 := hfr13 1)); (try (try simp only [show (k40).sz = 2 from rfl, Nat.mul_one, Nat.add_zero] at hf13_1)); (try (clear hcl13 hcc13 hfr13 hM13)))); refine store_event (t := 2) (p := 25) (v := ?vo_w14) (w1 := (w12.setCell ⟨go9, (t638 : Int).toNat * 2 + 1, none⟩ (.int .i64 a2))) ?hg ?ho ?hn ?hr ?_; (case ho => rfl); (case hg => rfl); (case hn => rfl); (case hr => first | (go_simp; done) | (go_simp; rfl)); intro w14 hw; have hg : w12.grownBy w14 (some go9) := (by rw [hw]; exact HP13.2); have hp_ : Kd.R k40 40 w14 w.heap.size (fun _ => True) (.slice (some ⟨go9, 0, none⟩) t640.length co9) y643 := (by rw [hw, Ny643.out]; exact HP13.1); clear HP13; have n0_ := Aside0.mk (hp_); have n1_ := Aside0.mk ((by rw [hw]; exact below_set (HB.out) GB9.out : Below w.heap.size w w14)); clear HO642; clear HB; have HO642 := n0_; have HB := n1_; clear n0_ n1_; clear hg hw hp_; have p644 : 0 ≤ (t638 : Int) := of_decide_eq_true (by first | (with_reducible assumption) | assumption); have q644 : t638 < (l0.length : Int) := of_decide_eq_true (by first | (with_reducible assumption) | assumption); obtain ⟨ad644, e644, hx644_0, hx644_1⟩ := at_T40 HR0.out t638 p644 q644; cases e644; replace hx644_0 := (HB.out.cell (World.block_lt_of_cell? w _ hx644_0)).trans hx644_0; replace hx644_1 := (HB.out.cell (World.block_lt_of_cell? w _ hx644_1)).trans hx644_1; replace p644 := eq_true p644; replace q644 := eq_true q644)); try go_wp2_with (first | (go_at_call 98; (with_reducible refine (leaf_Leaf_find.calls _ _ l0 a1 t638 true _ ?side1 ?side2 A4.out).mono ?_); (case side1 => repeat (first | exact HR0.out | (with_reducible refine Kd.C_alloc ?_ _) | (with_reducible refine Kd.C_drewN ?_ _) | (with_reducible refine Kd.C_drew ?_))); (case side2 => exact HC0.out); rintro e w11 ⟨rfl, hb⟩; have n0_ := Aside0.mk (below_step (by repeat (first | (with_reducible first | exact HB.out | apply below_alloc | apply pw_below_drewN | apply below_drew1) | exact HB.out)) hb); clear HB; have HB := n0_; clear n0_; (try clear hb); (try clear hb2); (try clear hk); (try clear hi)) | (go_at_call 99; (with_reducible refine (leaf_Pair_99.calls _ _ l0 t640 _ ?side1 ?side2 A5.out).mono ?_); (case side1 => repeat (first | exact (Kd.C_below HR0.out HB.out) | (with_reducible refine Kd.C_alloc ?_ _) | (with_reducible refine Kd.C_drewN ?_ _) | (with_reducible refine Kd.C_drew ?_))); (case side2 => exact HC0.out); rintro e w12 ⟨v641, rfl, ho0, hb⟩; have n0_ := Aside0.mk (Kd.R_lower ho0 (below_size (by repeat (first | (with_reducible first | exact HB.out | apply below_alloc | apply pw_below_drewN | apply below_drew1) | exact HB.out)))); have n1_ := Aside0.mk (below_step (by repeat (first | (with_reducible first | exact HB.out | apply below_alloc | apply pw_below_drewN | apply below_drew1) | exact HB.out)) hb); clear HB; have HO642 := n0_; have HB := n1_; clear n0_ n1_; (try clear hb); (try clear hb2); (try clear hk); (try clear hi); (try clear ho0); have p9 : 0 ≤ (t638 : Int) := of_decide_eq_true (by first | (with_reducible assumption) | assumption); have q9 : (t638 : Int) < ((t640.length : Int) : Int) := of_decide_eq_true (by first | (with_reducible assumption) | assumption); obtain ⟨go9, co9, eo9, gb9, gl9, cl9, HG9⟩ := Kd.R_form HO642.out (by omega); (first | cases eo9 | (injection eo9 with ea_ en_ ec_; (first | subst ea_ | (injection ea_ with ea_; subst ea_)); subst ec_; clear en_)); have GB9 := Aside0.mk gb9; have GG9 := Aside0.mk HG9; clear gb9 gl9 HG9; obtain ⟨ce9, hcl9, hM9, hcc9, hfr9⟩ := Kd.R_elem HO642.out z40 (t638 : Int) p9 q9; obtain rfl := k40_openM hM9; have hx9_0 : w12.cell? ⟨go9, (t638 : Int).toNat * 2, none⟩ = some (.int .i64 ((rd_T40 t640 t638).f0)) := hcc9 0 _ rfl; have hx9_1 : w12.cell? ⟨go9, (t638 : Int).toNat * 2 + 1, none⟩ = some (.int .i64 ((rd_T40 t640 t638).f1)) := hcc9 1 _ rfl; have hf9_0 : w12.frozen? ⟨go9, (t638 : Int).toNat * 2, none⟩ = false := hfr9 0; have hf9_1 : w12.frozen? ⟨go9, (t638 : Int).toNat * 2 + 1, none⟩ = false := hfr9 1; clear hcl9 hcc9 hfr9 hM9; replace p9 := eq_true p9; replace q9 := eq_true q9; have HX13 := Aside0.mk (show Kd.R k40 40 w12 w.heap.size (fun _ => True) (.slice (some ⟨go9, 0, none⟩) t640.length co9) t640 from (by (with_reducible repeat (first | apply Kd.R_alloc | apply Kd.R_drewN | apply Kd.R_drew)); exact HO642.out)); obtain ⟨ce13, hcl13, hM13, hcc13, hfr13⟩ := Kd.R_elem HX13.out z40 (t638 : Int) (of_decide_eq_true (by first | (with_reducible assumption) | assumption)) (by have h_ : (t638 : Int) < ((t640.length : Int) : Int) := of_decide_eq_true (by first | (with_reducible assumption) | assumption); first | exact h_ | (have e_ := (Kd.R_reads' HO642.out).1; omega) | simpa using h_); obtain rfl := k40_openM hM13; have HP13 := Kd.R_seg HX13.out (t638 : Int) (of_decide_eq_true (by first | (with_reducible assumption) | assumption)) (by have h_ : (t638 : Int) < ((t640.length : Int) : Int) := of_decide_eq_true (by first | (with_reducible assumption) | assumption); first | exact h_ | (have e_ := (Kd.R_reads' HO642.out).1; omega) | simpa using h_) (seg := [.int .i64 a2]) (j := 1) hcl13 hcc13 (show 2 ≤ 2 from by decide) (x' := (⟨(rd_T40 t640 t638).f0, a2⟩ : S40)) (k40_mkM _ _ _ (⟨(rd_T40 t640 t638).f0, a2⟩ : S40) ) (fun _ hk => hk); have hx13_1 := hcc13 1 _ rfl; (try simp only [show (k40).sz = 2 from rfl, Nat.mul_one, Nat.add_zero] at hx13_1); have hf13_1 := hfr13 1; (try simp only [show (k40).sz = 2 from rfl, Nat.mul_one, Nat.add_zero] at hf13_1); clear hcl13 hcc13 hfr13 hM13) | ((with_reducible refine gate_store (t := 2) (p := 25) rfl ?_); (try (rw [drewN_self w12]; generalize hq_ : World.drewN w12 _ = w12; have n0_ := Aside0.mk (Kd.R_at hq_ HO642.out); have n1_ := Aside0.mk (below_at hq_ HB.out); clear hq_ HO642 HB; have HO642 := n0_; have HB := n1_; clear n0_ n1_; (try (have HX13 := Aside0.mk (show Kd.R k40 40 w12 w.heap.size (fun _ => True) (.slice (some ⟨go9, 0, none⟩) t640.length co9) t640 from (by (with_reducible repeat (first | apply Kd.R_alloc | apply Kd.R_drewN | apply Kd.R_drew)); exact HO642.out)))); (try (obtain ⟨ce13, hcl13, hM13, hcc13, hfr13⟩ := Kd.R_elem HX13.out z40 (t638 : Int) (of_decide_eq_true (by first | (with_reducible assumption) | assumption)) (by have h_ : (t638 : Int) < ((t640.length : Int) : Int) := of_decide_eq_true (by first | (with_reducible assumption) | assumption); first | exact h_ | (have e_ := (Kd.R_reads' HO642.out).1; omega) | simpa using h_))); (try (obtain rfl := k40_openM hM13)); (try (have HP13 := Kd.R_seg HX13.out (t638 : Int) (of_decide_eq_true (by first | (with_reducible assumption) | assumption)) (by have h_ : (t638 : Int) < ((t640.length : Int) : Int) := of_decide_eq_true (by first | (with_reducible assumption) | assumption); first | exact h_ | (have e_ := (Kd.R_reads' HO642.out).1; omega) | simpa using h_) (seg := [.int .i64 a2]) (j := 1) hcl13 hcc13 (show 2 ≤ 2 from by decide) (x' := (⟨(rd_T40 t640 t638).f0, a2⟩ : S40)) (k40_mkM _ _ _ (⟨(rd_T40 t640 t638).f0, a2⟩ : S40) ) (fun _ hk => hk))); (try (have hx13_1 := hcc13 1 _ rfl)); (try (try simp only [show (k40).sz = 2 from rfl, Nat.mul_one, Nat.add_zero] at hx13_1)); (try (have hf13_1 := hfr13 1)); (try (try simp only [show (k40).sz = 2 from rfl, Nat.mul_one, Nat.add_zero] at hf13_1)); (try (clear hcl13 hcc13 hfr13 hM13)))); refine store_event (t := 2) (p := 25) (v := ?vo_w14) (w1 := (w12.setCell ⟨go9, (t638 : Int).toNat * 2 + 1, none⟩ (.int .i64 a2))) ?hg ?ho ?hn ?hr ?_; (case ho => rfl); (case hg => rfl); (case hn => rfl); (case hr => first | (go_simp; done) | (go_simp; rfl)); intro w14 hw; have hg : w12.grownBy w14 (some go9) := (by rw [hw]; exact HP13.2); have hp_ : Kd.R k40 40 w14 w.heap.size (fun _ => True) (.slice (some ⟨go9, 0, none⟩) t640.length co9) y643 := (by rw [hw, Ny643.out]; exact HP13.1); clear HP13; have n0_ := Aside0.mk (hp_); have n1_ := Aside0.mk ((by rw [hw]; exact below_set (HB.out) GB9.out : Below w.heap.size w w14)); clear HO642; clear HB; have HO642 := n0_; have HB := n1_; clear n0_ n1_; clear hg hw hp_; have p644 : 0 ≤ (t638 : Int) := of_decide_eq_true (by first | (with_reducible assumption) | assumption); have q644 : t638 < (l0.length : Int) := of_decide_eq_true (by first | (with_reducible assumption) | assumption); obtain ⟨ad644, e644, hx644_0, hx644_1⟩ := at_T40 HR0.out t638 p644 q644; cases e644; replace hx644_0 := (HB.out.cell (World.block_lt_of_cell? w _ hx644_0)).trans hx644_0; replace hx644_1 := (HB.out.cell (World.block_lt_of_cell? w _ hx644_1)).trans hx644_1; replace p644 := eq_true p644; replace q644 := eq_true q644)))
          go_ret3
          exact ⟨_, by first | rfl | (simp [errW_none, errW_some] <;> rfl) | (simp [*, errW_none, errW_some] <;> rfl), by (with_reducible repeat (first | apply Kd.R_alloc | apply Kd.R_drewN | apply Kd.R_drew)); exact HO642.out, by repeat (first | (with_reducible first | exact HB.out | apply below_alloc | apply pw_below_drewN | apply below_drew1) | exact HB.out)⟩
        · rw [if_neg c10] at H
          exact absurd H (by simp)
      · rw [if_neg c8] at H
        exact absurd H (by simp)
    · rw [if_neg c7] at H
      exact absurd H (by simp)
  · replace c6 := Bool.eq_false_iff.mpr c6
    subst c6
    have H1 : ((leaf_Pair_109.f t640 t638 (([(⟨a1, a2⟩ : S40)] : List (S40)))).bind fun t648 => (some (t648, 0, false))) = some (r1, r2, r3) := by rw [if_neg (show ¬ (false = true) by decide)] at H; exact H
    clear H
    have H := H1
    clear H1
    obtain ⟨y645, hy645⟩ : ∃ y_ : List (S40), y_ = (([(⟨a1, a2⟩ : S40)] : List (S40))) := ⟨_, rfl⟩
    replace H : ((leaf_Pair_109.f t640 t638 y645).bind fun t648 => (some (t648, 0, false))) = some (r1, r2, r3) := by first | (rw [hy645]; with_reducible exact H) | (have H2_ := (Option.bind_some _ _).symm.trans H; rw [hy645]; with_reducible exact H2_) | (have H2_ := (Option.bind_some _ _).symm.trans H; with_reducible exact H2_) | with_reducible exact H | (rw [hy645]; exact H) | exact H
    have Ny645 := Aside0.mk hy645
    clear hy645
    replace H := Option.bind_eq_some_iff.mp H
    obtain ⟨t648, A150, H⟩ := H
    replace H : (some (t648, 0, false)) = some (r1, r2, r3) := H
    have A15 := Aside0.mk A150
    clear A150
    simp only [Option.some.injEq, Prod.mk.injEq] at H
    obtain ⟨rfl, rfl, rfl⟩ := H
    go_enter Try.func68, Try.ntmps68
    go_wp2_with (first | (go_at_call 98; (with_reducible refine (leaf_Leaf_find.calls _ _ l0 a1 t638 false _ ?side1 ?side2 A4.out).mono ?_); (case side1 => repeat (first | exact HR0.out | (with_reducible refine Kd.C_alloc ?_ _) | (with_reducible refine Kd.C_drewN ?_ _) | (with_reducible refine Kd.C_drew ?_))); (case side2 => exact HC0.out); rintro e w16 ⟨rfl, hb⟩; have n0_ := Aside0.mk (below_step (by repeat (first | (with_reducible first | exact HB.out | apply below_alloc | apply pw_below_drewN | apply below_drew1) | exact HB.out)) hb); clear HB; have HB := n0_; clear n0_; (try clear hb); (try clear hb2); (try clear hk); (try clear hi)) | (go_at_call 99; (with_reducible refine (leaf_Pair_99.calls _ _ l0 t640 _ ?side1 ?side2 A5.out).mono ?_); (case side1 => repeat (first | exact (Kd.C_below HR0.out HB.out) | (with_reducible refine Kd.C_alloc ?_ _) | (with_reducible refine Kd.C_drewN ?_ _) | (with_reducible refine Kd.C_drew ?_))); (case side2 => exact HC0.out); rintro e w17 ⟨v641, rfl, ho0, hb⟩; have n0_ := Aside0.mk (Kd.R_lower ho0 (below_size (by repeat (first | (with_reducible first | exact HB.out | apply below_alloc | apply pw_below_drewN | apply below_drew1) | exact HB.out)))); have n1_ := Aside0.mk (below_step (by repeat (first | (with_reducible first | exact HB.out | apply below_alloc | apply pw_below_drewN | apply below_drew1) | exact HB.out)) hb); clear HB; have HO642 := n0_; have HB := n1_; clear n0_ n1_; (try clear hb); (try clear hb2); (try clear hk); (try clear hi); (try clear ho0)) | ((with_reducible refine gate_dst (N := 37) rfl ?_); refine Kd.R_lit k40 _ 40 ?hg (N := 37) ?hd (xs := ([(⟨a1, a2⟩ : S40)] : List (S40))) (inner := [.int .i64 a1, .int .i64 a2]) (ok := fun _ => True) (okp := fun _ => True) ?hr ?hp (fun _ hk => hk) trivial (Below.refl _ _) (Nat.le_refl _) (by simp) ?_; (case hd => rfl); (case hg => rfl); (case hr => first | (go_simp; done) | (go_simp; rfl)); (case hp => exact (Reps.c2 (show Kd.M k40 _ _ _ (⟨a1, a2⟩ : S40) [.int .i64 a1, .int .i64 a2] from (k40_mkM _ _ _ (⟨a1, a2⟩ : S40) )) (Reps.none _ _))); intro v646 w18 ho19 hb hg_ hnew_; clear hg_ hnew_; (first | rw [← Ny645.out] at ho19 | (simp only [Int.reduceToNat] at ho19; rw [← Ny645.out] at ho19)); have n0_ := Aside0.mk (Kd.R_elder' (by (with_reducible repeat (first | apply Kd.R_alloc | apply Kd.R_drewN | apply Kd.R_drew)); exact HO642.out) (Kd.R_base ho19) hb); have n1_ := Aside0.mk (Kd.R_lower (Kd.R_new' ho19 (Kd.R_lt (by (with_reducible repeat (first | apply Kd.R_alloc | apply Kd.R_drewN | apply Kd.R_drew)); exact HO642.out))) (below_size (by repeat (first | (with_reducible first | exact HB.out | apply below_alloc | apply pw_below_drewN | apply below_drew1) | exact HB.out)))); have n2_ := Aside0.mk (below_step (by repeat (first | (with_reducible first | exact HB.out | apply below_alloc | apply pw_below_drewN | apply below_drew1) | exact HB.out)) hb); clear HO642; clear HB; have HO642 := n0_; have HO647 := n1_; have HB := n2_; clear n0_ n1_ n2_; clear hb ho19; obtain ⟨Ao20, co20, eo20⟩ := Kd.R_slice HO642.out; subst eo20; obtain ⟨Ao21, co21, eo21⟩ := Kd.R_slice HO647.out; subst eo21) | (go_at_call 109; (with_reducible refine (leaf_Pair_109.calls (fun k_ => some k_ = (.slice Ao20 t640.length co20 : Value).ownBlock) (.slice Ao20 t640.length co20) t640 t638 _ _ y645 t648 w _ ?side1 ?side2 ?side3 ?side4 A15.out).mono ?_); (case side1 => repeat (first | (with_reducible first | exact HB.out | apply below_alloc | apply pw_below_drewN | apply below_drew1) | exact HB.out)); (case side2 => exact Kd.R_tight rfl HO642.out); (case side3 => exact Kd.C_kept_own (HO647.out) (fun k_ hk_ hs_ => (hk_.2) hs_)); (case side4 => exact (Kd.R_reads' HO647.out).2.1); rintro e w22 ⟨v649, rfl, ho0, hb, hkp⟩; have n0_ := Aside0.mk (Kd.R_mono (ok' := fun k_ => some k_ ≠ (v649 : Value).ownBlock) (Kd.R_keptB (HO647.out) hkp (fun k_ hk_ hs_ => (hk_.2) hs_)) (fun k_ hk_ => fun e_ => Or.elim (ho0.1 k_ e_.symm) (fun hs_ => hk_.2.1 hs_) (fun hn_ => Nat.not_le.2 hk_.2.2 hn_))); have n1_ := Aside0.mk (Kd.R_mono (ok' := fun k_ => some k_ ≠ (.slice Ao21 y645.length co21 : Value).ownBlock) ho0 (fun k_ hk_ => Or.elim hk_ (fun hs_ => fun e_ => (((HO647.out).1 k_ e_.symm).2) hs_) (fun hn_ => (Kd.fresh' (Kd.R_lt (by (with_reducible repeat (first | apply Kd.R_alloc | apply Kd.R_drewN | apply Kd.R_drew)); exact HO647.out)) k_ hn_)))); have n2_ := Aside0.mk (hb); clear HO647; clear HB; clear HO642; have HO647 := n0_; have HO650 := n1_; have HB := n2_; clear n0_ n1_ n2_; (try clear hb); (try clear hkp); (try clear ho0)))
    repeat (go_quiet (first | (go_at_call 98; (with_reducible refine (leaf_Leaf_find.calls _ _ l0 a1 t638 false _ ?side1 ?side2 A4.out).mono ?_); (case side1 => repeat (first | exact HR0.out | (with_reducible refine Kd.C_alloc ?_ _) | (with_reducible refine Kd.C_drewN ?_ _) | (with_reducible refine Kd.C_drew ?_))); (case side2 => exact HC0.out); rintro e w16 ⟨rfl, hb⟩; have n0_ := Aside0.mk (below_step (by repeat (first | (with_reducible first | exact HB.out | apply below_alloc | apply pw_below_drewN | apply below_drew1) | exact HB.out)) hb); clear HB; have HB := n0_; clear n0_; (try clear hb); (try clear hb2); (try clear hk); (try clear hi)) | (go_at_call 99; (with_reducible refine (leaf_Pair_99.calls _ _ l0 t640 _ ?side1 ?side2 A5.out).mono ?_); (case side1 => repeat (first | exact (Kd.C_below HR0.out HB.out) | (with_reducible refine Kd.C_alloc ?_ _) | (with_reducible refine Kd.C_drewN ?_ _) | (with_reducible refine Kd.C_drew ?_))); (case side2 => exact HC0.out); rintro e w17 ⟨v641, rfl, ho0, hb⟩; have n0_ := Aside0.mk (Kd.R_lower ho0 (below_size (by repeat (first | (with_reducible first | exact HB.out | apply below_alloc | apply pw_below_drewN | apply below_drew1) | exact HB.out)))); have n1_ := Aside0.mk (below_step (by repeat (first | (with_reducible first | exact HB.out | apply below_alloc | apply pw_below_drewN | apply below_drew1) | exact HB.out)) hb); clear HB; have HO642 := n0_; have HB := n1_; clear n0_ n1_; (try clear hb); (try clear hb2); (try clear hk); (try clear hi); (try clear ho0)) | ((with_reducible refine gate_dst (N := 37) rfl ?_); refine Kd.R_lit k40 _ 40 ?hg (N := 37) ?hd (xs := ([(⟨a1, a2⟩ : S40)] : List (S40))) (inner := [.int .i64 a1, .int .i64 a2]) (ok := fun _ => True) (okp := fun _ => True) ?hr ?hp (fun _ hk => hk) trivial (Below.refl _ _) (Nat.le_refl _) (by simp) ?_; (case hd => rfl); (case hg => rfl); (case hr => first | (go_simp; done) | (go_simp; rfl)); (case hp => exact (Reps.c2 (show Kd.M k40 _ _ _ (⟨a1, a2⟩ : S40) [.int .i64 a1, .int .i64 a2] from (k40_mkM _ _ _ (⟨a1, a2⟩ : S40) )) (Reps.none _ _))); intro v646 w18 ho19 hb hg_ hnew_; clear hg_ hnew_; (first | rw [← Ny645.out] at ho19 | (simp only [Int.reduceToNat] at ho19; rw [← Ny645.out] at ho19)); have n0_ := Aside0.mk (Kd.R_elder' (by (with_reducible repeat (first | apply Kd.R_alloc | apply Kd.R_drewN | apply Kd.R_drew)); exact HO642.out) (Kd.R_base ho19) hb); have n1_ := Aside0.mk (Kd.R_lower (Kd.R_new' ho19 (Kd.R_lt (by (with_reducible repeat (first | apply Kd.R_alloc | apply Kd.R_drewN | apply Kd.R_drew)); exact HO642.out))) (below_size (by repeat (first | (with_reducible first | exact HB.out | apply below_alloc | apply pw_below_drewN | apply below_drew1) | exact HB.out)))); have n2_ := Aside0.mk (below_step (by repeat (first | (with_reducible first | exact HB.out | apply below_alloc | apply pw_below_drewN | apply below_drew1) | exact HB.out)) hb); clear HO642; clear HB; have HO642 := n0_; have HO647 := n1_; have HB := n2_; clear n0_ n1_ n2_; clear hb ho19; obtain ⟨Ao20, co20, eo20⟩ := Kd.R_slice HO642.out; subst eo20; obtain ⟨Ao21, co21, eo21⟩ := Kd.R_slice HO647.out; subst eo21) | (go_at_call 109; (with_reducible refine (leaf_Pair_109.calls (fun k_ => some k_ = (.slice Ao20 t640.length co20 : Value).ownBlock) (.slice Ao20 t640.length co20) t640 t638 _ _ y645 t648 w _ ?side1 ?side2 ?side3 ?side4 A15.out).mono ?_); (case side1 => repeat (first | (with_reducible first | exact HB.out | apply below_alloc | apply pw_below_drewN | apply below_drew1) | exact HB.out)); (case side2 => exact Kd.R_tight rfl HO642.out); (case side3 => exact Kd.C_kept_own (HO647.out) (fun k_ hk_ hs_ => (hk_.2) hs_)); (case side4 => exact (Kd.R_reads' HO647.out).2.1); rintro e w22 ⟨v649, rfl, ho0, hb, hkp⟩; have n0_ := Aside0.mk (Kd.R_mono (ok' := fun k_ => some k_ ≠ (v649 : Value).ownBlock) (Kd.R_keptB (HO647.out) hkp (fun k_ hk_ hs_ => (hk_.2) hs_)) (fun k_ hk_ => fun e_ => Or.elim (ho0.1 k_ e_.symm) (fun hs_ => hk_.2.1 hs_) (fun hn_ => Nat.not_le.2 hk_.2.2 hn_))); have n1_ := Aside0.mk (Kd.R_mono (ok' := fun k_ => some k_ ≠ (.slice Ao21 y645.length co21 : Value).ownBlock) ho0 (fun k_ hk_ => Or.elim hk_ (fun hs_ => fun e_ => (((HO647.out).1 k_ e_.symm).2) hs_) (fun hn_ => (Kd.fresh' (Kd.R_lt (by (with_reducible repeat (first | apply Kd.R_alloc | apply Kd.R_drewN | apply Kd.R_drew)); exact HO647.out)) k_ hn_)))); have n2_ := Aside0.mk (hb); clear HO647; clear HB; clear HO642; have HO647 := n0_; have HO650 := n1_; have HB := n2_; clear n0_ n1_ n2_; (try clear hb); (try clear hkp); (try clear ho0))); try go_wp2_with (first | (go_at_call 98; (with_reducible refine (leaf_Leaf_find.calls _ _ l0 a1 t638 false _ ?side1 ?side2 A4.out).mono ?_); (case side1 => repeat (first | exact HR0.out | (with_reducible refine Kd.C_alloc ?_ _) | (with_reducible refine Kd.C_drewN ?_ _) | (with_reducible refine Kd.C_drew ?_))); (case side2 => exact HC0.out); rintro e w16 ⟨rfl, hb⟩; have n0_ := Aside0.mk (below_step (by repeat (first | (with_reducible first | exact HB.out | apply below_alloc | apply pw_below_drewN | apply below_drew1) | exact HB.out)) hb); clear HB; have HB := n0_; clear n0_; (try clear hb); (try clear hb2); (try clear hk); (try clear hi)) | (go_at_call 99; (with_reducible refine (leaf_Pair_99.calls _ _ l0 t640 _ ?side1 ?side2 A5.out).mono ?_); (case side1 => repeat (first | exact (Kd.C_below HR0.out HB.out) | (with_reducible refine Kd.C_alloc ?_ _) | (with_reducible refine Kd.C_drewN ?_ _) | (with_reducible refine Kd.C_drew ?_))); (case side2 => exact HC0.out); rintro e w17 ⟨v641, rfl, ho0, hb⟩; have n0_ := Aside0.mk (Kd.R_lower ho0 (below_size (by repeat (first | (with_reducible first | exact HB.out | apply below_alloc | apply pw_below_drewN | apply below_drew1) | exact HB.out)))); have n1_ := Aside0.mk (below_step (by repeat (first | (with_reducible first | exact HB.out | apply below_alloc | apply pw_below_drewN | apply below_drew1) | exact HB.out)) hb); clear HB; have HO642 := n0_; have HB := n1_; clear n0_ n1_; (try clear hb); (try clear hb2); (try clear hk); (try clear hi); (try clear ho0)) | ((with_reducible refine gate_dst (N := 37) rfl ?_); refine Kd.R_lit k40 _ 40 ?hg (N := 37) ?hd (xs := ([(⟨a1, a2⟩ : S40)] : List (S40))) (inner := [.int .i64 a1, .int .i64 a2]) (ok := fun _ => True) (okp := fun _ => True) ?hr ?hp (fun _ hk => hk) trivial (Below.refl _ _) (Nat.le_refl _) (by simp) ?_; (case hd => rfl); (case hg => rfl); (case hr => first | (go_simp; done) | (go_simp; rfl)); (case hp => exact (Reps.c2 (show Kd.M k40 _ _ _ (⟨a1, a2⟩ : S40) [.int .i64 a1, .int .i64 a2] from (k40_mkM _ _ _ (⟨a1, a2⟩ : S40) )) (Reps.none _ _))); intro v646 w18 ho19 hb hg_ hnew_; clear hg_ hnew_; (first | rw [← Ny645.out] at ho19 | (simp only [Int.reduceToNat] at ho19; rw [← Ny645.out] at ho19)); have n0_ := Aside0.mk (Kd.R_elder' (by (with_reducible repeat (first | apply Kd.R_alloc | apply Kd.R_drewN | apply Kd.R_drew)); exact HO642.out) (Kd.R_base ho19) hb); have n1_ := Aside0.mk (Kd.R_lower (Kd.R_new' ho19 (Kd.R_lt (by (with_reducible repeat (first | apply Kd.R_alloc | apply Kd.R_drewN | apply Kd.R_drew)); exact HO642.out))) (below_size (by repeat (first | (with_reducible first | exact HB.out | apply below_alloc | apply pw_below_drewN | apply below_drew1) | exact HB.out)))); have n2_ := Aside0.mk (below_step (by repeat (first | (with_reducible first | exact HB.out | apply below_alloc | apply pw_below_drewN | apply below_drew1) | exact HB.out)) hb); clear HO642; clear HB; have HO642 := n0_; have HO647 := n1_; have HB := n2_; clear n0_ n1_ n2_; clear hb ho19; obtain ⟨Ao20, co20, eo20⟩ := Kd.R_slice HO642.out; subst eo20; obtain ⟨Ao21, co21, eo21⟩ := Kd.R_slice HO647.out; subst eo21) | (go_at_call 109; (with_reducible refine (leaf_Pair_109.calls (fun k_ => some k_ = (.slice Ao20 t640.length co20 : Value).ownBlock) (.slice Ao20 t640.length co20) t640 t638 _ _ y645 t648 w _ ?side1 ?side2 ?side3 ?side4 A15.out).mono ?_); (case side1 => repeat (first | (with_reducible first | exact HB.out | apply below_alloc | apply pw_below_drewN | apply below_drew1) | exact HB.out)); (case side2 => exact Kd.R_tight rfl HO642.out); (case side3 => exact Kd.C_kept_own (HO647.out) (fun k_ hk_ hs_ => (hk_.2) hs_)); (case side4 => exact (Kd.R_reads' HO647.out).2.1); rintro e w22 ⟨v649, rfl, ho0, hb, hkp⟩; have n0_ := Aside0.mk (Kd.R_mono (ok' := fun k_ => some k_ ≠ (v649 : Value).ownBlock) (Kd.R_keptB (HO647.out) hkp (fun k_ hk_ hs_ => (hk_.2) hs_)) (fun k_ hk_ => fun e_ => Or.elim (ho0.1 k_ e_.symm) (fun hs_ => hk_.2.1 hs_) (fun hn_ => Nat.not_le.2 hk_.2.2 hn_))); have n1_ := Aside0.mk (Kd.R_mono (ok' := fun k_ => some k_ ≠ (.slice Ao21 y645.length co21 : Value).ownBlock) ho0 (fun k_ hk_ => Or.elim hk_ (fun hs_ => fun e_ => (((HO647.out).1 k_ e_.symm).2) hs_) (fun hn_ => (Kd.fresh' (Kd.R_lt (by (with_reducible repeat (first | apply Kd.R_alloc | apply Kd.R_drewN | apply Kd.R_drew)); exact HO647.out)) k_ hn_)))); have n2_ := Aside0.mk (hb); clear HO647; clear HB; clear HO642; have HO647 := n0_; have HO650 := n1_; have HB := n2_; clear n0_ n1_ n2_; (try clear hb); (try clear hkp); (try clear ho0))))
    go_ret3
    exact ⟨_, by first | rfl | (simp [errW_none, errW_some] <;> rfl) | (simp [*, errW_none, errW_some] <;> rfl), by (with_reducible repeat (first | apply Kd.R_alloc | apply Kd.R_drewN | apply Kd.R_drew)); exact Kd.R_mono HO650.out (fun _ hk => trivial), by repeat (first | (with_reducible first | exact HB.out | apply below_alloc | apply pw_below_drewN | apply below_drew1) | exact HB.out)⟩

def leaf_Pair_115.l0 : Nat → List (S40) → List (S40) → Int → Int → Option (Bool)
  | 0, _, _, _, _ => none
  | k + 1, x0, x1, x12, x13 => if x13 < x12 then (if 0 ≤ x13 then (if x13 < (x0.length : Int) then (if x13 < (x1.length : Int) then (if (!(((rd_T40 x0 x13).f0) == ((rd_T40 x1 x13).f0)) || (!(((rd_T40 x0 x13).f1) == ((rd_T40 x1 x13).f1)))) = true then (some false) else (leaf_Pair_115.l0 k x0 x1 x12 (wrap64 (x13 + 1)))) else (none)) else (none)) else (none)) else (some true)
def leaf_Pair_115.f (k : Nat) (l0 : List (S40)) (l1 : List (S40)) : Option (Bool) := if (l0.length : Int) = (l1.length : Int) then (leaf_Pair_115.l0 k l0 l1 (l0.length : Int) 0) else (some false)
set_option maxHeartbeats 8000000 in
set_option maxRecDepth 100000 in
theorem leaf_Pair_115.calls (k : Nat) (A0 : Option Addr) (c0 : Nat) (l0 : List (S40)) (A1 : Option Addr) (c1 : Nat) (l1 : List (S40)) (r : Bool) (w : World) (hr0 : Kd.C k40 w A0 l0.length l0) (hc0 : l0.length ≤ c0) (hr1 : Kd.C k40 w A1 l1.length l1) (hc1 : l1.length ≤ c1) (h : leaf_Pair_115.f k l0 l1 = some r) :
    Calls Try.prog 115 #[.slice A0 l0.length c0, .slice A1 l1.length c1] w fun e w' => e = .returned (.bool r) ∧ Drawn0 w w' := by
  have hu40 := Try.underlying40
  have HR0 := Aside0.mk hr0
  have HC0 := Aside0.mk hc0
  clear hr0 hc0
  have HR1 := Aside0.mk hr1
  have HC1 := Aside0.mk hc1
  clear hr1 hc1
  have H : (if (l0.length : Int) = (l1.length : Int) then (leaf_Pair_115.l0 k l0 l1 (l0.length : Int) 0) else (some false)) = some r := h
  clear h
  by_cases c3 : (l0.length : Int) = (l1.length : Int)
  · rw [if_pos c3] at H
    have c3b0 : ((l0.length : Int) == (l1.length : Int)) = true := beq_iff_eq.mpr c3
    have c3b1 : ((l0.length : Int) != (l1.length : Int)) = false := bne_eq_false_iff_eq.mpr c3
    have c3b2 : (l0.length == l1.length) = true := by first | simpa using c3 | (simp at c3 ⊢; omega)
    clear c3
    have H' := Aside0.mk H
    clear H
    go_enter Try.func115, Try.ntmps115
    go_wp2
    repeat (go_quiet (fail); try go_wp2)
    go_loopg [13] k (fun kq v13 w' => ∃ (x13_1 : Int), v13 = .int .i64 x13_1 ∧ Aside0 (leaf_Pair_115.l0 kq l0 l1 (l0.length : Int) x13_1 = some r) ∧ Aside0 (kq ≤ k) ∧ Drawn0 w w')
    case atStart => exact ⟨(0), (by first | rfl | (simp; done) | (simp [*]; done)), H', ⟨Nat.le_refl _⟩, by repeat (first | exact Drawn0.refl _ | apply Drawn0.step)⟩
    case round =>
      clear H'
      try clear c1
      try clear p2
      try clear c3
      try clear c3b0
      try clear c3b1
      try clear c3b2
      obtain ⟨x13_1, rfl, HA, HK1, ⟨m1, rfl⟩⟩ := hrel
      cases gk with
      | zero => exact absurd HA.out (by simp [leaf_Pair_115.l0])
      | succ k1 =>
        have H := HA.out
        clear HA
        simp only [leaf_Pair_115.l0] at H
        by_cases c4 : x13_1 < (l0.length : Int)
        · rw [if_pos c4] at H
          have c4b0 : decide (x13_1 < (l0.length : Int)) = true := decide_eq_true c4
          clear c4
          by_cases c5 : 0 ≤ x13_1
          · rw [if_pos c5] at H
            have c5b0 : decide (0 ≤ x13_1) = true := decide_eq_true c5
            clear c5
            by_cases c6 : x13_1 < (l0.length : Int)
            · rw [if_pos c6] at H
              have c6b0 : decide (x13_1 < (l0.length : Int)) = true := decide_eq_true c6
              clear c6
              by_cases c7 : x13_1 < (l1.length : Int)
              · rw [if_pos c7] at H
                have c7b0 : decide (x13_1 < (l1.length : Int)) = true := decide_eq_true c7
                clear c7
                by_cases c8 : (!(((rd_T40 l0 x13_1).f0) == ((rd_T40 l1 x13_1).f0)) || (!(((rd_T40 l0 x13_1).f1) == ((rd_T40 l1 x13_1).f1)))) = true
                · rw [if_pos c8] at H
                  have c8b0 : (!(((rd_T40 l0 x13_1).f0) == ((rd_T40 l1 x13_1).f0)) || (!(((rd_T40 l0 x13_1).f1) == ((rd_T40 l1 x13_1).f1)))) = true := c8
                  clear c8
                  obtain rfl := Option.some.inj H
                  have p1191 : 0 ≤ (x13_1 : Int) := of_decide_eq_true (by first | (with_reducible assumption) | assumption)
                  have q1191 : x13_1 < (l0.length : Int) := of_decide_eq_true (by first | (with_reducible assumption) | assumption)
                  obtain ⟨ad1191, e1191, hx1191_0, hx1191_1⟩ := at_T40 HR0.out x13_1 p1191 q1191
                  cases e1191
                  replace p1191 := eq_true p1191
                  replace q1191 := eq_true q1191
                  have p1192 : 0 ≤ (x13_1 : Int) := of_decide_eq_true (by first | (with_reducible assumption) | assumption)
                  have q1192 : x13_1 < (l1.length : Int) := of_decide_eq_true (by first | (with_reducible assumption) | assumption)
                  obtain ⟨ad1192, e1192, hx1192_0, hx1192_1⟩ := at_T40 HR1.out x13_1 p1192 q1192
                  cases e1192
                  replace p1192 := eq_true p1192
                  replace q1192 := eq_true q1192
                  go_wp2
                  repeat (go_quiet (fail); try go_wp2)
                  go_ret
                  exact ⟨by first | rfl | (simp; done) | (simp [*]; done), by repeat (first | exact Drawn0.refl _ | apply Drawn0.step)⟩
                · rw [if_neg c8] at H
                  have c8b0 : (!(((rd_T40 l0 x13_1).f0) == ((rd_T40 l1 x13_1).f0)) || (!(((rd_T40 l0 x13_1).f1) == ((rd_T40 l1 x13_1).f1)))) = false := by simpa using c8
                  clear c8
                  have H' := Aside0.mk H
                  clear H
                  have p1191 : 0 ≤ (x13_1 : Int) := of_decide_eq_true (by first | (with_reducible assumption) | assumption)
                  have q1191 : x13_1 < (l0.length : Int) := of_decide_eq_true (by first | (with_reducible assumption) | assumption)
                  obtain ⟨ad1191, e1191, hx1191_0, hx1191_1⟩ := at_T40 HR0.out x13_1 p1191 q1191
                  cases e1191
                  replace p1191 := eq_true p1191
                  replace q1191 := eq_true q1191
                  have p1192 : 0 ≤ (x13_1 : Int) := of_decide_eq_true (by first | (with_reducible assumption) | assumption)
                  have q1192 : x13_1 < (l1.length : Int) := of_decide_eq_true (by first | (with_reducible assumption) | assumption)
                  obtain ⟨ad1192, e1192, hx1192_0, hx1192_1⟩ := at_T40 HR1.out x13_1 p1192 q1192
                  cases e1192
                  replace p1192 := eq_true p1192
                  replace q1192 := eq_true q1192
                  go_wp2
                  repeat (go_quiet (fail); try go_wp2)
                  go_roundg k1
                  case measure => have := HK1.out; omega
                  case rel => exact ⟨(wrap64 (x13_1 + 1)), (by first | rfl | (simp; done) | (simp [*]; done)), H', ⟨by have := HK1.out; omega⟩, by repeat (first | exact Drawn0.refl _ | apply Drawn0.step)⟩
              · rw [if_neg c7] at H
                exact absurd H (by simp)
            · rw [if_neg c6] at H
              exact absurd H (by simp)
          · rw [if_neg c5] at H
            exact absurd H (by simp)
        · rw [if_neg c4] at H
          have c4b0 : decide (x13_1 < (l0.length : Int)) = false := decide_eq_false c4
          clear c4
          obtain rfl := Option.some.inj H
          go_wp2
          repeat (go_quiet (fail); try go_wp2)
          go_ret
          exact ⟨by first | rfl | (simp; done) | (simp [*]; done), by repeat (first | exact Drawn0.refl _ | apply Drawn0.step)⟩
  · rw [if_neg c3] at H
    have c3b0 : ((l0.length : Int) == (l1.length : Int)) = false := beq_eq_false_iff_ne.mpr c3
    have c3b1 : ((l0.length : Int) != (l1.length : Int)) = true := bne_iff_ne.mpr c3
    have c3b2 : (l0.length == l1.length) = false := by first | simpa using c3 | (simp at c3 ⊢; omega)
    obtain rfl := Option.some.inj H
    go_enter Try.func115, Try.ntmps115
    go_wp2
    repeat (go_quiet (fail); try go_wp2)
    go_ret
    exact ⟨by first | rfl | (simp; done) | (simp [*]; done), by repeat (first | exact Drawn0.refl _ | apply Drawn0.step)⟩

end Go.Proofs.Ytkoiffkonjpoiaa.Q
namespace Go.Proofs.Ytkoiffkonjpoiaa.Q
open Go.RowKit Go.Proofs.YtkoiffkonjpoiaaW.PrintWords Go.Proofs.YtkoiffkonjpoiaaW.PrintLast Go.Proofs.YtkoiffkonjpoiaaW.PrintMore Go.Proofs.YtkoiffkonjpoiaaX
attribute [local go_sem] max2_int min2_int max_two min_two max_three min_three max_four min_four   -- for this text's walks alone
set_option linter.unusedVariables false
set_option linter.unusedSimpArgs false

def model_Op_Span.j0 : Nat → Int → Bool → Int → Int → Int → Int → Option (Int × Int × Bool)
  | 0, _, _, _, _, _, _ => none
  | k + 1, x6, x15, x773000, x773001, x773002, x773003 => if x15 = true then (some ((-9223372036854775808), 9223372036854775807, true)) else (if x6 = 8 then (if x773001 = (-9223372036854775808) then (some (1, 0, true)) else (some ((-9223372036854775808), wrap64 (x773001 - 1), true))) else (if x6 = 10 then (some (x773001, x773002, true)) else (if x6 = 11 then (some (x773001, x773002, true)) else (some (0, 0, false)))))
def model_Op_Span.f (k : Nat) (a0_0 : Int) (a0_1 : Int) (a0_2 : Int) (a0_3 : Int) : Option (Int × Int × Bool) := if a0_0 = 4 then (some ((-9223372036854775808), a0_1, true)) else (if a0_0 = 5 then (some (a0_1, 9223372036854775807, true)) else (if a0_0 = 6 then (model_Op_Span.j0 k a0_0 (a0_0 == 6) a0_0 a0_1 a0_2 a0_3) else (if a0_0 = 7 then (model_Op_Span.j0 k a0_0 (a0_0 == 7) a0_0 a0_1 a0_2 a0_3) else (model_Op_Span.j0 k a0_0 (a0_0 == 9) a0_0 a0_1 a0_2 a0_3))))
set_option maxHeartbeats 8000000 in
set_option maxRecDepth 100000 in
theorem model_Op_Span.calls (k : Nat) (a0_0 : Int) (a0_1 : Int) (a0_2 : Int) (a0_3 : Int) (r1 : Int) (r2 : Int) (r3 : Bool) (w : World) (h : model_Op_Span.f k a0_0 a0_1 a0_2 a0_3 = some (r1, r2, r3)) :
    Calls Try.prog 71 #[.agg #[.int .u8 a0_0, .int .i64 a0_1, .int .i64 a0_2, .int .i64 a0_3]] w fun e w' => e = .returned (.tuple #[.int .i64 r1, .int .i64 r2, .bool r3]) ∧ Below w.heap.size w w' := by
  have hu78 := Try.underlying78
  have HB := Aside0.mk (Below.refl w.heap.size w)
  have H : (if a0_0 = 4 then (some ((-9223372036854775808), a0_1, true)) else (if a0_0 = 5 then (some (a0_1, 9223372036854775807, true)) else (if a0_0 = 6 then (model_Op_Span.j0 k a0_0 (a0_0 == 6) a0_0 a0_1 a0_2 a0_3) else (if a0_0 = 7 then (model_Op_Span.j0 k a0_0 (a0_0 == 7) a0_0 a0_1 a0_2 a0_3) else (model_Op_Span.j0 k a0_0 (a0_0 == 9) a0_0 a0_1 a0_2 a0_3))))) = some (r1, r2, r3) := h
  clear h
  by_cases c2 : a0_0 = 4
  · rw [if_pos c2] at H
    have c2b0 : (a0_0 == 4) = true := beq_iff_eq.mpr c2
    have c2b1 : (a0_0 != 4) = false := bne_eq_false_iff_eq.mpr c2
    clear c2
    simp only [Option.some.injEq, Prod.mk.injEq] at H
    obtain ⟨rfl, rfl, rfl⟩ := H
    go_enter Try.func71, Try.ntmps71
    go_wp2_with (first | ((with_reducible refine gate_dst (N := 1) rfl ?_); refine box_event ?hg (N := 1) ?hd (cs := #[.int .u8 a0_0, .int .i64 a0_1, .int .i64 a0_2, .int .i64 a0_3]) (t := 78) ?hr ?_; (case hd => rfl); (case hg => rfl); (case hr => first | (go_simp; done) | (go_simp; rfl)); intro gb772 hg w3 hbox hb; have n0_ := Aside0.mk (below_step (by repeat (first | (with_reducible first | exact HB.out | apply below_alloc | apply pw_below_drewN | apply below_drew1) | exact HB.out)) hb); have n1_ := Aside0.mk (hbox); have n2_ := Aside0.mk ((by rw [hg]; exact (below_size (by repeat (first | (with_reducible first | exact HB.out | apply below_alloc | apply pw_below_drewN | apply below_drew1) | exact HB.out))) : w.heap.size ≤ gb772)); have n3_ := Aside0.mk ((by rw [hg]; exact (below_size (by repeat (first | (with_reducible first | exact HB.out | apply below_alloc | apply pw_below_drewN | apply below_drew1) | exact HB.out))) : w.heap.size ≤ gb772)); clear HB; have HB := n0_; have BK772 := n1_; have GW772 := n2_; have GE772 := n3_; clear n0_ n1_ n2_ n3_; clear hb hbox hg; have hcz4_0 : w3.cell? ⟨gb772, 0, none⟩ = some (.int .u8 a0_0) := (blk_cell BK772.out 0).trans rfl; have hcz4_1 : w3.cell? ⟨gb772, 1, none⟩ = some (.int .i64 a0_1) := (blk_cell BK772.out 1).trans rfl; have hcz4_2 : w3.cell? ⟨gb772, 2, none⟩ = some (.int .i64 a0_2) := (blk_cell BK772.out 2).trans rfl; have hcz4_3 : w3.cell? ⟨gb772, 3, none⟩ = some (.int .i64 a0_3) := (blk_cell BK772.out 3).trans rfl; have hfz4_0 := blk_frozen BK772.out 0; have hfz4_1 := blk_frozen BK772.out 1; have hfz4_2 := blk_frozen BK772.out 2; have hfz4_3 := blk_frozen BK772.out 3))
    repeat (go_quiet (first | ((with_reducible refine gate_dst (N := 1) rfl ?_); refine box_event ?hg (N := 1) ?hd (cs := #[.int .u8 a0_0, .int .i64 a0_1, .int .i64 a0_2, .int .i64 a0_3]) (t := 78) ?hr ?_; (case hd => rfl); (case hg => rfl); (case hr => first | (go_simp; done) | (go_simp; rfl)); intro gb772 hg w3 hbox hb; have n0_ := Aside0.mk (below_step (by repeat (first | (with_reducible first | exact HB.out | apply below_alloc | apply pw_below_drewN | apply below_drew1) | exact HB.out)) hb); have n1_ := Aside0.mk (hbox); have n2_ := Aside0.mk ((by rw [hg]; exact (below_size (by repeat (first | (with_reducible first | exact HB.out | apply below_alloc | apply pw_below_drewN | apply below_drew1) | exact HB.out))) : w.heap.size ≤ gb772)); have n3_ := Aside0.mk ((by rw [hg]; exact (below_size (by repeat (first | (with_reducible first | exact HB.out | apply below_alloc | apply pw_below_drewN | apply below_drew1) | exact HB.out))) : w.heap.size ≤ gb772)); clear HB; have HB := n0_; have BK772 := n1_; have GW772 := n2_; have GE772 := n3_; clear n0_ n1_ n2_ n3_; clear hb hbox hg; have hcz4_0 : w3.cell? ⟨gb772, 0, none⟩ = some (.int .u8 a0_0) := (blk_cell BK772.out 0).trans rfl; have hcz4_1 : w3.cell? ⟨gb772, 1, none⟩ = some (.int .i64 a0_1) := (blk_cell BK772.out 1).trans rfl; have hcz4_2 : w3.cell? ⟨gb772, 2, none⟩ = some (.int .i64 a0_2) := (blk_cell BK772.out 2).trans rfl; have hcz4_3 : w3.cell? ⟨gb772, 3, none⟩ = some (.int .i64 a0_3) := (blk_cell BK772.out 3).trans rfl; have hfz4_0 := blk_frozen BK772.out 0; have hfz4_1 := blk_frozen BK772.out 1; have hfz4_2 := blk_frozen BK772.out 2; have hfz4_3 := blk_frozen BK772.out 3)); try go_wp2_with (first | ((with_reducible refine gate_dst (N := 1) rfl ?_); refine box_event ?hg (N := 1) ?hd (cs := #[.int .u8 a0_0, .int .i64 a0_1, .int .i64 a0_2, .int .i64 a0_3]) (t := 78) ?hr ?_; (case hd => rfl); (case hg => rfl); (case hr => first | (go_simp; done) | (go_simp; rfl)); intro gb772 hg w3 hbox hb; have n0_ := Aside0.mk (below_step (by repeat (first | (with_reducible first | exact HB.out | apply below_alloc | apply pw_below_drewN | apply below_drew1) | exact HB.out)) hb); have n1_ := Aside0.mk (hbox); have n2_ := Aside0.mk ((by rw [hg]; exact (below_size (by repeat (first | (with_reducible first | exact HB.out | apply below_alloc | apply pw_below_drewN | apply below_drew1) | exact HB.out))) : w.heap.size ≤ gb772)); have n3_ := Aside0.mk ((by rw [hg]; exact (below_size (by repeat (first | (with_reducible first | exact HB.out | apply below_alloc | apply pw_below_drewN | apply below_drew1) | exact HB.out))) : w.heap.size ≤ gb772)); clear HB; have HB := n0_; have BK772 := n1_; have GW772 := n2_; have GE772 := n3_; clear n0_ n1_ n2_ n3_; clear hb hbox hg; have hcz4_0 : w3.cell? ⟨gb772, 0, none⟩ = some (.int .u8 a0_0) := (blk_cell BK772.out 0).trans rfl; have hcz4_1 : w3.cell? ⟨gb772, 1, none⟩ = some (.int .i64 a0_1) := (blk_cell BK772.out 1).trans rfl; have hcz4_2 : w3.cell? ⟨gb772, 2, none⟩ = some (.int .i64 a0_2) := (blk_cell BK772.out 2).trans rfl; have hcz4_3 : w3.cell? ⟨gb772, 3, none⟩ = some (.int .i64 a0_3) := (blk_cell BK772.out 3).trans rfl; have hfz4_0 := blk_frozen BK772.out 0; have hfz4_1 := blk_frozen BK772.out 1; have hfz4_2 := blk_frozen BK772.out 2; have hfz4_3 := blk_frozen BK772.out 3)))
    go_ret3
    exact ⟨by first | rfl | (simp [errW_none, errW_some] <;> rfl) | (simp [*, errW_none, errW_some] <;> rfl), by repeat (first | (with_reducible first | exact HB.out | apply below_alloc | apply pw_below_drewN | apply below_drew1 | refine below_set ?_ GE772.out) | exact HB.out)⟩
  · rw [if_neg c2] at H
    have c2b0 : (a0_0 == 4) = false := beq_eq_false_iff_ne.mpr c2
    have c2b1 : (a0_0 != 4) = true := bne_iff_ne.mpr c2
    by_cases c5 : a0_0 = 5
    · rw [if_pos c5] at H
      have c5b0 : (a0_0 == 5) = true := beq_iff_eq.mpr c5
      have c5b1 : (a0_0 != 5) = false := bne_eq_false_iff_eq.mpr c5
      clear c5
      simp only [Option.some.injEq, Prod.mk.injEq] at H
      obtain ⟨rfl, rfl, rfl⟩ := H
      go_enter Try.func71, Try.ntmps71
      go_wp2_with (first | ((with_reducible refine gate_dst (N := 1) rfl ?_); refine box_event ?hg (N := 1) ?hd (cs := #[.int .u8 a0_0, .int .i64 a0_1, .int .i64 a0_2, .int .i64 a0_3]) (t := 78) ?hr ?_; (case hd => rfl); (case hg => rfl); (case hr => first | (go_simp; done) | (go_simp; rfl)); intro gb772 hg w6 hbox hb; have n0_ := Aside0.mk (below_step (by repeat (first | (with_reducible first | exact HB.out | apply below_alloc | apply pw_below_drewN | apply below_drew1) | exact HB.out)) hb); have n1_ := Aside0.mk (hbox); have n2_ := Aside0.mk ((by rw [hg]; exact (below_size (by repeat (first | (with_reducible first | exact HB.out | apply below_alloc | apply pw_below_drewN | apply below_drew1) | exact HB.out))) : w.heap.size ≤ gb772)); have n3_ := Aside0.mk ((by rw [hg]; exact (below_size (by repeat (first | (with_reducible first | exact HB.out | apply below_alloc | apply pw_below_drewN | apply below_drew1) | exact HB.out))) : w.heap.size ≤ gb772)); clear HB; have HB := n0_; have BK772 := n1_; have GW772 := n2_; have GE772 := n3_; clear n0_ n1_ n2_ n3_; clear hb hbox hg; have hcz7_0 : w6.cell? ⟨gb772, 0, none⟩ = some (.int .u8 a0_0) := (blk_cell BK772.out 0).trans rfl; have hcz7_1 : w6.cell? ⟨gb772, 1, none⟩ = some (.int .i64 a0_1) := (blk_cell BK772.out 1).trans rfl; have hcz7_2 : w6.cell? ⟨gb772, 2, none⟩ = some (.int .i64 a0_2) := (blk_cell BK772.out 2).trans rfl; have hcz7_3 : w6.cell? ⟨gb772, 3, none⟩ = some (.int .i64 a0_3) := (blk_cell BK772.out 3).trans rfl; have hfz7_0 := blk_frozen BK772.out 0; have hfz7_1 := blk_frozen BK772.out 1; have hfz7_2 := blk_frozen BK772.out 2; have hfz7_3 := blk_frozen BK772.out 3))
      repeat (go_quiet (first | ((with_reducible refine gate_dst (N := 1) rfl ?_); refine box_event ?hg (N := 1) ?hd (cs := #[.int .u8 a0_0, .int .i64 a0_1, .int .i64 a0_2, .int .i64 a0_3]) (t := 78) ?hr ?_; (case hd => rfl); (case hg => rfl); (case hr => first | (go_simp; done) | (go_simp; rfl)); intro gb772 hg w6 hbox hb; have n0_ := Aside0.mk (below_step (by repeat (first | (with_reducible first | exact HB.out | apply below_alloc | apply pw_below_drewN | apply below_drew1) | exact HB.out)) hb); have n1_ := Aside0.mk (hbox); have n2_ := Aside0.mk ((by rw [hg]; exact (below_size (by repeat (first | (with_reducible first | exact HB.out | apply below_alloc | apply pw_below_drewN | apply below_drew1) | exact HB.out))) : w.heap.size ≤ gb772)); have n3_ := Aside0.mk ((by rw [hg]; exact (below_size (by repeat (first | (with_reducible first | exact HB.out | apply below_alloc | apply pw_below_drewN | apply below_drew1) | exact HB.out))) : w.heap.size ≤ gb772)); clear HB; have HB := n0_; have BK772 := n1_; have GW772 := n2_; have GE772 := n3_; clear n0_ n1_ n2_ n3_; clear hb hbox hg; have hcz7_0 : w6.cell? ⟨gb772, 0, none⟩ = some (.int .u8 a0_0) := (blk_cell BK772.out 0).trans rfl; have hcz7_1 : w6.cell? ⟨gb772, 1, none⟩ = some (.int .i64 a0_1) := (blk_cell BK772.out 1).trans rfl; have hcz7_2 : w6.cell? ⟨gb772, 2, none⟩ = some (.int .i64 a0_2) := (blk_cell BK772.out 2).trans rfl; have hcz7_3 : w6.cell? ⟨gb772, 3, none⟩ = some (.int .i64 a0_3) := (blk_cell BK772.out 3).trans rfl; have hfz7_0 := blk_frozen BK772.out 0; have hfz7_1 := blk_frozen BK772.out 1; have hfz7_2 := blk_frozen BK772.out 2; have hfz7_3 := blk_frozen BK772.out 3)); try go_wp2_with (first | ((with_reducible refine gate_dst (N := 1) rfl ?_); refine box_event ?hg (N := 1) ?hd (cs := #[.int .u8 a0_0, .int .i64 a0_1, .int .i64 a0_2, .int .i64 a0_3]) (t := 78) ?hr ?_; (case hd => rfl); (case hg => rfl); (case hr => first | (go_simp; done) | (go_simp; rfl)); intro gb772 hg w6 hbox hb; have n0_ := Aside0.mk (below_step (by repeat (first | (with_reducible first | exact HB.out | apply below_alloc | apply pw_below_drewN | apply below_drew1) | exact HB.out)) hb); have n1_ := Aside0.mk (hbox); have n2_ := Aside0.mk ((by rw [hg]; exact (below_size (by repeat (first | (with_reducible first | exact HB.out | apply below_alloc | apply pw_below_drewN | apply below_drew1) | exact HB.out))) : w.heap.size ≤ gb772)); have n3_ := Aside0.mk ((by rw [hg]; exact (below_size (by repeat (first | (with_reducible first | exact HB.out | apply below_alloc | apply pw_below_drewN | apply below_drew1) | exact HB.out))) : w.heap.size ≤ gb772)); clear HB; have HB := n0_; have BK772 := n1_; have GW772 := n2_; have GE772 := n3_; clear n0_ n1_ n2_ n3_; clear hb hbox hg; have hcz7_0 : w6.cell? ⟨gb772, 0, none⟩ = some (.int .u8 a0_0) := (blk_cell BK772.out 0).trans rfl; have hcz7_1 : w6.cell? ⟨gb772, 1, none⟩ = some (.int .i64 a0_1) := (blk_cell BK772.out 1).trans rfl; have hcz7_2 : w6.cell? ⟨gb772, 2, none⟩ = some (.int .i64 a0_2) := (blk_cell BK772.out 2).trans rfl; have hcz7_3 : w6.cell? ⟨gb772, 3, none⟩ = some (.int .i64 a0_3) := (blk_cell BK772.out 3).trans rfl; have hfz7_0 := blk_frozen BK772.out 0; have hfz7_1 := blk_frozen BK772.out 1; have hfz7_2 := blk_frozen BK772.out 2; have hfz7_3 := blk_frozen BK772.out 3)))
      go_ret3
      exact ⟨by first | rfl | (simp [errW_none, errW_some] <;> rfl) | (simp [*, errW_none, errW_some] <;> rfl), by repeat (first | (with_reducible first | exact HB.out | apply below_alloc | apply pw_below_drewN | apply below_drew1 | refine below_set ?_ GE772.out) | exact HB.out)⟩
    · rw [if_neg c5] at H
      have c5b0 : (a0_0 == 5) = false := beq_eq_false_iff_ne.mpr c5
      have c5b1 : (a0_0 != 5) = true := bne_iff_ne.mpr c5
      have HC8 := Aside0.mk H
      clear H
      go_enter Try.func71, Try.ntmps71
      go_upto_if 15 with (first | ((with_reducible refine gate_dst (N := 1) rfl ?_); refine box_event ?hg (N := 1) ?hd (cs := #[.int .u8 a0_0, .int .i64 a0_1, .int .i64 a0_2, .int .i64 a0_3]) (t := 78) ?hr ?_; (case hd => rfl); (case hg => rfl); (case hr => first | (go_simp; done) | (go_simp; rfl)); intro gb772 hg w9 hbox hb; have n0_ := Aside0.mk (below_step (by repeat (first | (with_reducible first | exact HB.out | apply below_alloc | apply pw_below_drewN | apply below_drew1) | exact HB.out)) hb); have n1_ := Aside0.mk (hbox); have n2_ := Aside0.mk ((by rw [hg]; exact (below_size (by repeat (first | (with_reducible first | exact HB.out | apply below_alloc | apply pw_below_drewN | apply below_drew1) | exact HB.out))) : w.heap.size ≤ gb772)); have n3_ := Aside0.mk ((by rw [hg]; exact (below_size (by repeat (first | (with_reducible first | exact HB.out | apply below_alloc | apply pw_below_drewN | apply below_drew1) | exact HB.out))) : w.heap.size ≤ gb772)); clear HB; have HB := n0_; have BK772 := n1_; have GW772 := n2_; have GE772 := n3_; clear n0_ n1_ n2_ n3_; clear hb hbox hg; have hcz10_0 : w9.cell? ⟨gb772, 0, none⟩ = some (.int .u8 a0_0) := (blk_cell BK772.out 0).trans rfl; have hcz10_1 : w9.cell? ⟨gb772, 1, none⟩ = some (.int .i64 a0_1) := (blk_cell BK772.out 1).trans rfl; have hcz10_2 : w9.cell? ⟨gb772, 2, none⟩ = some (.int .i64 a0_2) := (blk_cell BK772.out 2).trans rfl; have hcz10_3 : w9.cell? ⟨gb772, 3, none⟩ = some (.int .i64 a0_3) := (blk_cell BK772.out 3).trans rfl; have hfz10_0 := blk_frozen BK772.out 0; have hfz10_1 := blk_frozen BK772.out 1; have hfz10_2 := blk_frozen BK772.out 2; have hfz10_3 := blk_frozen BK772.out 3))
      repeat (go_quiet (first | ((with_reducible refine gate_dst (N := 1) rfl ?_); refine box_event ?hg (N := 1) ?hd (cs := #[.int .u8 a0_0, .int .i64 a0_1, .int .i64 a0_2, .int .i64 a0_3]) (t := 78) ?hr ?_; (case hd => rfl); (case hg => rfl); (case hr => first | (go_simp; done) | (go_simp; rfl)); intro gb772 hg w9 hbox hb; have n0_ := Aside0.mk (below_step (by repeat (first | (with_reducible first | exact HB.out | apply below_alloc | apply pw_below_drewN | apply below_drew1) | exact HB.out)) hb); have n1_ := Aside0.mk (hbox); have n2_ := Aside0.mk ((by rw [hg]; exact (below_size (by repeat (first | (with_reducible first | exact HB.out | apply below_alloc | apply pw_below_drewN | apply below_drew1) | exact HB.out))) : w.heap.size ≤ gb772)); have n3_ := Aside0.mk ((by rw [hg]; exact (below_size (by repeat (first | (with_reducible first | exact HB.out | apply below_alloc | apply pw_below_drewN | apply below_drew1) | exact HB.out))) : w.heap.size ≤ gb772)); clear HB; have HB := n0_; have BK772 := n1_; have GW772 := n2_; have GE772 := n3_; clear n0_ n1_ n2_ n3_; clear hb hbox hg; have hcz10_0 : w9.cell? ⟨gb772, 0, none⟩ = some (.int .u8 a0_0) := (blk_cell BK772.out 0).trans rfl; have hcz10_1 : w9.cell? ⟨gb772, 1, none⟩ = some (.int .i64 a0_1) := (blk_cell BK772.out 1).trans rfl; have hcz10_2 : w9.cell? ⟨gb772, 2, none⟩ = some (.int .i64 a0_2) := (blk_cell BK772.out 2).trans rfl; have hcz10_3 : w9.cell? ⟨gb772, 3, none⟩ = some (.int .i64 a0_3) := (blk_cell BK772.out 3).trans rfl; have hfz10_0 := blk_frozen BK772.out 0; have hfz10_1 := blk_frozen BK772.out 1; have hfz10_2 := blk_frozen BK772.out 2; have hfz10_3 := blk_frozen BK772.out 3)); go_upto_if 15 with (first | ((with_reducible refine gate_dst (N := 1) rfl ?_); refine box_event ?hg (N := 1) ?hd (cs := #[.int .u8 a0_0, .int .i64 a0_1, .int .i64 a0_2, .int .i64 a0_3]) (t := 78) ?hr ?_; (case hd => rfl); (case hg => rfl); (case hr => first | (go_simp; done) | (go_simp; rfl)); intro gb772 hg w9 hbox hb; have n0_ := Aside0.mk (below_step (by repeat (first | (with_reducible first | exact HB.out | apply below_alloc | apply pw_below_drewN | apply below_drew1) | exact HB.out)) hb); have n1_ := Aside0.mk (hbox); have n2_ := Aside0.mk ((by rw [hg]; exact (below_size (by repeat (first | (with_reducible first | exact HB.out | apply below_alloc | apply pw_below_drewN | apply below_drew1) | exact HB.out))) : w.heap.size ≤ gb772)); have n3_ := Aside0.mk ((by rw [hg]; exact (below_size (by repeat (first | (with_reducible first | exact HB.out | apply below_alloc | apply pw_below_drewN | apply below_drew1) | exact HB.out))) : w.heap.size ≤ gb772)); clear HB; have HB := n0_; have BK772 := n1_; have GW772 := n2_; have GE772 := n3_; clear n0_ n1_ n2_ n3_; clear hb hbox hg; have hcz10_0 : w9.cell? ⟨gb772, 0, none⟩ = some (.int .u8 a0_0) := (blk_cell BK772.out 0).trans rfl; have hcz10_1 : w9.cell? ⟨gb772, 1, none⟩ = some (.int .i64 a0_1) := (blk_cell BK772.out 1).trans rfl; have hcz10_2 : w9.cell? ⟨gb772, 2, none⟩ = some (.int .i64 a0_2) := (blk_cell BK772.out 2).trans rfl; have hcz10_3 : w9.cell? ⟨gb772, 3, none⟩ = some (.int .i64 a0_3) := (blk_cell BK772.out 3).trans rfl; have hfz10_0 := blk_frozen BK772.out 0; have hfz10_1 := blk_frozen BK772.out 1; have hfz10_2 := blk_frozen BK772.out 2; have hfz10_3 := blk_frozen BK772.out 3)))
      (try simp only [Act.put, List.setIfInBounds_toArray, List.set_cons_zero, List.set_cons_succ])
      go_cut [15] (fun v15 wc => ∃ (kq : Nat) (x15_7 : Bool), v15 = .bool x15_7 ∧ Aside0 (model_Op_Span.j0 kq a0_0 x15_7 a0_0 a0_1 a0_2 a0_3 = some (r1, r2, r3)) ∧ Aside0 (kq ≤ k) ∧ Aside0 (wc.heap[gb772]? = some (.cells #[.int .u8 a0_0, .int .i64 a0_1, .int .i64 a0_2, .int .i64 a0_3] 78 (0, 0))) ∧ Aside0 (Below w.heap.size w wc))
      case first =>
        have H := HC8.out
        clear HC8
        by_cases c11 : a0_0 = 6
        · rw [if_pos c11] at H
          have c11b0 : (a0_0 == 6) = true := beq_iff_eq.mpr c11
          have c11b1 : (a0_0 != 6) = false := bne_eq_false_iff_eq.mpr c11
          clear c11
          (first | rw [c11b0] | (simp only [i64_w, i32_w]; rw [c11b0]) | skip)
          have H' := Aside0.mk H
          clear H
          go_wp2
          repeat (go_quiet (fail); try go_wp2)
          go_meet
          case rel => exact ⟨_, ((a0_0 == 6)), (by first | rfl | (simp; done) | (simp [*]; done)), H', ⟨by first | omega | exact Nat.le_refl _⟩, ⟨by (with_reducible repeat (first | refine blk_drewN ?_ _ | refine blk_drew ?_ | refine blk_alloc ?_ _)); exact BK772.out⟩, ⟨by repeat (first | (with_reducible first | exact HB.out | apply below_alloc | apply pw_below_drewN | apply below_drew1 | refine below_set ?_ GE772.out) | exact HB.out)⟩⟩
        · rw [if_neg c11] at H
          have c11b0 : (a0_0 == 6) = false := beq_eq_false_iff_ne.mpr c11
          have c11b1 : (a0_0 != 6) = true := bne_iff_ne.mpr c11
          (first | rw [c11b0] | (simp only [i64_w, i32_w]; rw [c11b0]) | skip)
          by_cases c12 : a0_0 = 7
          · rw [if_pos c12] at H
            have c12b0 : (a0_0 == 7) = true := beq_iff_eq.mpr c12
            have c12b1 : (a0_0 != 7) = false := bne_eq_false_iff_eq.mpr c12
            clear c12
            have H' := Aside0.mk H
            clear H
            go_wp2
            repeat (go_quiet (fail); try go_wp2)
            go_meet
            case rel => exact ⟨_, ((a0_0 == 7)), (by first | rfl | (simp; done) | (simp [*]; done)), H', ⟨by first | omega | exact Nat.le_refl _⟩, ⟨by (with_reducible repeat (first | refine blk_drewN ?_ _ | refine blk_drew ?_ | refine blk_alloc ?_ _)); exact BK772.out⟩, ⟨by repeat (first | (with_reducible first | exact HB.out | apply below_alloc | apply pw_below_drewN | apply below_drew1 | refine below_set ?_ GE772.out) | exact HB.out)⟩⟩
          · rw [if_neg c12] at H
            have c12b0 : (a0_0 == 7) = false := beq_eq_false_iff_ne.mpr c12
            have c12b1 : (a0_0 != 7) = true := bne_iff_ne.mpr c12
            have H' := Aside0.mk H
            clear H
            go_wp2
            repeat (go_quiet (fail); try go_wp2)
            go_meet
            case rel => exact ⟨_, ((a0_0 == 9)), (by first | rfl | (simp; done) | (simp [*]; done)), H', ⟨by first | omega | exact Nat.le_refl _⟩, ⟨by (with_reducible repeat (first | refine blk_drewN ?_ _ | refine blk_drew ?_ | refine blk_alloc ?_ _)); exact BK772.out⟩, ⟨by repeat (first | (with_reducible first | exact HB.out | apply below_alloc | apply pw_below_drewN | apply below_drew1 | refine below_set ?_ GE772.out) | exact HB.out)⟩⟩
      case rest =>
        clear HC8
        try clear c1
        try clear c2
        try clear c2b0
        try clear c2b1
        try clear p2
        try clear c5
        try clear c5b0
        try clear c5b1
        try clear c7
        try clear c11
        try clear c11b0
        try clear c11b1
        try clear c12
        try clear c12b0
        try clear c12b1
        try clear hcz10_0
        try clear hcz10_1
        try clear hcz10_2
        try clear hcz10_3
        try clear hcz4_0
        try clear hcz4_1
        try clear hcz4_2
        try clear hcz4_3
        try clear hcz7_0
        try clear hcz7_1
        try clear hcz7_2
        try clear hcz7_3
        try clear hfz10_0
        try clear hfz10_1
        try clear hfz10_2
        try clear hfz10_3
        try clear hfz4_0
        try clear hfz4_1
        try clear hfz4_2
        try clear hfz4_3
        try clear hfz7_0
        try clear hfz7_1
        try clear hfz7_2
        try clear hfz7_3
        obtain ⟨kq, x15_7, rfl, HA, HJ7, BK772, HB⟩ := hcut
        cases kq with
        | zero => exact absurd HA.out (by simp [model_Op_Span.j0])
        | succ kj7 =>
          have H := HA.out
          clear HA
          simp only [model_Op_Span.j0] at H
          by_cases c13 : x15_7 = true
          · subst c13
            have H1 : (some ((-9223372036854775808), 9223372036854775807, true)) = some (r1, r2, r3) := by rw [if_pos rfl] at H; exact H
            clear H
            have H := H1
            clear H1
            simp only [Option.some.injEq, Prod.mk.injEq] at H
            obtain ⟨rfl, rfl, rfl⟩ := H
            go_wp2
            repeat (go_quiet (fail); try go_wp2)
            go_ret3
            exact ⟨by first | rfl | (simp [errW_none, errW_some] <;> rfl) | (simp [*, errW_none, errW_some] <;> rfl), by repeat (first | (with_reducible first | exact HB.out | apply below_alloc | apply pw_below_drewN | apply below_drew1 | refine below_set ?_ GE772.out) | exact HB.out)⟩
          · replace c13 := Bool.eq_false_iff.mpr c13
            subst c13
            have H1 : (if a0_0 = 8 then (if a0_1 = (-9223372036854775808) then (some (1, 0, true)) else (some ((-9223372036854775808), wrap64 (a0_1 - 1), true))) else (if a0_0 = 10 then (some (a0_1, a0_2, true)) else (if a0_0 = 11 then (some (a0_1, a0_2, true)) else (some (0, 0, false))))) = some (r1, r2, r3) := by rw [if_neg (show ¬ (false = true) by decide)] at H; exact H
            clear H
            have H := H1
            clear H1
            by_cases c14 : a0_0 = 8
            · rw [if_pos c14] at H
              have c14b0 : (a0_0 == 8) = true := beq_iff_eq.mpr c14
              have c14b1 : (a0_0 != 8) = false := bne_eq_false_iff_eq.mpr c14
              clear c14
              by_cases c15 : a0_1 = (-9223372036854775808)
              · rw [if_pos c15] at H
                have c15b0 : (a0_1 == (-9223372036854775808)) = true := beq_iff_eq.mpr c15
                have c15b1 : (a0_1 != (-9223372036854775808)) = false := bne_eq_false_iff_eq.mpr c15
                clear c15
                simp only [Option.some.injEq, Prod.mk.injEq] at H
                obtain ⟨rfl, rfl, rfl⟩ := H
                have hcz16_0 : wc.cell? ⟨gb772, 0, none⟩ = some (.int .u8 a0_0) := (blk_cell BK772.out 0).trans rfl
                have hcz16_1 : wc.cell? ⟨gb772, 1, none⟩ = some (.int .i64 a0_1) := (blk_cell BK772.out 1).trans rfl
                have hcz16_2 : wc.cell? ⟨gb772, 2, none⟩ = some (.int .i64 a0_2) := (blk_cell BK772.out 2).trans rfl
                have hcz16_3 : wc.cell? ⟨gb772, 3, none⟩ = some (.int .i64 a0_3) := (blk_cell BK772.out 3).trans rfl
                have hfz16_0 := blk_frozen BK772.out 0
                have hfz16_1 := blk_frozen BK772.out 1
                have hfz16_2 := blk_frozen BK772.out 2
                have hfz16_3 := blk_frozen BK772.out 3
                go_wp2
                repeat (go_quiet (fail); try go_wp2)
                go_ret3
                exact ⟨by first | rfl | (simp [errW_none, errW_some] <;> rfl) | (simp [*, errW_none, errW_some] <;> rfl), by repeat (first | (with_reducible first | exact HB.out | apply below_alloc | apply pw_below_drewN | apply below_drew1 | refine below_set ?_ GE772.out) | exact HB.out)⟩
              · rw [if_neg c15] at H
                have c15b0 : (a0_1 == (-9223372036854775808)) = false := beq_eq_false_iff_ne.mpr c15
                have c15b1 : (a0_1 != (-9223372036854775808)) = true := bne_iff_ne.mpr c15
                simp only [Option.some.injEq, Prod.mk.injEq] at H
                obtain ⟨rfl, rfl, rfl⟩ := H
                have hcz17_0 : wc.cell? ⟨gb772, 0, none⟩ = some (.int .u8 a0_0) := (blk_cell BK772.out 0).trans rfl
                have hcz17_1 : wc.cell? ⟨gb772, 1, none⟩ = some (.int .i64 a0_1) := (blk_cell BK772.out 1).trans rfl
                have hcz17_2 : wc.cell? ⟨gb772, 2, none⟩ = some (.int .i64 a0_2) := (blk_cell BK772.out 2).trans rfl
                have hcz17_3 : wc.cell? ⟨gb772, 3, none⟩ = some (.int .i64 a0_3) := (blk_cell BK772.out 3).trans rfl
                have hfz17_0 := blk_frozen BK772.out 0
                have hfz17_1 := blk_frozen BK772.out 1
                have hfz17_2 := blk_frozen BK772.out 2
                have hfz17_3 := blk_frozen BK772.out 3
                go_wp2
                repeat (go_quiet (fail); try go_wp2)
                go_ret3
                exact ⟨by first | rfl | (simp [errW_none, errW_some] <;> rfl) | (simp [*, errW_none, errW_some] <;> rfl), by repeat (first | (with_reducible first | exact HB.out | apply below_alloc | apply pw_below_drewN | apply below_drew1 | refine below_set ?_ GE772.out) | exact HB.out)⟩
            · rw [if_neg c14] at H
              have c14b0 : (a0_0 == 8) = false := beq_eq_false_iff_ne.mpr c14
              have c14b1 : (a0_0 != 8) = true := bne_iff_ne.mpr c14
              by_cases c18 : a0_0 = 10
              · rw [if_pos c18] at H
                have c18b0 : (a0_0 == 10) = true := beq_iff_eq.mpr c18
                have c18b1 : (a0_0 != 10) = false := bne_eq_false_iff_eq.mpr c18
                clear c18
                simp only [Option.some.injEq, Prod.mk.injEq] at H
                obtain ⟨rfl, rfl, rfl⟩ := H
                have hcz19_0 : wc.cell? ⟨gb772, 0, none⟩ = some (.int .u8 a0_0) := (blk_cell BK772.out 0).trans rfl
                have hcz19_1 : wc.cell? ⟨gb772, 1, none⟩ = some (.int .i64 a0_1) := (blk_cell BK772.out 1).trans rfl
                have hcz19_2 : wc.cell? ⟨gb772, 2, none⟩ = some (.int .i64 a0_2) := (blk_cell BK772.out 2).trans rfl
                have hcz19_3 : wc.cell? ⟨gb772, 3, none⟩ = some (.int .i64 a0_3) := (blk_cell BK772.out 3).trans rfl
                have hfz19_0 := blk_frozen BK772.out 0
                have hfz19_1 := blk_frozen BK772.out 1
                have hfz19_2 := blk_frozen BK772.out 2
                have hfz19_3 := blk_frozen BK772.out 3
                go_wp2
                repeat (go_quiet (fail); try go_wp2)
                go_ret3
                exact ⟨by first | rfl | (simp [errW_none, errW_some] <;> rfl) | (simp [*, errW_none, errW_some] <;> rfl), by repeat (first | (with_reducible first | exact HB.out | apply below_alloc | apply pw_below_drewN | apply below_drew1 | refine below_set ?_ GE772.out) | exact HB.out)⟩
              · rw [if_neg c18] at H
                have c18b0 : (a0_0 == 10) = false := beq_eq_false_iff_ne.mpr c18
                have c18b1 : (a0_0 != 10) = true := bne_iff_ne.mpr c18
                by_cases c20 : a0_0 = 11
                · rw [if_pos c20] at H
                  have c20b0 : (a0_0 == 11) = true := beq_iff_eq.mpr c20
                  have c20b1 : (a0_0 != 11) = false := bne_eq_false_iff_eq.mpr c20
                  clear c20
                  simp only [Option.some.injEq, Prod.mk.injEq] at H
                  obtain ⟨rfl, rfl, rfl⟩ := H
                  have hcz21_0 : wc.cell? ⟨gb772, 0, none⟩ = some (.int .u8 a0_0) := (blk_cell BK772.out 0).trans rfl
                  have hcz21_1 : wc.cell? ⟨gb772, 1, none⟩ = some (.int .i64 a0_1) := (blk_cell BK772.out 1).trans rfl
                  have hcz21_2 : wc.cell? ⟨gb772, 2, none⟩ = some (.int .i64 a0_2) := (blk_cell BK772.out 2).trans rfl
                  have hcz21_3 : wc.cell? ⟨gb772, 3, none⟩ = some (.int .i64 a0_3) := (blk_cell BK772.out 3).trans rfl
                  have hfz21_0 := blk_frozen BK772.out 0
                  have hfz21_1 := blk_frozen BK772.out 1
                  have hfz21_2 := blk_frozen BK772.out 2
                  have hfz21_3 := blk_frozen BK772.out 3
                  go_wp2
                  repeat (go_quiet (fail); try go_wp2)
                  go_ret3
                  exact ⟨by first | rfl | (simp [errW_none, errW_some] <;> rfl) | (simp [*, errW_none, errW_some] <;> rfl), by repeat (first | (with_reducible first | exact HB.out | apply below_alloc | apply pw_below_drewN | apply below_drew1 | refine below_set ?_ GE772.out) | exact HB.out)⟩
                · rw [if_neg c20] at H
                  have c20b0 : (a0_0 == 11) = false := beq_eq_false_iff_ne.mpr c20
                  have c20b1 : (a0_0 != 11) = true := bne_iff_ne.mpr c20
                  simp only [Option.some.injEq, Prod.mk.injEq] at H
                  obtain ⟨rfl, rfl, rfl⟩ := H
                  go_wp2
                  repeat (go_quiet (fail); try go_wp2)
                  go_ret3
                  exact ⟨by first | rfl | (simp [errW_none, errW_some] <;> rfl) | (simp [*, errW_none, errW_some] <;> rfl), by repeat (first | (with_reducible first | exact HB.out | apply below_alloc | apply pw_below_drewN | apply below_drew1 | refine below_set ?_ GE772.out) | exact HB.out)⟩

end Go.Proofs.Ytkoiffkonjpoiaa.Q
namespace Go.Proofs.Ytkoiffkonjpoiaa.Q
open Go.RowKit Go.Proofs.YtkoiffkonjpoiaaW.PrintWords Go.Proofs.YtkoiffkonjpoiaaW.PrintLast Go.Proofs.YtkoiffkonjpoiaaW.PrintMore Go.Proofs.YtkoiffkonjpoiaaX
attribute [local go_sem] max2_int min2_int max_two min_two max_three min_three max_four min_four   -- for this text's walks alone
set_option linter.unusedVariables false
set_option linter.unusedSimpArgs false

set_option maxHeartbeats 2000000 in
set_option maxRecDepth 100000 in
theorem one_none (gl : Nat) (A1 : Option Addr) (c1 : Nat) (l1 : List S40) (i : Int) (w : World) (hb : w.heap[gl]? = some (.cells #[.slice A1 l1.length c1] 34 (0, 0))) (hi : i < 0 ∨ (l1.length : Int) ≤ i) :
    Calls Try.prog 110 #[.int .i64 i, .pointer (some ⟨gl, 0, none⟩)] w fun e w' => e = .returned (.agg #[.int .i64 0, .bool false, .int .i64 0, .int .i64 0, .slice none 0 0, .bool false]) ∧ Below w.heap.size w w' := by
  have hu84 := Try.underlying84
  have hcell : w.cell? ⟨gl, 0, none⟩ = some (.slice A1 l1.length c1) := by simp [World.cell?, hb]
  have hlt : gl < w.heap.size := (Array.getElem?_eq_some_iff.1 hb).1
  have hcell' : ∀ o, (w.alloc o).cell? ⟨gl, 0, none⟩ = some (.slice A1 l1.length c1) := fun o => by rw [World.cell?_alloc_past _ _ _ hlt]; exact hcell
  clear hb
  by_cases h1 : i < 0
  · have hd : decide (i < 0) = true := decide_eq_true h1
    go_enter Try.func110, Try.ntmps110
    go_wp2
    exact bodyPost_ret (v := .agg #[.int .i64 0, .bool false, .int .i64 0, .int .i64 0, .slice none 0 0, .bool false]) (by simp [results, Try.results110, go_sem]) rfl ⟨rfl, (Below.refl _ _).alloc (Nat.le_refl _) _⟩
  · have hd : decide (i < 0) = false := decide_eq_false h1
    have h2 : (l1.length : Int) ≤ i := by omega
    have hd2 : decide ((l1.length : Int) ≤ i) = true := decide_eq_true h2
    clear hi
    go_enter Try.func110, Try.ntmps110
    go_wp2
    exact bodyPost_ret (v := .agg #[.int .i64 0, .bool false, .int .i64 0, .int .i64 0, .slice none 0 0, .bool false]) (by simp [results, Try.results110, go_sem]) rfl ⟨rfl, (Below.refl _ _).alloc (Nat.le_refl _) _⟩
set_option maxHeartbeats 2000000 in
set_option maxRecDepth 100000 in
theorem one_some (gl : Nat) (A1 : Option Addr) (c1 : Nat) (l1 : List S40) (i : Nat) (p : S40) (w : World) (hr : Kd.C k40 w A1 l1.length l1) (hb : w.heap[gl]? = some (.cells #[.slice A1 l1.length c1] 34 (0, 0))) (hp : l1[i]? = some p) :
    Calls Try.prog 110 #[.int .i64 i, .pointer (some ⟨gl, 0, none⟩)] w fun e w' => e = .returned (.agg #[.int .i64 0, .bool true, .int .i64 p.f0, .int .i64 p.f1, .slice none 0 0, .bool false]) ∧ Below w.heap.size w w' := by
  have hu84 := Try.underlying84
  have hcell : w.cell? ⟨gl, 0, none⟩ = some (.slice A1 l1.length c1) := by simp [World.cell?, hb]
  have hlt : gl < w.heap.size := (Array.getElem?_eq_some_iff.1 hb).1
  have hcell' : ∀ o, (w.alloc o).cell? ⟨gl, 0, none⟩ = some (.slice A1 l1.length c1) := fun o => by rw [World.cell?_alloc_past _ _ _ hlt]; exact hcell
  have hil : i < l1.length := (List.getElem?_eq_some_iff.1 hp).1
  have hml := C_len hr
  obtain ⟨b, o, rfl, hx0, hx1⟩ := at40 hr (Below.refl _ _) i p hp
  have hblt : b < w.heap.size := World.block_lt_of_cell? w _ hx0
  have hy0 : ∀ ob, (w.alloc ob).cell? ⟨b, o + i * 2, none⟩ = some (.int .i64 p.f0) := fun ob => by rw [World.cell?_alloc_past _ _ _ hblt]; exact hx0
  have hy1 : ∀ ob, (w.alloc ob).cell? ⟨b, o + i * 2 + 1, none⟩ = some (.int .i64 p.f1) := fun ob => by rw [World.cell?_alloc_past _ _ _ hblt]; exact hx1
  have h1 : ¬ ((i : Int) < 0) := by omega
  have hd : decide ((i : Int) < 0) = false := decide_eq_false h1
  have hd2 : decide ((l1.length : Int) ≤ (i : Int)) = false := decide_eq_false (by omega)
  have hd3 : decide (l1.length ≤ i) = false := decide_eq_false (by omega)
  clear hb hp hr
  generalize p.f0 = pa at *
  generalize p.f1 = pb at *
  go_enter Try.func110, Try.ntmps110
  go_wp2
  have g0 := hcell' (.cells #[.int .i64 0, .bool false, .int .i64 0, .int .i64 0, .slice none 0 0, .bool false] 84)
  have x0 := hy0 (.cells #[.int .i64 0, .bool false, .int .i64 0, .int .i64 0, .slice none 0 0, .bool false] 84)
  have x1 := hy1 (.cells #[.int .i64 0, .bool false, .int .i64 0, .int .i64 0, .slice none 0 0, .bool false] 84)
  have n0 : (w.alloc (.cells #[.int .i64 0, .bool false, .int .i64 0, .int .i64 0, .slice none 0 0, .bool false] 84)).cell? ⟨w.heap.size, 0, none⟩ = some (.int .i64 0) := by rw [World.cell?_alloc_at _ _ _ _ rfl]; rfl
  have f0 : (w.alloc (.cells #[.int .i64 0, .bool false, .int .i64 0, .int .i64 0, .slice none 0 0, .bool false] 84)).frozen? ⟨w.heap.size, 0, none⟩ = false := World.frozen?_alloc_at _ _ _ _ rfl
  have n1 : (w.alloc (.cells #[.int .i64 0, .bool false, .int .i64 0, .int .i64 0, .slice none 0 0, .bool false] 84)).cell? ⟨w.heap.size, 1, none⟩ = some (.bool false) := by rw [World.cell?_alloc_at _ _ _ _ rfl]; rfl
  have f1 : (w.alloc (.cells #[.int .i64 0, .bool false, .int .i64 0, .int .i64 0, .slice none 0 0, .bool false] 84)).frozen? ⟨w.heap.size, 1, none⟩ = false := World.frozen?_alloc_at _ _ _ _ rfl
  have n2 : (w.alloc (.cells #[.int .i64 0, .bool false, .int .i64 0, .int .i64 0, .slice none 0 0, .bool false] 84)).cell? ⟨w.heap.size, 2, none⟩ = some (.int .i64 0) := by rw [World.cell?_alloc_at _ _ _ _ rfl]; rfl
  have f2 : (w.alloc (.cells #[.int .i64 0, .bool false, .int .i64 0, .int .i64 0, .slice none 0 0, .bool false] 84)).frozen? ⟨w.heap.size, 2, none⟩ = false := World.frozen?_alloc_at _ _ _ _ rfl
  have n3 : (w.alloc (.cells #[.int .i64 0, .bool false, .int .i64 0, .int .i64 0, .slice none 0 0, .bool false] 84)).cell? ⟨w.heap.size, 3, none⟩ = some (.int .i64 0) := by rw [World.cell?_alloc_at _ _ _ _ rfl]; rfl
  have f3 : (w.alloc (.cells #[.int .i64 0, .bool false, .int .i64 0, .int .i64 0, .slice none 0 0, .bool false] 84)).frozen? ⟨w.heap.size, 3, none⟩ = false := World.frozen?_alloc_at _ _ _ _ rfl
  have n4 : (w.alloc (.cells #[.int .i64 0, .bool false, .int .i64 0, .int .i64 0, .slice none 0 0, .bool false] 84)).cell? ⟨w.heap.size, 4, none⟩ = some (.slice none 0 0) := by rw [World.cell?_alloc_at _ _ _ _ rfl]; rfl
  have f4 : (w.alloc (.cells #[.int .i64 0, .bool false, .int .i64 0, .int .i64 0, .slice none 0 0, .bool false] 84)).frozen? ⟨w.heap.size, 4, none⟩ = false := World.frozen?_alloc_at _ _ _ _ rfl
  have n5 : (w.alloc (.cells #[.int .i64 0, .bool false, .int .i64 0, .int .i64 0, .slice none 0 0, .bool false] 84)).cell? ⟨w.heap.size, 5, none⟩ = some (.bool false) := by rw [World.cell?_alloc_at _ _ _ _ rfl]; rfl
  have f5 : (w.alloc (.cells #[.int .i64 0, .bool false, .int .i64 0, .int .i64 0, .slice none 0 0, .bool false] 84)).frozen? ⟨w.heap.size, 5, none⟩ = false := World.frozen?_alloc_at _ _ _ _ rfl
  have HB : Below w.heap.size w (w.alloc (.cells #[.int .i64 0, .bool false, .int .i64 0, .int .i64 0, .slice none 0 0, .bool false] 84)) := (Below.refl _ _).alloc (Nat.le_refl _) _
  clear hcell hcell' hx0 hx1 hy0 hy1
  refine wp_region_still_tail 11 (by kernel_rfl) (by kernel_rfl) ?_
  change wpStill _ _ (World.drew (w.alloc (.cells #[.int .i64 0, .bool false, .int .i64 0, .int .i64 0, .slice none 0 0, .bool false] 84))) (fun a' => wpList _ _ _ _ a' (World.drew (w.alloc (.cells #[.int .i64 0, .bool false, .int .i64 0, .int .i64 0, .slice none 0 0, .bool false] 84)))) _ _
  change World.cell? (World.drew (w.alloc (.cells #[.int .i64 0, .bool false, .int .i64 0, .int .i64 0, .slice none 0 0, .bool false] 84))) _ = _ at g0 x0 x1 n0 n1 n2 n3 n4 n5
  change World.frozen? (World.drew (w.alloc (.cells #[.int .i64 0, .bool false, .int .i64 0, .int .i64 0, .slice none 0 0, .bool false] 84))) _ = _ at f0 f1 f2 f3 f4 f5
  replace HB : Below w.heap.size w (World.drew (w.alloc (.cells #[.int .i64 0, .bool false, .int .i64 0, .int .i64 0, .slice none 0 0, .bool false] 84))) := below_drew1 HB
  generalize World.drew (w.alloc (.cells #[.int .i64 0, .bool false, .int .i64 0, .int .i64 0, .slice none 0 0, .bool false] 84)) = W at *
  simp only [List.take_succ_cons, List.take_zero, List.drop_succ_cons, List.drop_zero]
  repeat still_step
  refine wpStill_nil ?_
  go_wp2
  exact bodyPost_ret (v := .agg #[.int .i64 0, .bool true, .int .i64 pa, .int .i64 pb, .slice none 0 0, .bool false]) (by simp [results, Try.results110, go_sem, n0, n1, n2, n3, n4, n5]) rfl ⟨rfl, (((((HB.setCell (Nat.le_refl _) _).setCell (Nat.le_refl _) _).setCell (Nat.le_refl _) _).setCell (Nat.le_refl _) _).setCell (Nat.le_refl _) _).setCell (Nat.le_refl _) _⟩

/-- Element i, as an answer: whether it is there, its key, its value. -/
def oneR (l : List S40) (i : Int) : Bool × Int × Int := if 0 ≤ i then match l[i.toNat]? with
  | some p => (true, p.f0, p.f1)
  | none => (false, 0, 0) else (false, 0, 0)
theorem one_any (gl : Nat) (A1 : Option Addr) (c1 : Nat) (l1 : List S40) (i : Int) (w : World) (hr : Kd.C k40 w A1 l1.length l1) (hb : w.heap[gl]? = some (.cells #[.slice A1 l1.length c1] 34 (0, 0))) :
    Calls Try.prog 110 #[.int .i64 i, .pointer (some ⟨gl, 0, none⟩)] w fun e w' => e = .returned (.agg #[.int .i64 0, .bool (oneR l1 i).1, .int .i64 (oneR l1 i).2.1, .int .i64 (oneR l1 i).2.2, .slice none 0 0, .bool false]) ∧ Below w.heap.size w w' := by
  by_cases h0 : 0 ≤ i
  · obtain ⟨n, rfl⟩ := Int.eq_ofNat_of_zero_le h0
    cases hp : l1[n]? with
    | none =>
      have e : oneR l1 n = (false, 0, 0) := by simp [oneR, hp]
      rw [e]
      exact one_none gl A1 c1 l1 n w hb (.inr (by have := List.getElem?_eq_none_iff.1 hp; omega))
    | some p =>
      have e : oneR l1 n = (true, p.f0, p.f1) := by simp [oneR, hp]
      rw [e]
      exact one_some gl A1 c1 l1 n p w hr hb hp
  · have e : oneR l1 i = (false, 0, 0) := by simp [oneR, h0]
    rw [e]
    exact one_none gl A1 c1 l1 i w hb (.inl (by omega))
theorem bcell {W w1 : World} (hb : Below W.heap.size W w1) : (∀ b o, b < W.heap.size → w1.cell? ⟨b, o, none⟩ = W.cell? ⟨b, o, none⟩) ∧ (∀ b o, b < W.heap.size → w1.frozen? ⟨b, o, none⟩ = W.frozen? ⟨b, o, none⟩) :=
  ⟨fun b o h => hb.cell (p := ⟨b, o, none⟩) h, fun b o h => hb.frozen (p := ⟨b, o, none⟩) h⟩
set_option maxHeartbeats 4000000 in
set_option maxRecDepth 100000 in
theorem of_last (k key upto v : Int) (A1 : Option Addr) (c1 : Nat) (l1 : List S40) (w : World) (hr : Kd.C k40 w A1 l1.length l1) (hl : l1.length < 8796093022208) (hk : k = 4 ∨ k = 7) :
    Calls Try.prog 72 #[.agg #[.int .u8 k, .int .i64 key, .int .i64 upto, .int .i64 v], .slice A1 l1.length c1] w fun e w' => e = .returned (.agg #[.int .i64 0, .bool (oneR l1 ((l1.length : Int) - 1)).1, .int .i64 (oneR l1 ((l1.length : Int) - 1)).2.1, .int .i64 (oneR l1 ((l1.length : Int) - 1)).2.2, .slice none 0 0, .bool false]) ∧ Below w.heap.size w w' := by
  have hu84 := Try.underlying84
  have hu78 := Try.underlying78
  have HB1 : Below w.heap.size w (((w.alloc (.cells #[.int .u8 k, .int .i64 key, .int .i64 upto, .int .i64 v] 78)).alloc (.cells #[.slice A1 l1.length c1] 34)).alloc (.cells #[.int .i64 0, .bool false, .int .i64 0, .int .i64 0, .slice none 0 0, .bool false] 84)) := (((Below.refl _ _).alloc (Nat.le_refl _) _).alloc (by simp) _).alloc (by simp; omega) _
  have hc := one_any (w.heap.size + 1) A1 c1 l1 ((l1.length : Int) - 1) _ (Kd.C_below hr HB1) (by
    have h := heap_alloc_new (w.alloc (.cells #[.int .u8 k, .int .i64 key, .int .i64 upto, .int .i64 v] 78)) (.cells #[.slice A1 l1.length c1] 34)
    rw [show (w.alloc (.cells #[.int .u8 k, .int .i64 key, .int .i64 upto, .int .i64 v] 78)).heap.size = w.heap.size + 1 by simp] at h
    exact blk_alloc h _)
  clear hr
  generalize oneR l1 ((l1.length : Int) - 1) = q at hc ⊢
  obtain ⟨qb, qk, qv⟩ := q
  dsimp only at hc ⊢
  have HC := Lib.hid hc
  have HB2 := Lib.hid HB1
  clear hc HB1
  rcases hk with rfl | rfl
  all_goals
    go_enter Try.func72, Try.ntmps72
    go_wp2_with (go_at_call 110; refine HC.out.mono ?_; rintro e w' ⟨rfl, hb⟩; have hcf := bcell hb; obtain ⟨hcc, hff⟩ := hcf; have hz : w.heap.size + 2 < w'.heap.size := by have := hb.size; simp at this; omega)
    exact bodyPost_ret (v := .agg #[.int .i64 0, .bool qb, .int .i64 qk, .int .i64 qv, .slice none 0 0, .bool false]) (by simp [results, Try.results72, go_sem, hcc, hff, hz]) rfl ⟨rfl, (((((((below_then HB2.out HB2.out.size hb).setCell (p := ⟨w.heap.size + 2, _, none⟩) (by simp) _).setCell (p := ⟨w.heap.size + 2, _, none⟩) (by simp) _).setCell (p := ⟨w.heap.size + 2, _, none⟩) (by simp) _).setCell (p := ⟨w.heap.size + 2, _, none⟩) (by simp) _).setCell (p := ⟨w.heap.size + 2, _, none⟩) (by simp) _).setCell (p := ⟨w.heap.size + 2, _, none⟩) (by simp) _)⟩
set_option maxHeartbeats 4000000 in
set_option maxRecDepth 100000 in
theorem of_first (k key upto v : Int) (A1 : Option Addr) (c1 : Nat) (l1 : List S40) (w : World) (hr : Kd.C k40 w A1 l1.length l1) (hl : l1.length < 8796093022208) (hk : k = 5 ∨ k = 6) :
    Calls Try.prog 72 #[.agg #[.int .u8 k, .int .i64 key, .int .i64 upto, .int .i64 v], .slice A1 l1.length c1] w fun e w' => e = .returned (.agg #[.int .i64 0, .bool (oneR l1 (0 : Int)).1, .int .i64 (oneR l1 (0 : Int)).2.1, .int .i64 (oneR l1 (0 : Int)).2.2, .slice none 0 0, .bool false]) ∧ Below w.heap.size w w' := by
  have hu84 := Try.underlying84
  have hu78 := Try.underlying78
  have HB1 : Below w.heap.size w (((w.alloc (.cells #[.int .u8 k, .int .i64 key, .int .i64 upto, .int .i64 v] 78)).alloc (.cells #[.slice A1 l1.length c1] 34)).alloc (.cells #[.int .i64 0, .bool false, .int .i64 0, .int .i64 0, .slice none 0 0, .bool false] 84)) := (((Below.refl _ _).alloc (Nat.le_refl _) _).alloc (by simp) _).alloc (by simp; omega) _
  have hc := one_any (w.heap.size + 1) A1 c1 l1 (0 : Int) _ (Kd.C_below hr HB1) (by
    have h := heap_alloc_new (w.alloc (.cells #[.int .u8 k, .int .i64 key, .int .i64 upto, .int .i64 v] 78)) (.cells #[.slice A1 l1.length c1] 34)
    rw [show (w.alloc (.cells #[.int .u8 k, .int .i64 key, .int .i64 upto, .int .i64 v] 78)).heap.size = w.heap.size + 1 by simp] at h
    exact blk_alloc h _)
  clear hr
  generalize oneR l1 (0 : Int) = q at hc ⊢
  obtain ⟨qb, qk, qv⟩ := q
  dsimp only at hc ⊢
  have HC := Lib.hid hc
  have HB2 := Lib.hid HB1
  clear hc HB1
  rcases hk with rfl | rfl
  all_goals
    go_enter Try.func72, Try.ntmps72
    go_wp2_with (go_at_call 110; refine HC.out.mono ?_; rintro e w' ⟨rfl, hb⟩; have hcf := bcell hb; obtain ⟨hcc, hff⟩ := hcf; have hz : w.heap.size + 2 < w'.heap.size := by have := hb.size; simp at this; omega)
    exact bodyPost_ret (v := .agg #[.int .i64 0, .bool qb, .int .i64 qk, .int .i64 qv, .slice none 0 0, .bool false]) (by simp [results, Try.results72, go_sem, hcc, hff, hz]) rfl ⟨rfl, (((((((below_then HB2.out HB2.out.size hb).setCell (p := ⟨w.heap.size + 2, _, none⟩) (by simp) _).setCell (p := ⟨w.heap.size + 2, _, none⟩) (by simp) _).setCell (p := ⟨w.heap.size + 2, _, none⟩) (by simp) _).setCell (p := ⟨w.heap.size + 2, _, none⟩) (by simp) _).setCell (p := ⟨w.heap.size + 2, _, none⟩) (by simp) _).setCell (p := ⟨w.heap.size + 2, _, none⟩) (by simp) _)⟩
set_option maxHeartbeats 4000000 in
set_option maxRecDepth 100000 in
theorem of_at (k key upto v : Int) (A1 : Option Addr) (c1 : Nat) (l1 : List S40) (w : World) (hr : Kd.C k40 w A1 l1.length l1) (hl : l1.length < 8796093022208) (hk : k = 9) (h0 : 0 ≤ key) (h1 : key < (l1.length : Int)) :
    Calls Try.prog 72 #[.agg #[.int .u8 k, .int .i64 key, .int .i64 upto, .int .i64 v], .slice A1 l1.length c1] w fun e w' => e = .returned (.agg #[.int .i64 0, .bool (oneR l1 key).1, .int .i64 (oneR l1 key).2.1, .int .i64 (oneR l1 key).2.2, .slice none 0 0, .bool false]) ∧ Below w.heap.size w w' := by
  have hu84 := Try.underlying84
  have hu78 := Try.underlying78
  have HB1 : Below w.heap.size w (((w.alloc (.cells #[.int .u8 k, .int .i64 key, .int .i64 upto, .int .i64 v] 78)).alloc (.cells #[.slice A1 l1.length c1] 34)).alloc (.cells #[.int .i64 0, .bool false, .int .i64 0, .int .i64 0, .slice none 0 0, .bool false] 84)) := (((Below.refl _ _).alloc (Nat.le_refl _) _).alloc (by simp) _).alloc (by simp; omega) _
  have hc := one_any (w.heap.size + 1) A1 c1 l1 key _ (Kd.C_below hr HB1) (by
    have h := heap_alloc_new (w.alloc (.cells #[.int .u8 k, .int .i64 key, .int .i64 upto, .int .i64 v] 78)) (.cells #[.slice A1 l1.length c1] 34)
    rw [show (w.alloc (.cells #[.int .u8 k, .int .i64 key, .int .i64 upto, .int .i64 v] 78)).heap.size = w.heap.size + 1 by simp] at h
    exact blk_alloc h _)
  clear hr
  generalize oneR l1 key = q at hc ⊢
  obtain ⟨qb, qk, qv⟩ := q
  dsimp only at hc ⊢
  have HC := Lib.hid hc
  have HB2 := Lib.hid HB1
  clear hc HB1
  have hd1 : decide (key < 0) = false := decide_eq_false (by omega)
  have hd2 : decide ((l1.length : Int) ≤ key) = false := decide_eq_false (by omega)
  subst hk
  all_goals
    go_enter Try.func72, Try.ntmps72
    go_wp2_with (go_at_call 110; refine HC.out.mono ?_; rintro e w' ⟨rfl, hb⟩; have hcf := bcell hb; obtain ⟨hcc, hff⟩ := hcf; have hz : w.heap.size + 2 < w'.heap.size := by have := hb.size; simp at this; omega)
    exact bodyPost_ret (v := .agg #[.int .i64 0, .bool qb, .int .i64 qk, .int .i64 qv, .slice none 0 0, .bool false]) (by simp [results, Try.results72, go_sem, hcc, hff, hz]) rfl ⟨rfl, (((((((below_then HB2.out HB2.out.size hb).setCell (p := ⟨w.heap.size + 2, _, none⟩) (by simp) _).setCell (p := ⟨w.heap.size + 2, _, none⟩) (by simp) _).setCell (p := ⟨w.heap.size + 2, _, none⟩) (by simp) _).setCell (p := ⟨w.heap.size + 2, _, none⟩) (by simp) _).setCell (p := ⟨w.heap.size + 2, _, none⟩) (by simp) _).setCell (p := ⟨w.heap.size + 2, _, none⟩) (by simp) _)⟩
set_option maxHeartbeats 4000000 in
set_option maxRecDepth 100000 in
theorem of_out (k key upto v : Int) (A1 : Option Addr) (c1 : Nat) (l1 : List S40) (w : World) (hl : l1.length < 8796093022208) (hk : k = 9) (h0 : key < 0 ∨ (l1.length : Int) ≤ key) :
    Calls Try.prog 72 #[.agg #[.int .u8 k, .int .i64 key, .int .i64 upto, .int .i64 v], .slice A1 l1.length c1] w fun e w' => e = .returned (.agg #[.int .i64 0, .bool false, .int .i64 0, .int .i64 0, .slice none 0 0, .bool false]) ∧ Below w.heap.size w w' := by
  have hu84 := Try.underlying84
  have hu78 := Try.underlying78
  subst hk
  by_cases hneg : key < 0
  · have hd1 : decide (key < 0) = true := decide_eq_true hneg
    clear h0
    go_enter Try.func72, Try.ntmps72
    go_wp2
    exact bodyPost_ret (v := .agg #[.int .i64 0, .bool false, .int .i64 0, .int .i64 0, .slice none 0 0, .bool false]) (by simp [results, Try.results72, go_sem]) rfl ⟨rfl, (((Below.refl _ _).alloc (Nat.le_refl _) _).alloc (by simp) _).alloc (by simp; omega) _⟩
  have hge : (l1.length : Int) ≤ key := by omega
  have hd1 : decide (key < 0) = false := decide_eq_false hneg
  have hd2 : decide ((l1.length : Int) ≤ key) = true := decide_eq_true hge
  clear h0
  all_goals
    go_enter Try.func72, Try.ntmps72
    go_wp2
    exact bodyPost_ret (v := .agg #[.int .i64 0, .bool false, .int .i64 0, .int .i64 0, .slice none 0 0, .bool false]) (by simp [results, Try.results72, go_sem]) rfl ⟨rfl, (((Below.refl _ _).alloc (Nat.le_refl _) _).alloc (by simp) _).alloc (by simp; omega) _⟩
set_option maxHeartbeats 4000000 in
set_option maxRecDepth 100000 in
theorem of_count (k key upto v : Int) (A1 : Option Addr) (c1 : Nat) (l1 : List S40) (w : World) (hl : l1.length < 8796093022208) (hk : k = 8 ∨ k = 10) :
    Calls Try.prog 72 #[.agg #[.int .u8 k, .int .i64 key, .int .i64 upto, .int .i64 v], .slice A1 l1.length c1] w fun e w' => e = .returned (.agg #[.int .i64 0, .bool true, .int .i64 (l1.length : Int), .int .i64 0, .slice none 0 0, .bool false]) ∧ Below w.heap.size w w' := by
  have hu84 := Try.underlying84
  have hu78 := Try.underlying78
  rcases hk with rfl | rfl
  all_goals
    go_enter Try.func72, Try.ntmps72
    go_wp2
    exact bodyPost_ret (v := .agg #[.int .i64 0, .bool true, .int .i64 (l1.length : Int), .int .i64 0, .slice none 0 0, .bool false]) (by simp [results, Try.results72, go_sem]) rfl ⟨rfl, (((Below.refl _ _).alloc (Nat.le_refl _) _).alloc (by simp) _).alloc (by simp; omega) _⟩
set_option maxHeartbeats 4000000 in
set_option maxRecDepth 100000 in
theorem of_other (k key upto v : Int) (A1 : Option Addr) (c1 : Nat) (l1 : List S40) (w : World) (hl : l1.length < 8796093022208) (h4 : k ≠ 4) (h5 : k ≠ 5) (h6 : k ≠ 6) (h7 : k ≠ 7) (h8 : k ≠ 8) (h9 : k ≠ 9) (h10 : k ≠ 10) (h11 : k ≠ 11) :
    Calls Try.prog 72 #[.agg #[.int .u8 k, .int .i64 key, .int .i64 upto, .int .i64 v], .slice A1 l1.length c1] w fun e w' => e = .returned (.agg #[.int .i64 0, .bool false, .int .i64 0, .int .i64 0, .slice none 0 0, .bool false]) ∧ Below w.heap.size w w' := by
  have hu84 := Try.underlying84
  have hu78 := Try.underlying78
  have b4 : (k == 4) = false := beq_eq_false_iff_ne.2 h4
  have b5 : (k == 5) = false := beq_eq_false_iff_ne.2 h5
  have b6 : (k == 6) = false := beq_eq_false_iff_ne.2 h6
  have b7 : (k == 7) = false := beq_eq_false_iff_ne.2 h7
  have b8 : (k == 8) = false := beq_eq_false_iff_ne.2 h8
  have b9 : (k == 9) = false := beq_eq_false_iff_ne.2 h9
  have b10 : (k == 10) = false := beq_eq_false_iff_ne.2 h10
  have b11 : (k == 11) = false := beq_eq_false_iff_ne.2 h11
  skip
  all_goals
    go_enter Try.func72, Try.ntmps72
    go_wp2
    exact bodyPost_ret (v := .agg #[.int .i64 0, .bool false, .int .i64 0, .int .i64 0, .slice none 0 0, .bool false]) (by simp [results, Try.results72, go_sem]) rfl ⟨rfl, (((Below.refl _ _).alloc (Nat.le_refl _) _).alloc (by simp) _).alloc (by simp; omega) _⟩
set_option maxHeartbeats 4000000 in
set_option maxRecDepth 100000 in
theorem of_range (key upto v : Int) (A1 : Option Addr) (c1 : Nat) (l1 : List S40) (w : World) (hr : Kd.C k40 w A1 l1.length l1) (hc1 : l1.length ≤ c1) (hl : l1.length < 8796093022208) :
    Calls Try.prog 72 #[.agg #[.int .u8 11, .int .i64 key, .int .i64 upto, .int .i64 v], .slice A1 l1.length c1] w fun e w' => ∃ v4 : Value, e = .returned (.agg #[.int .i64 0, .bool true, .int .i64 (l1.length : Int), .int .i64 0, v4, .bool false]) ∧ Kd.R k40 40 w' w.heap.size (fun _ => True) v4 l1 ∧ Below w.heap.size w w' := by
  have hu84 := Try.underlying84
  have hu78 := Try.underlying78
  have HB1 : Below w.heap.size w (((w.alloc (.cells #[.int .u8 11, .int .i64 key, .int .i64 upto, .int .i64 v] 78)).alloc (.cells #[.slice A1 l1.length c1] 34)).alloc (.cells #[.int .i64 0, .bool false, .int .i64 0, .int .i64 0, .slice none 0 0, .bool false] 84)) := (((Below.refl _ _).alloc (Nat.le_refl _) _).alloc (by simp) _).alloc (by simp; omega) _
  have hrn : ∀ n, Kd.C k40 (World.drewN (((w.alloc (.cells #[.int .u8 11, .int .i64 key, .int .i64 upto, .int .i64 v] 78)).alloc (.cells #[.slice A1 l1.length c1] 34)).alloc (.cells #[.int .i64 0, .bool false, .int .i64 0, .int .i64 0, .slice none 0 0, .bool false] 84)) n) A1 l1.length l1 := fun n => Kd.C_below hr (pw_below_drewN HB1 n)
  have hcl : leaf_Pair_99.f l1 = some l1 := by unfold leaf_Pair_99.f; rw [if_pos hl]
  have HCL := Lib.hid hcl
  have HR := Lib.hid hr
  have HB2 := Lib.hid HB1
  clear hcl hr hrn HB1
  go_enter Try.func72, Try.ntmps72
  go_wp2
  go_region_with (go_at_call 99; refine (leaf_Pair_99.calls A1 c1 l1 l1 _ (Kd.C_below HR.out (below_drew1 HB2.out)) hc1 HCL.out).mono ?_; rintro e w' ⟨v0, rfl, hR, hb⟩; obtain ⟨Av, cv, rfl⟩ := Kd.R_slice hR; have hR0 := Lib.hid hR; clear hR; have hcf := bcell hb; obtain ⟨hcc, hff⟩ := hcf; have hz : w.heap.size + 2 < w'.heap.size := by have := hb.size; simp at this; omega)
  all_goals go_wp2
  all_goals
    have hn : ∀ k, (fun k => True ∧ w.heap.size + 3 ≤ k) k → k ≠ w.heap.size + 2 := fun k hk => by have := hk.2; omega
    have hR1 : Kd.R k40 40 w' w.heap.size (fun k => True ∧ w.heap.size + 3 ≤ k) (.slice Av l1.length cv) l1 := Kd.R_lower (Kd.R_mono (Kd.R_bound hR0.out) (fun k hk => ⟨trivial, by have := hk.2.1; simp at this; omega⟩)) (by simp; omega)
    exact bodyPost_ret (v := .agg #[.int .i64 0, .bool true, .int .i64 (l1.length : Int), .int .i64 0, .slice Av l1.length cv, .bool false]) (by simp [results, Try.results72, go_sem, hcc, hff, hz]) rfl ⟨_, rfl, Kd.R_mono (Kd.R_far (p := ⟨w.heap.size + 2, _, none⟩) (Kd.R_far (p := ⟨w.heap.size + 2, _, none⟩) (Kd.R_far (p := ⟨w.heap.size + 2, _, none⟩) (Kd.R_far (p := ⟨w.heap.size + 2, _, none⟩) (Kd.R_far (p := ⟨w.heap.size + 2, _, none⟩) (Kd.R_far (p := ⟨w.heap.size + 2, _, none⟩) hR1 hn _) hn _) hn _) hn _) hn _) hn _) (fun _ _ => trivial), (((((((below_then (below_drew1 HB2.out) (below_drew1 HB2.out).size hb).setCell (p := ⟨w.heap.size + 2, _, none⟩) (by simp) _).setCell (p := ⟨w.heap.size + 2, _, none⟩) (by simp) _).setCell (p := ⟨w.heap.size + 2, _, none⟩) (by simp) _).setCell (p := ⟨w.heap.size + 2, _, none⟩) (by simp) _).setCell (p := ⟨w.heap.size + 2, _, none⟩) (by simp) _).setCell (p := ⟨w.heap.size + 2, _, none⟩) (by simp) _)⟩
/-- What an operation answers, of the pairs that it looks at. -/
def ofR (k key : Int) (l : List S40) : Int × Bool × Int × Int × List S40 × Bool :=
  if k = 4 ∨ k = 7 then (0, (oneR l ((l.length : Int) - 1)).1, (oneR l ((l.length : Int) - 1)).2.1, (oneR l ((l.length : Int) - 1)).2.2, [], false)
  else if k = 5 ∨ k = 6 then (0, (oneR l 0).1, (oneR l 0).2.1, (oneR l 0).2.2, [], false)
  else if k = 9 then (0, (oneR l key).1, (oneR l key).2.1, (oneR l key).2.2, [], false)
  else if k = 8 ∨ k = 10 then (0, true, (l.length : Int), 0, [], false)
  else if k = 11 then (0, true, (l.length : Int), 0, l, false)
  else (0, false, 0, 0, [], false)
def model_Op_Of.f (a0_0 a0_1 a0_2 a0_3 : Int) (l1 : List S40) : Option (Int × Bool × Int × Int × (List S40) × Bool) := if l1.length < 8796093022208 then some (ofR a0_0 a0_1 l1) else none
theorem model_Op_Of.calls (a0_0 a0_1 a0_2 a0_3 : Int) (A1 : Option Addr) (c1 : Nat) (l1 : List S40) (r1 : Int) (r2 : Bool) (r3 : Int) (r4 : Int) (r5 : List S40) (r6 : Bool) (w : World) (hr1 : Kd.C k40 w A1 l1.length l1) (hc1 : l1.length ≤ c1) (h : model_Op_Of.f a0_0 a0_1 a0_2 a0_3 l1 = some (r1, r2, r3, r4, r5, r6)) :
    Calls Try.prog 72 #[.agg #[.int .u8 a0_0, .int .i64 a0_1, .int .i64 a0_2, .int .i64 a0_3], .slice A1 l1.length c1] w fun e w' => ∃ v4_ : Value, e = .returned (.agg #[.int .i64 r1, .bool r2, .int .i64 r3, .int .i64 r4, v4_, .bool r6]) ∧ Kd.R k40 40 w' w.heap.size (fun _ => True) v4_ r5 ∧ Below w.heap.size w w' := by
  unfold model_Op_Of.f at h
  split at h
  · rename_i hl
    have h := Option.some.inj h
    unfold ofR at h
    split at h
    · rename_i hk
      simp only [Prod.mk.injEq] at h
      obtain ⟨rfl, rfl, rfl, rfl, rfl, rfl⟩ := h
      exact (of_last a0_0 a0_1 a0_2 a0_3 A1 c1 l1 w hr1 hl hk).mono fun e w' he => ⟨_, he.1, Kd.R_nil _ _ _ _ _, he.2⟩
    · rename_i hk1
      split at h
      · rename_i hk
        simp only [Prod.mk.injEq] at h
        obtain ⟨rfl, rfl, rfl, rfl, rfl, rfl⟩ := h
        exact (of_first a0_0 a0_1 a0_2 a0_3 A1 c1 l1 w hr1 hl hk).mono fun e w' he => ⟨_, he.1, Kd.R_nil _ _ _ _ _, he.2⟩
      · rename_i hk2
        split at h
        · rename_i hk
          simp only [Prod.mk.injEq] at h
          obtain ⟨rfl, rfl, rfl, rfl, rfl, rfl⟩ := h
          by_cases hin : 0 ≤ a0_1 ∧ a0_1 < (l1.length : Int)
          · exact (of_at a0_0 a0_1 a0_2 a0_3 A1 c1 l1 w hr1 hl hk hin.1 hin.2).mono fun e w' he => ⟨_, he.1, Kd.R_nil _ _ _ _ _, he.2⟩
          · have e0 : oneR l1 a0_1 = (false, 0, 0) := by
              unfold oneR
              split
              · rw [List.getElem?_eq_none (by omega)]
              · rfl
            rw [e0]
            exact (of_out a0_0 a0_1 a0_2 a0_3 A1 c1 l1 w hl hk (by omega)).mono fun e w' he => ⟨_, he.1, Kd.R_nil _ _ _ _ _, he.2⟩
        · rename_i hk3
          split at h
          · rename_i hk
            simp only [Prod.mk.injEq] at h
            obtain ⟨rfl, rfl, rfl, rfl, rfl, rfl⟩ := h
            exact (of_count a0_0 a0_1 a0_2 a0_3 A1 c1 l1 w hl hk).mono fun e w' he => ⟨_, he.1, Kd.R_nil _ _ _ _ _, he.2⟩
          · rename_i hk4
            split at h
            · rename_i hk
              simp only [Prod.mk.injEq] at h
              obtain ⟨rfl, rfl, rfl, rfl, rfl, rfl⟩ := h
              subst hk
              exact of_range a0_1 a0_2 a0_3 A1 c1 l1 w hr1 hc1 hl
            · rename_i hk5
              simp only [Prod.mk.injEq] at h
              obtain ⟨rfl, rfl, rfl, rfl, rfl, rfl⟩ := h
              exact (of_other a0_0 a0_1 a0_2 a0_3 A1 c1 l1 w hl (by omega) (by omega) (by omega) (by omega) (by omega) (by omega) (by omega) hk5).mono fun e w' he => ⟨_, he.1, Kd.R_nil _ _ _ _ _, he.2⟩
  · cases h

end Go.Proofs.Ytkoiffkonjpoiaa.Q
