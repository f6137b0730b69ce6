/- Go functions of the program as plain Lean functions, and for each the contract that the call comes to its answers; written by a turned print of this session. -/
import Derived.Test.YtkoiffkonjpoiaaQ0
import Derived.Test.YtkoiffkonjpoiaaQA1
import Derived.Test.YtkoiffkonjpoiaaQA2
namespace Go.Proofs.Ytkoiffkonjpoiaa.Q
open Go.RowKit Go.Proofs.YtkoiffkonjpoiaaW.PrintWords Go.Proofs.YtkoiffkonjpoiaaW.PrintLast Go.Proofs.YtkoiffkonjpoiaaW.PrintMore Go.Proofs.YtkoiffkonjpoiaaX
attribute [local go_sem] max2_int min2_int max_two min_two max_three min_three max_four min_four   -- for this text's walks alone
set_option linter.unusedVariables false
set_option linter.unusedSimpArgs false

/-! ### boscagelaw02_LeafJoins: function 11 -/
mutual
def boscagelaw02_LeafJoins.j0 : Nat → List (S40) → List (S40) → Bool → Option (Bool)
  | 0, _, _, _ => none
  | k + 1, x0, x1, x18 => if x18 = true then (some true) else ((leaf_Leaf_Join.f x0 x1).bind fun t517 => (if (t517.length : Int) = (wrap64 ((x0.length : Int) + (x1.length : Int))) then (if 0 ≤ (x0.length : Int) then (if (x0.length : Int) ≤ (t517.length : Int) then ((boscagelaw02_Same.f k (t517.take ((x0.length : Int) : Int).toNat) x0).bind fun t524 => (if t524 = true then ((boscagelaw02_Same.f k (t517.drop ((x0.length : Int) : Int).toNat) x1).bind fun t529 => (boscagelaw02_LeafJoins.j1 k t517 (!t529))) else (boscagelaw02_LeafJoins.j1 k t517 true))) else (none)) else (none)) else (boscagelaw02_LeafJoins.j1 k t517 true)))
def boscagelaw02_LeafJoins.j1 : Nat → List (S40) → Bool → Option (Bool)
  | 0, _, _ => none
  | k + 1, x5, x47 => if x47 = true then (some false) else ((leaf_Leaf_Halves.f x5).bind fun bt530 => ((leaf_Leaf_Join.f bt530.1 bt530.2.1).bind fun t537 => ((boscagelaw02_Same.f k t537 x5).bind fun t540 => (some t540))))
end
def boscagelaw02_LeafJoins.f (k : Nat) (l0 : List (S40)) (l1 : List (S40)) : Option (Bool) := (boscagelaw02_Awake.f).bind fun t516 => (if t516 = true then (if (l0.length : Int) > 60 then (boscagelaw02_LeafJoins.j0 k l0 l1 true) else (boscagelaw02_LeafJoins.j0 k l0 l1 (decide ((l1.length : Int) > 60)))) else (some false))
theorem boscagelaw02_LeafJoins.mono_l : ∀ k, (∀ y0 y1 y2, LeO (boscagelaw02_LeafJoins.j0 k y0 y1 y2) (boscagelaw02_LeafJoins.j0 (k + 1) y0 y1 y2)) ∧ (∀ y0 y1, LeO (boscagelaw02_LeafJoins.j1 k y0 y1) (boscagelaw02_LeafJoins.j1 (k + 1) y0 y1))
  | 0 => ⟨fun _ _ _ r h => by simp [boscagelaw02_LeafJoins.j0] at h, fun _ _ r h => by simp [boscagelaw02_LeafJoins.j1] at h⟩
  | k + 1 => by
    obtain ⟨ih0, ih1⟩ := boscagelaw02_LeafJoins.mono_l k
    refine ⟨?_, ?_⟩
    · intro y0 y1 y2
      unfold boscagelaw02_LeafJoins.j0
      repeat' first
      | (with_reducible exact ih0 _ _ _)
      | (with_reducible exact ih1 _ _)
      | (with_reducible exact boscagelaw02_Same.mono _ _ _)
      | (with_reducible exact LeO.refl _)
      | (with_reducible exact LeO.none _)
      | (with_reducible refine LeO.ite ?_ ?_)
      | (with_reducible refine LeO.bind ?_ (fun _ => ?_))
      | exact ih0 _ _ _
      | exact ih1 _ _
      | exact boscagelaw02_Same.mono _ _ _
      | exact LeO.none _
      | refine LeO.ite ?_ ?_
      | refine LeO.bind ?_ (fun _ => ?_)
    · intro y0 y1
      unfold boscagelaw02_LeafJoins.j1
      repeat' first
      | (with_reducible exact ih0 _ _ _)
      | (with_reducible exact ih1 _ _)
      | (with_reducible exact boscagelaw02_Same.mono _ _ _)
      | (with_reducible exact LeO.refl _)
      | (with_reducible exact LeO.none _)
      | (with_reducible refine LeO.ite ?_ ?_)
      | (with_reducible refine LeO.bind ?_ (fun _ => ?_))
      | exact ih0 _ _ _
      | exact ih1 _ _
      | exact boscagelaw02_Same.mono _ _ _
      | exact LeO.none _
      | refine LeO.ite ?_ ?_
      | refine LeO.bind ?_ (fun _ => ?_)
theorem boscagelaw02_LeafJoins.mono : ∀ a0 a1 k, LeO (boscagelaw02_LeafJoins.f k a0 a1) (boscagelaw02_LeafJoins.f (k + 1) a0 a1) := by
  intro a0 a1 k
  obtain ⟨ih0, ih1⟩ := boscagelaw02_LeafJoins.mono_l k
  unfold boscagelaw02_LeafJoins.f
  repeat' first
      | (with_reducible exact ih0 _ _ _)
      | (with_reducible exact ih1 _ _)
      | (with_reducible exact boscagelaw02_Same.mono _ _ _)
      | (with_reducible exact LeO.refl _)
      | (with_reducible exact LeO.none _)
      | (with_reducible refine LeO.ite ?_ ?_)
      | (with_reducible refine LeO.bind ?_ (fun _ => ?_))
      | exact ih0 _ _ _
      | exact ih1 _ _
      | exact boscagelaw02_Same.mono _ _ _
      | exact LeO.none _
      | refine LeO.ite ?_ ?_
      | refine LeO.bind ?_ (fun _ => ?_)
set_option maxHeartbeats 8000000 in
set_option maxRecDepth 100000 in
theorem boscagelaw02_LeafJoins.calls (k : Nat) (A0 : Option Addr) (c0 : Nat) (l0 : List (S40)) (A1 : Option Addr) (c1 : Nat) (l1 : List (S40)) (r : Bool) (w : World) (hr0 : Kd.C k40 w A0 l0.length l0) (hc0 : l0.length ≤ c0) (hr1 : Kd.C k40 w A1 l1.length l1) (hc1 : l1.length ≤ c1) (h : boscagelaw02_LeafJoins.f k l0 l1 = some r) :
    Calls Try.prog 11 #[.slice A0 l0.length c0, .slice A1 l1.length c1] w fun e w' => e = .returned (.bool r) ∧ Below w.heap.size w w' := by
  have HR0 := Aside0.mk hr0
  have HC0 := Aside0.mk hc0
  clear hr0 hc0
  have HR1 := Aside0.mk hr1
  have HC1 := Aside0.mk hc1
  clear hr1 hc1
  have HB := Aside0.mk (Below.refl w.heap.size w)
  have H : ((boscagelaw02_Awake.f).bind fun t516 => (if t516 = true then (if (l0.length : Int) > 60 then (boscagelaw02_LeafJoins.j0 k l0 l1 true) else (boscagelaw02_LeafJoins.j0 k l0 l1 (decide ((l1.length : Int) > 60)))) else (some false))) = some r := h
  clear h
  replace H := Option.bind_eq_some_iff.mp H
  obtain ⟨t516, A30, H⟩ := H
  replace H : (if t516 = true then (if (l0.length : Int) > 60 then (boscagelaw02_LeafJoins.j0 k l0 l1 true) else (boscagelaw02_LeafJoins.j0 k l0 l1 (decide ((l1.length : Int) > 60)))) else (some false)) = some r := H
  have A3 := Aside0.mk A30
  clear A30
  by_cases c4 : t516 = true
  · subst c4
    have H1 : (if (l0.length : Int) > 60 then (boscagelaw02_LeafJoins.j0 k l0 l1 true) else (boscagelaw02_LeafJoins.j0 k l0 l1 (decide ((l1.length : Int) > 60)))) = some r := by rw [if_pos rfl] at H; exact H
    clear H
    have H := H1
    clear H1
    have HC5 := Aside0.mk H
    clear H
    go_enter Try.func11, Try.ntmps11
    go_upto_region 3 with (first | ((with_reducible refine gate_callee (f := 43) rfl ?_); refine goesL_ (some 9) rfl rfl Try.func43 (by kernel_rfl) rfl #[] rfl (by (try simp only [List.map_toArray, List.map_cons, List.map_nil]); first | done | rfl | (simp only [List.length_drop, List.length_take]; rfl)) ?_; (with_reducible refine (boscagelaw02_Awake.calls  true _ A3.out).mono ?_); rintro e w6 ⟨rfl, hb⟩; refine ⟨_, rfl, ?_⟩; have n0_ := Aside0.mk (below_step (by repeat (first | (with_reducible first | exact HB.out | apply below_alloc | apply pw_below_drewN | apply below_drew1) | exact HB.out)) hb); clear HB; have HB := n0_; clear n0_; (try clear hb); (try clear hb2); (try clear hk); (try clear hi)))
    (try simp only [Act.put, List.setIfInBounds_toArray, List.set_cons_zero, List.set_cons_succ])
    go_cut [18] (fun v18 wc => ∃ (kq : Nat) (x18_4 : Bool), v18 = .bool x18_4 ∧ Aside0 (boscagelaw02_LeafJoins.j0 kq l0 l1 x18_4 = some r) ∧ Aside0 (kq ≤ k) ∧ Aside0 (Below w.heap.size w wc))
    case first =>
      have H := HC5.out
      clear HC5
      by_cases c7 : (l0.length : Int) > 60
      · rw [if_pos c7] at H
        have c7b0 : decide (60 < (l0.length : Int)) = true := decide_eq_true c7
        have c7b1 : decide (60 < l0.length) = true := decide_eq_true (by omega)
        clear c7
        (first | rw [c7b0] | (simp only [i64_w, i32_w]; rw [c7b0]) | skip)
        have H' := Aside0.mk H
        clear H
        go_wp2
        go_meet
        case rel => exact ⟨_, (true), (by first | rfl | (simp; done) | (simp [*]; done)), H', ⟨by first | omega | exact Nat.le_refl _⟩, ⟨by repeat (first | (with_reducible first | exact HB.out | apply below_alloc | apply pw_below_drewN | apply below_drew1) | exact HB.out)⟩⟩
      · rw [if_neg c7] at H
        have c7b0 : decide (60 < (l0.length : Int)) = false := decide_eq_false c7
        have c7b1 : decide (60 < l0.length) = false := decide_eq_false (by omega)
        clear c7
        (first | rw [c7b0] | (simp only [i64_w, i32_w]; rw [c7b0]) | skip)
        have H' := Aside0.mk H
        clear H
        go_wp2
        go_meet
        case rel => exact ⟨_, (decide ((l1.length : Int) > 60)), (by first | rfl | (simp; done) | (simp [*]; done)), H', ⟨by first | omega | exact Nat.le_refl _⟩, ⟨by repeat (first | (with_reducible first | exact HB.out | apply below_alloc | apply pw_below_drewN | apply below_drew1) | exact HB.out)⟩⟩
    case rest =>
      clear HC5
      try clear c1
      try clear p2
      try clear c4
      try clear c7
      try clear c7b0
      try clear c7b1
      obtain ⟨kq, x18_4, rfl, HA, HJ4, HB⟩ := hcut
      cases kq with
      | zero => exact absurd HA.out (by simp [boscagelaw02_LeafJoins.j0])
      | succ kj4 =>
        have H := HA.out
        clear HA
        simp only [boscagelaw02_LeafJoins.j0] at H
        by_cases c8 : x18_4 = true
        · subst c8
          have H1 : (some true) = some r := by rw [if_pos rfl] at H; exact H
          clear H
          have H := H1
          clear H1
          obtain rfl := Option.some.inj H
          go_wp2
          go_ret
          exact ⟨by first | rfl | (simp [errW_none, errW_some] <;> rfl) | (simp [*, errW_none, errW_some] <;> rfl), by repeat (first | (with_reducible first | exact HB.out | apply below_alloc | apply pw_below_drewN | apply below_drew1) | exact HB.out)⟩
        · replace c8 := Bool.eq_false_iff.mpr c8
          subst c8
          have H1 : ((leaf_Leaf_Join.f l0 l1).bind fun t517 => (if (t517.length : Int) = (wrap64 ((l0.length : Int) + (l1.length : Int))) then (if 0 ≤ (l0.length : Int) then (if (l0.length : Int) ≤ (t517.length : Int) then ((boscagelaw02_Same.f kj4 (t517.take ((l0.length : Int) : Int).toNat) l0).bind fun t524 => (if t524 = true then ((boscagelaw02_Same.f kj4 (t517.drop ((l0.length : Int) : Int).toNat) l1).bind fun t529 => (boscagelaw02_LeafJoins.j1 kj4 t517 (!t529))) else (boscagelaw02_LeafJoins.j1 kj4 t517 true))) else (none)) else (none)) else (boscagelaw02_LeafJoins.j1 kj4 t517 true))) = some r := by rw [if_neg (show ¬ (false = true) by decide)] at H; exact H
          clear H
          have H := H1
          clear H1
          replace H := Option.bind_eq_some_iff.mp H
          obtain ⟨t517, A90, H⟩ := H
          replace H : (if (t517.length : Int) = (wrap64 ((l0.length : Int) + (l1.length : Int))) then (if 0 ≤ (l0.length : Int) then (if (l0.length : Int) ≤ (t517.length : Int) then ((boscagelaw02_Same.f kj4 (t517.take ((l0.length : Int) : Int).toNat) l0).bind fun t524 => (if t524 = true then ((boscagelaw02_Same.f kj4 (t517.drop ((l0.length : Int) : Int).toNat) l1).bind fun t529 => (boscagelaw02_LeafJoins.j1 kj4 t517 (!t529))) else (boscagelaw02_LeafJoins.j1 kj4 t517 true))) else (none)) else (none)) else (boscagelaw02_LeafJoins.j1 kj4 t517 true)) = some r := H
          have A9 := Aside0.mk A90
          clear A90
          have HC10 := Aside0.mk H
          clear H
          go_upto_region 6 with (first | ((with_reducible refine gate_callee (f := 60) rfl ?_); refine goesL_ (some 21) rfl rfl Try.func60 (by kernel_rfl) rfl #[.slice A0 l0.length c0, .slice A1 l1.length c1] rfl (by (try simp only [List.map_toArray, List.map_cons, List.map_nil]); first | done | rfl | (simp only [List.length_drop, List.length_take]; rfl)) ?_; (with_reducible refine (leaf_Leaf_Join.calls _ _ l0 _ _ l1 t517 _ ?side1 ?side2 ?side3 ?side4 A9.out).mono ?_); (case side1 => repeat (first | exact (Kd.C_below HR0.out HB.out) | (with_reducible refine Kd.C_alloc ?_ _) | (with_reducible refine Kd.C_drewN ?_ _) | (with_reducible refine Kd.C_drew ?_))); (case side2 => exact HC0.out); (case side3 => repeat (first | exact (Kd.C_below HR1.out HB.out) | (with_reducible refine Kd.C_alloc ?_ _) | (with_reducible refine Kd.C_drewN ?_ _) | (with_reducible refine Kd.C_drew ?_))); (case side4 => exact HC1.out); rintro e w11 ⟨v518, rfl, ho0, hb⟩; refine ⟨_, rfl, ?_⟩; have n0_ := Aside0.mk (Kd.R_lower ho0 (below_size (by repeat (first | (with_reducible first | exact HB.out | apply below_alloc | apply pw_below_drewN | apply below_drew1) | exact HB.out)))); have n1_ := Aside0.mk (below_step (by repeat (first | (with_reducible first | exact HB.out | apply below_alloc | apply pw_below_drewN | apply below_drew1) | exact HB.out)) hb); clear HB; have HO519 := n0_; have HB := n1_; clear n0_ n1_; (try clear hb); (try clear hb2); (try clear hk); (try clear hi); (try clear ho0)))
          (try simp only [Act.put, List.setIfInBounds_toArray, List.set_cons_zero, List.set_cons_succ])
          go_cut [47] (fun v47 wc => ∃ (kq : Nat) (x47_9 : Bool), v47 = .bool x47_9 ∧ Aside0 (boscagelaw02_LeafJoins.j1 kq t517 x47_9 = some r) ∧ Aside0 (kq ≤ kj4) ∧ Aside0 (Kd.R k40 40 wc w.heap.size (fun _ => True) v518 t517) ∧ Aside0 (Below w.heap.size w wc))
          case first =>
            have H := HC10.out
            clear HC10
            by_cases c12 : (t517.length : Int) = (wrap64 ((l0.length : Int) + (l1.length : Int)))
            · rw [if_pos c12] at H
              have c12b0 : ((t517.length : Int) == (wrap64 ((l0.length : Int) + (l1.length : Int)))) = true := beq_iff_eq.mpr c12
              have c12b1 : ((t517.length : Int) != (wrap64 ((l0.length : Int) + (l1.length : Int)))) = false := bne_eq_false_iff_eq.mpr c12
              clear c12
              (first | rw [c12b0] | (simp only [i64_w, i32_w]; rw [c12b0]) | skip)
              by_cases c13 : 0 ≤ (l0.length : Int)
              · rw [if_pos c13] at H
                have c13b0 := eq_true c13
                have c13b1 : decide (0 ≤ (l0.length : Int)) = true := decide_eq_true c13
                clear c13
                by_cases c14 : (l0.length : Int) ≤ (t517.length : Int)
                · rw [if_pos c14] at H
                  have c14b0 := eq_true c14
                  have c14b1 : decide ((l0.length : Int) ≤ (t517.length : Int)) = true := decide_eq_true c14
                  clear c14
                  obtain ⟨y520, hy520⟩ : ∃ y_ : List (S40), y_ = (t517.take ((l0.length : Int) : Int).toNat) := ⟨_, rfl⟩
                  replace H : ((boscagelaw02_Same.f kj4 y520 l0).bind fun t524 => (if t524 = true then ((boscagelaw02_Same.f kj4 (t517.drop ((l0.length : Int) : Int).toNat) l1).bind fun t529 => (boscagelaw02_LeafJoins.j1 kj4 t517 (!t529))) else (boscagelaw02_LeafJoins.j1 kj4 t517 true))) = some r := by first | (rw [hy520]; with_reducible exact H) | (have H2_ := (Option.bind_some _ _).symm.trans H; rw [hy520]; with_reducible exact H2_) | (have H2_ := (Option.bind_some _ _).symm.trans H; with_reducible exact H2_) | with_reducible exact H | (rw [hy520]; exact H) | exact H
                  have Ny520 := Aside0.mk hy520
                  clear hy520
                  replace H := Option.bind_eq_some_iff.mp H
                  obtain ⟨t524, A150, H⟩ := H
                  replace H : (if t524 = true then ((boscagelaw02_Same.f kj4 (t517.drop ((l0.length : Int) : Int).toNat) l1).bind fun t529 => (boscagelaw02_LeafJoins.j1 kj4 t517 (!t529))) else (boscagelaw02_LeafJoins.j1 kj4 t517 true)) = some r := H
                  have A15 := Aside0.mk A150
                  clear A150
                  by_cases c16 : t524 = true
                  · subst c16
                    have H1 : ((boscagelaw02_Same.f kj4 (t517.drop ((l0.length : Int) : Int).toNat) l1).bind fun t529 => (boscagelaw02_LeafJoins.j1 kj4 t517 (!t529))) = some r := by rw [if_pos rfl] at H; exact H
                    clear H
                    have H := H1
                    clear H1
                    have c17b0 := eq_true (of_decide_eq_true (by first | (with_reducible assumption) | assumption) : 0 ≤ (l0.length : Int))
                    have c18b0 := eq_true (of_decide_eq_true (by first | (with_reducible assumption) | assumption) : (l0.length : Int) ≤ (t517.length : Int))
                    obtain ⟨y525, hy525⟩ : ∃ y_ : List (S40), y_ = (t517.drop ((l0.length : Int) : Int).toNat) := ⟨_, rfl⟩
                    replace H : ((boscagelaw02_Same.f kj4 y525 l1).bind fun t529 => (boscagelaw02_LeafJoins.j1 kj4 t517 (!t529))) = some r := by first | (rw [hy525]; with_reducible exact H) | (have H2_ := (Option.bind_some _ _).symm.trans H; rw [hy525]; with_reducible exact H2_) | (have H2_ := (Option.bind_some _ _).symm.trans H; with_reducible exact H2_) | with_reducible exact H | (rw [hy525]; exact H) | exact H
                    have Ny525 := Aside0.mk hy525
                    clear hy525
                    replace H := Option.bind_eq_some_iff.mp H
                    obtain ⟨t529, A190, H⟩ := H
                    replace H : (boscagelaw02_LeafJoins.j1 kj4 t517 (!t529)) = some r := H
                    have A19 := Aside0.mk A190
                    clear A190
                    have H' := Aside0.mk H
                    clear H
                    obtain ⟨Ao20, co20, eo20⟩ := Kd.R_slice HO519.out
                    subst eo20
                    have q21 : ((l0.length : Int) : Int) ≤ ((t517.length : Int) : Int) := of_decide_eq_true (by first | (with_reducible assumption) | assumption)
                    obtain ⟨i021, hi021, _, hsz21, _⟩ := info_parts info40
                    have hroom21 : t517.length ≤ co20 := (Kd.R_reads' HO519.out).2.1
                    have hC21 : Kd.C k40 _ Ao20 t517.length t517 := (Kd.R_reads' HO519.out).2.2
                    have hcut21 := cut_to (P := Try.prog) 34 40 .i64 Try.underlying34 hi021 Ao20 t517.length co20 (l0.length : Int) (of_decide_eq_true (by first | (with_reducible assumption) | assumption)) q21 hroom21
                    have hr21 := Kd.C_take (m := ((l0.length : Int) : Int).toNat) hC21 (by omega)
                    have hy21 : y520.length = ((l0.length : Int) : Int).toNat := (by rw [Ny520.out, List.length_take]; omega)
                    rw [← Ny520.out] at hr21
                    rw [← hy21] at hcut21
                    have HR523 := Aside0.mk hr21
                    have HC523 := Aside0.mk (show y520.length ≤ co20 from by omega)
                    clear hr21 hC21 hroom21 hi021 hsz21
                    have KY21 := Aside0.mk hy21
                    clear hy21
                    have KL21 := Aside0.mk (show ((l0.length : Int) : Int).toNat ≤ t517.length from by omega)
                    replace q21 := eq_true q21
                    go_wp2_with (first | (go_at_call 48; (with_reducible refine (boscagelaw02_Same.calls kj4 _ _ y520 _ _ l0 true _ ?side1 ?side2 ?side3 ?side4 A15.out).mono ?_); (case side1 => repeat (first | exact (by repeat (first | (with_reducible exact HR523.out) | (with_reducible refine Kd.C_alloc ?_ _) | (with_reducible refine Kd.C_drewN ?_ _) | (with_reducible refine Kd.C_drew ?_) | exact HR523.out)) | (with_reducible refine Kd.C_alloc ?_ _) | (with_reducible refine Kd.C_drewN ?_ _) | (with_reducible refine Kd.C_drew ?_))); (case side2 => exact HC523.out); (case side3 => repeat (first | exact (Kd.C_below HR0.out HB.out) | (with_reducible refine Kd.C_alloc ?_ _) | (with_reducible refine Kd.C_drewN ?_ _) | (with_reducible refine Kd.C_drew ?_))); (case side4 => exact HC0.out); rintro e w' ⟨rfl, ⟨nd, rfl⟩⟩; have q22 : ((l0.length : Int) : Int) ≤ ((t517.length : Int) : Int) := of_decide_eq_true (by first | (with_reducible assumption) | assumption); obtain ⟨i022, hi022, _, hsz22, _⟩ := info_parts info40; have hroom22 : t517.length ≤ co20 := (Kd.R_reads' HO519.out).2.1; have hC22 : Kd.C k40 _ Ao20 t517.length t517 := (Kd.R_reads' HO519.out).2.2; have q022 : (0 : Int) ≤ ((l0.length : Int) : Int) := of_decide_eq_true (by first | (with_reducible assumption) | assumption); have hcut22 := cut_from (P := Try.prog) 34 40 .i64 Try.underlying34 hi022 2 hsz22 Ao20 t517.length co20 (l0.length : Int) q022 q22; have hr22 := Kd.C_drop (m := ((l0.length : Int) : Int).toNat) (c := co20) hC22 (by omega) hroom22; obtain ⟨A22, hA22⟩ : ∃ A1, A1 = (if co20 = ((l0.length : Int) : Int).toNat then Ao20 else (Ao20 : Option Addr).map (·.add (((l0.length : Int) : Int).toNat * 2))) := ⟨_, rfl⟩; obtain ⟨c22, hc22⟩ : ∃ c1, c1 = co20 - ((l0.length : Int) : Int).toNat := ⟨_, rfl⟩; have hy22 : y525.length = t517.length - ((l0.length : Int) : Int).toNat := (by rw [Ny525.out, List.length_drop] <;> omega); rw [show (t517).drop ((l0.length : Int) : Int).toNat = y525 from Ny525.out.symm] at hr22; replace hr22 : Kd.C k40 _ A22 y525.length y525 := (by rw [hA22]; exact hr22); rw [← hy22, ← hA22, ← hc22] at hcut22; have HR528 := Aside0.mk hr22; have HC528 := Aside0.mk (show y525.length ≤ c22 from by rw [hy22, hc22]; exact Nat.sub_le_sub_right hroom22 _); clear hr22 hC22 hroom22 hi022 hsz22 hc22; have KY22 := Aside0.mk hy22; have KA22 := Aside0.mk hA22; clear hy22 hA22; have KL22 := Aside0.mk (show ((l0.length : Int) : Int).toNat ≤ t517.length from by omega); replace q22 := eq_true q22) | (go_at_call 48; (with_reducible refine (boscagelaw02_Same.calls kj4 _ _ y525 _ _ l1 t529 _ ?side1 ?side2 ?side3 ?side4 A19.out).mono ?_); (case side1 => repeat (first | exact (by repeat (first | (with_reducible exact HR528.out) | (with_reducible refine Kd.C_alloc ?_ _) | (with_reducible refine Kd.C_drewN ?_ _) | (with_reducible refine Kd.C_drew ?_) | exact HR528.out)) | (with_reducible refine Kd.C_alloc ?_ _) | (with_reducible refine Kd.C_drewN ?_ _) | (with_reducible refine Kd.C_drew ?_))); (case side2 => exact HC528.out); (case side3 => repeat (first | exact (Kd.C_below HR1.out (by repeat (first | (with_reducible first | exact HB.out | apply below_alloc | apply pw_below_drewN | apply below_drew1) | exact HB.out))) | (with_reducible refine Kd.C_alloc ?_ _) | (with_reducible refine Kd.C_drewN ?_ _) | (with_reducible refine Kd.C_drew ?_))); (case side4 => exact HC1.out); rintro e w' ⟨rfl, ⟨nd, rfl⟩⟩))
                    go_meet
                    case rel => exact ⟨_, (!t529), (by first | rfl | (simp; done) | (simp [*]; done)), H', ⟨by have := HJ4.out; first | omega | exact Nat.le_refl _⟩, ⟨by (with_reducible repeat (first | apply Kd.R_alloc | apply Kd.R_drewN | apply Kd.R_drew)); exact HO519.out⟩, ⟨by repeat (first | (with_reducible first | exact HB.out | apply below_alloc | apply pw_below_drewN | apply below_drew1) | exact HB.out)⟩⟩
                  · replace c16 := Bool.eq_false_iff.mpr c16
                    subst c16
                    have H1 : (boscagelaw02_LeafJoins.j1 kj4 t517 true) = some r := by rw [if_neg (show ¬ (false = true) by decide)] at H; exact H
                    clear H
                    have H := H1
                    clear H1
                    have H' := Aside0.mk H
                    clear H
                    obtain ⟨Ao23, co23, eo23⟩ := Kd.R_slice HO519.out
                    subst eo23
                    have q24 : ((l0.length : Int) : Int) ≤ ((t517.length : Int) : Int) := of_decide_eq_true (by first | (with_reducible assumption) | assumption)
                    obtain ⟨i024, hi024, _, hsz24, _⟩ := info_parts info40
                    have hroom24 : t517.length ≤ co23 := (Kd.R_reads' HO519.out).2.1
                    have hC24 : Kd.C k40 _ Ao23 t517.length t517 := (Kd.R_reads' HO519.out).2.2
                    have hcut24 := cut_to (P := Try.prog) 34 40 .i64 Try.underlying34 hi024 Ao23 t517.length co23 (l0.length : Int) (of_decide_eq_true (by first | (with_reducible assumption) | assumption)) q24 hroom24
                    have hr24 := Kd.C_take (m := ((l0.length : Int) : Int).toNat) hC24 (by omega)
                    have hy24 : y520.length = ((l0.length : Int) : Int).toNat := (by rw [Ny520.out, List.length_take]; omega)
                    rw [← Ny520.out] at hr24
                    rw [← hy24] at hcut24
                    have HR523 := Aside0.mk hr24
                    have HC523 := Aside0.mk (show y520.length ≤ co23 from by omega)
                    clear hr24 hC24 hroom24 hi024 hsz24
                    have KY24 := Aside0.mk hy24
                    clear hy24
                    have KL24 := Aside0.mk (show ((l0.length : Int) : Int).toNat ≤ t517.length from by omega)
                    replace q24 := eq_true q24
                    go_wp2_with (first | (go_at_call 48; (with_reducible refine (boscagelaw02_Same.calls kj4 _ _ y520 _ _ l0 false _ ?side1 ?side2 ?side3 ?side4 A15.out).mono ?_); (case side1 => repeat (first | exact (by repeat (first | (with_reducible exact HR523.out) | (with_reducible refine Kd.C_alloc ?_ _) | (with_reducible refine Kd.C_drewN ?_ _) | (with_reducible refine Kd.C_drew ?_) | exact HR523.out)) | (with_reducible refine Kd.C_alloc ?_ _) | (with_reducible refine Kd.C_drewN ?_ _) | (with_reducible refine Kd.C_drew ?_))); (case side2 => exact HC523.out); (case side3 => repeat (first | exact (Kd.C_below HR0.out HB.out) | (with_reducible refine Kd.C_alloc ?_ _) | (with_reducible refine Kd.C_drewN ?_ _) | (with_reducible refine Kd.C_drew ?_))); (case side4 => exact HC0.out); rintro e w' ⟨rfl, ⟨nd, rfl⟩⟩))
                    go_meet
                    case rel => exact ⟨_, (true), (by first | rfl | (simp; done) | (simp [*]; done)), H', ⟨by have := HJ4.out; first | omega | exact Nat.le_refl _⟩, ⟨by (with_reducible repeat (first | apply Kd.R_alloc | apply Kd.R_drewN | apply Kd.R_drew)); exact HO519.out⟩, ⟨by repeat (first | (with_reducible first | exact HB.out | apply below_alloc | apply pw_below_drewN | apply below_drew1) | exact HB.out)⟩⟩
                · rw [if_neg c14] at H
                  exact absurd H (by simp)
              · rw [if_neg c13] at H
                exact absurd H (by simp)
            · rw [if_neg c12] at H
              have c12b0 : ((t517.length : Int) == (wrap64 ((l0.length : Int) + (l1.length : Int)))) = false := beq_eq_false_iff_ne.mpr c12
              have c12b1 : ((t517.length : Int) != (wrap64 ((l0.length : Int) + (l1.length : Int)))) = true := bne_iff_ne.mpr c12
              (first | rw [c12b0] | (simp only [i64_w, i32_w]; rw [c12b0]) | skip)
              have H' := Aside0.mk H
              clear H
              obtain ⟨Ao25, co25, eo25⟩ := Kd.R_slice HO519.out
              subst eo25
              go_wp2
              go_meet
              case rel => exact ⟨_, (true), (by first | rfl | (simp; done) | (simp [*]; done)), H', ⟨by have := HJ4.out; first | omega | exact Nat.le_refl _⟩, ⟨by (with_reducible repeat (first | apply Kd.R_alloc | apply Kd.R_drewN | apply Kd.R_drew)); exact HO519.out⟩, ⟨by repeat (first | (with_reducible first | exact HB.out | apply below_alloc | apply pw_below_drewN | apply below_drew1) | exact HB.out)⟩⟩
          case rest =>
            clear HC10
            try clear c1
            try clear c2
            try clear p2
            try clear q2
            try clear c4
            try clear c6
            try clear p6
            try clear c7
            try clear c7b0
            try clear c7b1
            try clear c8
            try clear c11
            try clear c12
            try clear c12b0
            try clear c12b1
            try clear c13
            try clear c13b0
            try clear c13b1
            try clear c14
            try clear c14b0
            try clear c14b1
            try clear c16
            try clear c17
            try clear c17b0
            try clear c18
            try clear c18b0
            try clear q21
            try clear c22
            try clear q22
            try clear q24
            try clear p2
            try clear q022
            try clear q21
            try clear q22
            try clear q24
            obtain ⟨kq, x47_9, rfl, HA, HJ9, HO_5, HB⟩ := hcut
            cases kq with
            | zero => exact absurd HA.out (by simp [boscagelaw02_LeafJoins.j1])
            | succ kj9 =>
              have H := HA.out
              clear HA
              simp only [boscagelaw02_LeafJoins.j1] at H
              by_cases c26 : x47_9 = true
              · subst c26
                have H1 : (some false) = some r := by rw [if_pos rfl] at H; exact H
                clear H
                have H := H1
                clear H1
                obtain rfl := Option.some.inj H
                go_wp2
                go_ret
                exact ⟨by first | rfl | (simp [errW_none, errW_some] <;> rfl) | (simp [*, errW_none, errW_some] <;> rfl), by repeat (first | (with_reducible first | exact HB.out | apply below_alloc | apply pw_below_drewN | apply below_drew1) | exact HB.out)⟩
              · replace c26 := Bool.eq_false_iff.mpr c26
                subst c26
                have H1 : ((leaf_Leaf_Halves.f t517).bind fun bt530 => ((leaf_Leaf_Join.f bt530.1 bt530.2.1).bind fun t537 => ((boscagelaw02_Same.f kj9 t537 t517).bind fun t540 => (some t540)))) = some r := by rw [if_neg (show ¬ (false = true) by decide)] at H; exact H
                clear H
                have H := H1
                clear H1
                replace H := Option.bind_eq_some_iff.mp H
                obtain ⟨⟨t530, t531, t532⟩, A270, H⟩ := H
                replace H : ((leaf_Leaf_Join.f t530 t531).bind fun t537 => ((boscagelaw02_Same.f kj9 t537 t517).bind fun t540 => (some t540))) = some r := H
                have A27 := Aside0.mk A270
                clear A270
                replace H := Option.bind_eq_some_iff.mp H
                obtain ⟨t537, A280, H⟩ := H
                replace H : ((boscagelaw02_Same.f kj9 t537 t517).bind fun t540 => (some t540)) = some r := H
                have A28 := Aside0.mk A280
                clear A280
                replace H := Option.bind_eq_some_iff.mp H
                obtain ⟨t540, A290, H⟩ := H
                replace H : (some t540) = some r := H
                have A29 := Aside0.mk A290
                clear A290
                obtain rfl := Option.some.inj H
                obtain ⟨Ao30, co30, eo30⟩ := Kd.R_slice HO_5.out
                subst eo30
                go_wp2_with (first | ((with_reducible refine gate_callee (f := 47) rfl ?_); refine goesL_ (some 50) rfl rfl Try.func47 (by kernel_rfl) rfl #[.slice Ao30 t517.length co30] rfl (by (try simp only [List.map_toArray, List.map_cons, List.map_nil]); first | done | rfl | (simp only [List.length_drop, List.length_take]; rfl)) ?_; (with_reducible refine (leaf_Leaf_Halves.calls _ _ t517 t530 t531 t532 _ ?side1 ?side2 A27.out).mono ?_); (case side1 => repeat (first | exact (Kd.R_reads' HO_5.out).2.2 | (with_reducible refine Kd.C_alloc ?_ _) | (with_reducible refine Kd.C_drewN ?_ _) | (with_reducible refine Kd.C_drew ?_))); (case side2 => exact (Kd.R_reads' HO_5.out).2.1); rintro e w31 ⟨v533, v535, rfl, ho0, ho1, hb⟩; refine ⟨_, rfl, ?_⟩; have n0_ := Aside0.mk (Kd.R_mono (Kd.R_told (Kd.R_told (Kd.R_old (by (with_reducible repeat (first | apply Kd.R_alloc | apply Kd.R_drewN | apply Kd.R_drew)); exact HO_5.out) hb) (Kd.R_base ho0)) (Kd.R_base ho1)) (fun _ h_ => h_.1)); have n1_ := Aside0.mk (Kd.R_lower (Kd.R_new' ho0 (Kd.R_lt (by (with_reducible repeat (first | apply Kd.R_alloc | apply Kd.R_drewN | apply Kd.R_drew)); exact HO_5.out))) (below_size (by repeat (first | (with_reducible first | exact HB.out | apply below_alloc | apply pw_below_drewN | apply below_drew1) | exact HB.out)))); have n2_ := Aside0.mk (Kd.R_lower (Kd.R_new' ho1 (Kd.R_lt (by (with_reducible repeat (first | apply Kd.R_alloc | apply Kd.R_drewN | apply Kd.R_drew)); exact HO_5.out))) (below_size (by repeat (first | (with_reducible first | exact HB.out | apply below_alloc | apply pw_below_drewN | apply below_drew1) | exact HB.out)))); have n3_ := Aside0.mk (below_step (by repeat (first | (with_reducible first | exact HB.out | apply below_alloc | apply pw_below_drewN | apply below_drew1) | exact HB.out)) hb); clear HO_5; clear HB; have HO_5 := n0_; have HO534 := n1_; have HO536 := n2_; have HB := n3_; clear n0_ n1_ n2_ n3_; (try clear hb); (try clear hb2); (try clear hk); (try clear hi); (try clear ho0); (try clear ho1); obtain ⟨Ao32, co32, eo32⟩ := Kd.R_slice HO534.out; subst eo32; obtain ⟨Ao33, co33, eo33⟩ := Kd.R_slice HO536.out; subst eo33) | ((with_reducible refine gate_callee (f := 60) rfl ?_); refine goesL_ (some 56) rfl rfl Try.func60 (by kernel_rfl) rfl #[.slice Ao32 t530.length co32, .slice Ao33 t531.length co33] rfl (by (try simp only [List.map_toArray, List.map_cons, List.map_nil]); first | done | rfl | (simp only [List.length_drop, List.length_take]; rfl)) ?_; (with_reducible refine (leaf_Leaf_Join.calls _ _ t530 _ _ t531 t537 _ ?side1 ?side2 ?side3 ?side4 A28.out).mono ?_); (case side1 => repeat (first | exact (Kd.R_reads' HO534.out).2.2 | (with_reducible refine Kd.C_alloc ?_ _) | (with_reducible refine Kd.C_drewN ?_ _) | (with_reducible refine Kd.C_drew ?_))); (case side2 => exact (Kd.R_reads' HO534.out).2.1); (case side3 => repeat (first | exact (Kd.R_reads' HO536.out).2.2 | (with_reducible refine Kd.C_alloc ?_ _) | (with_reducible refine Kd.C_drewN ?_ _) | (with_reducible refine Kd.C_drew ?_))); (case side4 => exact (Kd.R_reads' HO536.out).2.1); rintro e w34 ⟨v538, rfl, ho0, hb⟩; refine ⟨_, rfl, ?_⟩; have n0_ := Aside0.mk (Kd.R_elder' (by (with_reducible repeat (first | apply Kd.R_alloc | apply Kd.R_drewN | apply Kd.R_drew)); exact HO_5.out) (Kd.R_base ho0) hb); have n1_ := Aside0.mk (Kd.R_elder' (by (with_reducible repeat (first | apply Kd.R_alloc | apply Kd.R_drewN | apply Kd.R_drew)); exact HO534.out) (Kd.R_base ho0) hb); have n2_ := Aside0.mk (Kd.R_elder' (by (with_reducible repeat (first | apply Kd.R_alloc | apply Kd.R_drewN | apply Kd.R_drew)); exact HO536.out) (Kd.R_base ho0) hb); have n3_ := Aside0.mk (Kd.R_lower (Kd.R_new' (Kd.R_new' (Kd.R_new' ho0 (Kd.R_lt (by (with_reducible repeat (first | apply Kd.R_alloc | apply Kd.R_drewN | apply Kd.R_drew)); exact HO_5.out))) (Kd.R_lt (by (with_reducible repeat (first | apply Kd.R_alloc | apply Kd.R_drewN | apply Kd.R_drew)); exact HO534.out))) (Kd.R_lt (by (with_reducible repeat (first | apply Kd.R_alloc | apply Kd.R_drewN | apply Kd.R_drew)); exact HO536.out))) (below_size (by repeat (first | (with_reducible first | exact HB.out | apply below_alloc | apply pw_below_drewN | apply below_drew1) | exact HB.out)))); have n4_ := Aside0.mk (below_step (by repeat (first | (with_reducible first | exact HB.out | apply below_alloc | apply pw_below_drewN | apply below_drew1) | exact HB.out)) hb); clear HO_5; clear HO534; clear HO536; clear HB; have HO_5 := n0_; have HO534 := n1_; have HO536 := n2_; have HO539 := n3_; have HB := n4_; clear n0_ n1_ n2_ n3_ n4_; (try clear hb); (try clear hb2); (try clear hk); (try clear hi); (try clear ho0); obtain ⟨Ao35, co35, eo35⟩ := Kd.R_slice HO539.out; subst eo35) | ((with_reducible refine gate_callee (f := 48) rfl ?_); refine goesL_ (some 58) rfl rfl Try.func48 (by kernel_rfl) rfl #[.slice Ao35 t537.length co35, .slice Ao30 t517.length co30] rfl (by (try simp only [List.map_toArray, List.map_cons, List.map_nil]); first | done | rfl | (simp only [List.length_drop, List.length_take]; rfl)) ?_; (with_reducible refine (boscagelaw02_Same.calls kj9 _ _ t537 _ _ t517 t540 _ ?side1 ?side2 ?side3 ?side4 A29.out).mono ?_); (case side1 => repeat (first | exact (Kd.R_reads' HO539.out).2.2 | (with_reducible refine Kd.C_alloc ?_ _) | (with_reducible refine Kd.C_drewN ?_ _) | (with_reducible refine Kd.C_drew ?_))); (case side2 => exact (Kd.R_reads' HO539.out).2.1); (case side3 => repeat (first | exact (Kd.R_reads' HO_5.out).2.2 | (with_reducible refine Kd.C_alloc ?_ _) | (with_reducible refine Kd.C_drewN ?_ _) | (with_reducible refine Kd.C_drew ?_))); (case side4 => exact (Kd.R_reads' HO_5.out).2.1); rintro e w' ⟨rfl, ⟨nd, rfl⟩⟩; refine ⟨_, rfl, ?_⟩))
                go_ret
                exact ⟨by first | rfl | (simp [errW_none, errW_some] <;> rfl) | (simp [*, errW_none, errW_some] <;> rfl), by repeat (first | (with_reducible first | exact HB.out | apply below_alloc | apply pw_below_drewN | apply below_drew1) | exact HB.out)⟩
  · replace c4 := Bool.eq_false_iff.mpr c4
    subst c4
    have H1 : (some false) = some r := by rw [if_neg (show ¬ (false = true) by decide)] at H; exact H
    clear H
    have H := H1
    clear H1
    obtain rfl := Option.some.inj H
    go_enter Try.func11, Try.ntmps11
    go_wp2_with (first | ((with_reducible refine gate_callee (f := 43) rfl ?_); refine goesL_ (some 9) rfl rfl Try.func43 (by kernel_rfl) rfl #[] rfl (by (try simp only [List.map_toArray, List.map_cons, List.map_nil]); first | done | rfl | (simp only [List.length_drop, List.length_take]; rfl)) ?_; (with_reducible refine (boscagelaw02_Awake.calls  false _ A3.out).mono ?_); rintro e w36 ⟨rfl, hb⟩; refine ⟨_, rfl, ?_⟩; have n0_ := Aside0.mk (below_step (by repeat (first | (with_reducible first | exact HB.out | apply below_alloc | apply pw_below_drewN | apply below_drew1) | exact HB.out)) hb); clear HB; have HB := n0_; clear n0_; (try clear hb); (try clear hb2); (try clear hk); (try clear hi)))
    go_ret
    exact ⟨by first | rfl | (simp [errW_none, errW_some] <;> rfl) | (simp [*, errW_none, errW_some] <;> rfl), by repeat (first | (with_reducible first | exact HB.out | apply below_alloc | apply pw_below_drewN | apply below_drew1) | exact HB.out)⟩

end Go.Proofs.Ytkoiffkonjpoiaa.Q
