/- Go functions of the program as plain Lean functions, and for each the contract that the call comes to its answers; written by a turned print of this session. -/
import Derived.Test.YtkoiffkonjpoiaaQ0
import Derived.Test.YtkoiffkonjpoiaaQA1
import Derived.Test.YtkoiffkonjpoiaaQA2
import Derived.Test.YtkoiffkonjpoiaaQA3
namespace Go.Proofs.Ytkoiffkonjpoiaa.Q
open Go.RowKit Go.Proofs.YtkoiffkonjpoiaaW.PrintWords Go.Proofs.YtkoiffkonjpoiaaW.PrintLast Go.Proofs.YtkoiffkonjpoiaaW.PrintMore Go.Proofs.YtkoiffkonjpoiaaX
attribute [local go_sem] max2_int min2_int max_two min_two max_three min_three max_four min_four   -- for this text's walks alone
set_option linter.unusedVariables false
set_option linter.unusedSimpArgs false

/-! ### boscagelaw02_LeafCuts: function 14 -/
def boscagelaw02_LeafCuts.j0 : Nat → Int → List (S40) → List (S40) → Bool → Option (Bool)
  | 0, _, _, _, _ => none
  | k + 1, x1, x5, x7, x50 => if x50 = true then (some false) else ((boscagelaw02_Cut.f k x5 x1).bind fun t603 => ((boscagelaw02_Same.f k x7 t603).bind fun t606 => (some t606)))
def boscagelaw02_LeafCuts.f (k : Nat) (l0 : List Int) (a1 : Int) : Option (Bool) := (boscagelaw02_Awake.f).bind fun t592 => (if t592 = true then (if (l0.length : Int) > 60 then (some true) else ((boscagelaw02_Rising.f k l0).bind fun t593 => ((boscagelaw02_Find.f k t593 a1).bind fun t596 => ((leaf_Leaf_Cut.f t593 a1).bind fun bt597 => (if (bt597.2.2 != (decide (t596 ≥ 0))) = true then (boscagelaw02_LeafCuts.j0 k a1 t593 bt597.1 true) else (if bt597.2.2 = true then (if 0 ≤ t596 then (if t596 < (t593.length : Int) then (if bt597.2.1 = ((rd_T40 t593 t596).f1) then (boscagelaw02_LeafCuts.j0 k a1 t593 bt597.1 false) else (boscagelaw02_LeafCuts.j0 k a1 t593 bt597.1 true)) else (none)) else (none)) else (boscagelaw02_LeafCuts.j0 k a1 t593 bt597.1 (bt597.2.1 != 0)))))))) else (some false))
theorem boscagelaw02_LeafCuts.mono_l : ∀ k, (∀ y0 y1 y2 y3, LeO (boscagelaw02_LeafCuts.j0 k y0 y1 y2 y3) (boscagelaw02_LeafCuts.j0 (k + 1) y0 y1 y2 y3))
  | 0 => fun _ _ _ _ r h => by simp [boscagelaw02_LeafCuts.j0] at h
  | k + 1 => by
    have ih0 := boscagelaw02_LeafCuts.mono_l k
    · intro y0 y1 y2 y3
      unfold boscagelaw02_LeafCuts.j0
      repeat' first
      | (with_reducible exact ih0 _ _ _ _)
      | (with_reducible exact boscagelaw02_Cut.mono _ _ _)
      | (with_reducible exact boscagelaw02_Find.mono _ _ _)
      | (with_reducible exact boscagelaw02_Rising.mono _ _)
      | (with_reducible exact boscagelaw02_Same.mono _ _ _)
      | (with_reducible exact LeO.refl _)
      | (with_reducible exact LeO.none _)
      | (with_reducible refine LeO.ite ?_ ?_)
      | (with_reducible refine LeO.bind ?_ (fun _ => ?_))
      | exact ih0 _ _ _ _
      | exact boscagelaw02_Cut.mono _ _ _
      | exact boscagelaw02_Find.mono _ _ _
      | exact boscagelaw02_Rising.mono _ _
      | exact boscagelaw02_Same.mono _ _ _
      | exact LeO.none _
      | refine LeO.ite ?_ ?_
      | refine LeO.bind ?_ (fun _ => ?_)
theorem boscagelaw02_LeafCuts.mono : ∀ a0 a1 k, LeO (boscagelaw02_LeafCuts.f k a0 a1) (boscagelaw02_LeafCuts.f (k + 1) a0 a1) := by
  intro a0 a1 k
  have ih0 := boscagelaw02_LeafCuts.mono_l k
  unfold boscagelaw02_LeafCuts.f
  repeat' first
      | (with_reducible exact ih0 _ _ _ _)
      | (with_reducible exact boscagelaw02_Cut.mono _ _ _)
      | (with_reducible exact boscagelaw02_Find.mono _ _ _)
      | (with_reducible exact boscagelaw02_Rising.mono _ _)
      | (with_reducible exact boscagelaw02_Same.mono _ _ _)
      | (with_reducible exact LeO.refl _)
      | (with_reducible exact LeO.none _)
      | (with_reducible refine LeO.ite ?_ ?_)
      | (with_reducible refine LeO.bind ?_ (fun _ => ?_))
      | exact ih0 _ _ _ _
      | exact boscagelaw02_Cut.mono _ _ _
      | exact boscagelaw02_Find.mono _ _ _
      | exact boscagelaw02_Rising.mono _ _
      | exact boscagelaw02_Same.mono _ _ _
      | exact LeO.none _
      | refine LeO.ite ?_ ?_
      | refine LeO.bind ?_ (fun _ => ?_)
set_option maxHeartbeats 8000000 in
set_option maxRecDepth 100000 in
theorem boscagelaw02_LeafCuts.calls (k : Nat) (A0 : Option Addr) (c0 : Nat) (l0 : List Int) (a1 : Int) (r : Bool) (w : World) (hr0 : Kd.C (Kd.int .i64) w A0 l0.length l0) (hc0 : l0.length ≤ c0) (h : boscagelaw02_LeafCuts.f k l0 a1 = some r) :
    Calls Try.prog 14 #[.slice A0 l0.length c0, .int .i64 a1] w fun e w' => e = .returned (.bool r) ∧ Below w.heap.size w w' := by
  have HR0 := Aside0.mk hr0
  have HC0 := Aside0.mk hc0
  clear hr0 hc0
  have HB := Aside0.mk (Below.refl w.heap.size w)
  have H : ((boscagelaw02_Awake.f).bind fun t592 => (if t592 = true then (if (l0.length : Int) > 60 then (some true) else ((boscagelaw02_Rising.f k l0).bind fun t593 => ((boscagelaw02_Find.f k t593 a1).bind fun t596 => ((leaf_Leaf_Cut.f t593 a1).bind fun bt597 => (if (bt597.2.2 != (decide (t596 ≥ 0))) = true then (boscagelaw02_LeafCuts.j0 k a1 t593 bt597.1 true) else (if bt597.2.2 = true then (if 0 ≤ t596 then (if t596 < (t593.length : Int) then (if bt597.2.1 = ((rd_T40 t593 t596).f1) then (boscagelaw02_LeafCuts.j0 k a1 t593 bt597.1 false) else (boscagelaw02_LeafCuts.j0 k a1 t593 bt597.1 true)) else (none)) else (none)) else (boscagelaw02_LeafCuts.j0 k a1 t593 bt597.1 (bt597.2.1 != 0)))))))) else (some false))) = some r := h
  clear h
  replace H := Option.bind_eq_some_iff.mp H
  obtain ⟨t592, A30, H⟩ := H
  replace H : (if t592 = true then (if (l0.length : Int) > 60 then (some true) else ((boscagelaw02_Rising.f k l0).bind fun t593 => ((boscagelaw02_Find.f k t593 a1).bind fun t596 => ((leaf_Leaf_Cut.f t593 a1).bind fun bt597 => (if (bt597.2.2 != (decide (t596 ≥ 0))) = true then (boscagelaw02_LeafCuts.j0 k a1 t593 bt597.1 true) else (if bt597.2.2 = true then (if 0 ≤ t596 then (if t596 < (t593.length : Int) then (if bt597.2.1 = ((rd_T40 t593 t596).f1) then (boscagelaw02_LeafCuts.j0 k a1 t593 bt597.1 false) else (boscagelaw02_LeafCuts.j0 k a1 t593 bt597.1 true)) else (none)) else (none)) else (boscagelaw02_LeafCuts.j0 k a1 t593 bt597.1 (bt597.2.1 != 0)))))))) else (some false)) = some r := H
  have A3 := Aside0.mk A30
  clear A30
  by_cases c4 : t592 = true
  · subst c4
    have H1 : (if (l0.length : Int) > 60 then (some true) else ((boscagelaw02_Rising.f k l0).bind fun t593 => ((boscagelaw02_Find.f k t593 a1).bind fun t596 => ((leaf_Leaf_Cut.f t593 a1).bind fun bt597 => (if (bt597.2.2 != (decide (t596 ≥ 0))) = true then (boscagelaw02_LeafCuts.j0 k a1 t593 bt597.1 true) else (if bt597.2.2 = true then (if 0 ≤ t596 then (if t596 < (t593.length : Int) then (if bt597.2.1 = ((rd_T40 t593 t596).f1) then (boscagelaw02_LeafCuts.j0 k a1 t593 bt597.1 false) else (boscagelaw02_LeafCuts.j0 k a1 t593 bt597.1 true)) else (none)) else (none)) else (boscagelaw02_LeafCuts.j0 k a1 t593 bt597.1 (bt597.2.1 != 0)))))))) = some r := by rw [if_pos rfl] at H; exact H
    clear H
    have H := H1
    clear H1
    by_cases c5 : (l0.length : Int) > 60
    · rw [if_pos c5] at H
      have c5b0 : decide (60 < (l0.length : Int)) = true := decide_eq_true c5
      have c5b1 : decide (60 < l0.length) = true := decide_eq_true (by omega)
      clear c5
      obtain rfl := Option.some.inj H
      go_enter Try.func14, Try.ntmps14
      go_wp2_with (first | ((with_reducible refine gate_callee (f := 43) rfl ?_); refine goesL_ (some 10) rfl rfl Try.func43 (by kernel_rfl) rfl #[] rfl (by (try simp only [List.map_toArray, List.map_cons, List.map_nil]); first | done | rfl | (simp only [List.length_drop, List.length_take]; rfl)) ?_; (with_reducible refine (boscagelaw02_Awake.calls  true _ A3.out).mono ?_); rintro e w6 ⟨rfl, hb⟩; refine ⟨_, rfl, ?_⟩; have n0_ := Aside0.mk (below_step (by repeat (first | (with_reducible first | exact HB.out | apply below_alloc | apply pw_below_drewN | apply below_drew1) | exact HB.out)) hb); clear HB; have HB := n0_; clear n0_; (try clear hb); (try clear hb2); (try clear hk); (try clear hi)))
      go_ret
      exact ⟨by first | rfl | (simp [errW_none, errW_some] <;> rfl) | (simp [*, errW_none, errW_some] <;> rfl), by repeat (first | (with_reducible first | exact HB.out | apply below_alloc | apply pw_below_drewN | apply below_drew1) | exact HB.out)⟩
    · rw [if_neg c5] at H
      have c5b0 : decide (60 < (l0.length : Int)) = false := decide_eq_false c5
      have c5b1 : decide (60 < l0.length) = false := decide_eq_false (by omega)
      clear c5
      replace H := Option.bind_eq_some_iff.mp H
      obtain ⟨t593, A70, H⟩ := H
      replace H : ((boscagelaw02_Find.f k t593 a1).bind fun t596 => ((leaf_Leaf_Cut.f t593 a1).bind fun bt597 => (if (bt597.2.2 != (decide (t596 ≥ 0))) = true then (boscagelaw02_LeafCuts.j0 k a1 t593 bt597.1 true) else (if bt597.2.2 = true then (if 0 ≤ t596 then (if t596 < (t593.length : Int) then (if bt597.2.1 = ((rd_T40 t593 t596).f1) then (boscagelaw02_LeafCuts.j0 k a1 t593 bt597.1 false) else (boscagelaw02_LeafCuts.j0 k a1 t593 bt597.1 true)) else (none)) else (none)) else (boscagelaw02_LeafCuts.j0 k a1 t593 bt597.1 (bt597.2.1 != 0)))))) = some r := H
      have A7 := Aside0.mk A70
      clear A70
      replace H := Option.bind_eq_some_iff.mp H
      obtain ⟨t596, A80, H⟩ := H
      replace H : ((leaf_Leaf_Cut.f t593 a1).bind fun bt597 => (if (bt597.2.2 != (decide (t596 ≥ 0))) = true then (boscagelaw02_LeafCuts.j0 k a1 t593 bt597.1 true) else (if bt597.2.2 = true then (if 0 ≤ t596 then (if t596 < (t593.length : Int) then (if bt597.2.1 = ((rd_T40 t593 t596).f1) then (boscagelaw02_LeafCuts.j0 k a1 t593 bt597.1 false) else (boscagelaw02_LeafCuts.j0 k a1 t593 bt597.1 true)) else (none)) else (none)) else (boscagelaw02_LeafCuts.j0 k a1 t593 bt597.1 (bt597.2.1 != 0))))) = some r := H
      have A8 := Aside0.mk A80
      clear A80
      replace H := Option.bind_eq_some_iff.mp H
      obtain ⟨⟨t597, t598, t599⟩, A90, H⟩ := H
      replace H : (if (t599 != (decide (t596 ≥ 0))) = true then (boscagelaw02_LeafCuts.j0 k a1 t593 t597 true) else (if t599 = true then (if 0 ≤ t596 then (if t596 < (t593.length : Int) then (if t598 = ((rd_T40 t593 t596).f1) then (boscagelaw02_LeafCuts.j0 k a1 t593 t597 false) else (boscagelaw02_LeafCuts.j0 k a1 t593 t597 true)) else (none)) else (none)) else (boscagelaw02_LeafCuts.j0 k a1 t593 t597 (t598 != 0)))) = some r := H
      have A9 := Aside0.mk A90
      clear A90
      have HC10 := Aside0.mk H
      clear H
      go_enter Try.func14, Try.ntmps14
      go_upto_region 8 with (first | ((with_reducible refine gate_callee (f := 43) rfl ?_); refine goesL_ (some 10) rfl rfl Try.func43 (by kernel_rfl) rfl #[] rfl (by (try simp only [List.map_toArray, List.map_cons, List.map_nil]); first | done | rfl | (simp only [List.length_drop, List.length_take]; rfl)) ?_; (with_reducible refine (boscagelaw02_Awake.calls  true _ A3.out).mono ?_); rintro e w11 ⟨rfl, hb⟩; refine ⟨_, rfl, ?_⟩; have n0_ := Aside0.mk (below_step (by repeat (first | (with_reducible first | exact HB.out | apply below_alloc | apply pw_below_drewN | apply below_drew1) | exact HB.out)) hb); clear HB; have HB := n0_; clear n0_; (try clear hb); (try clear hb2); (try clear hk); (try clear hi)) | ((with_reducible refine gate_callee (f := 44) rfl ?_); refine goesL_ (some 16) rfl rfl Try.func44 (by kernel_rfl) rfl #[.slice A0 l0.length c0] rfl (by (try simp only [List.map_toArray, List.map_cons, List.map_nil]); first | done | rfl | (simp only [List.length_drop, List.length_take]; rfl)) ?_; (with_reducible refine (boscagelaw02_Rising.calls k _ _ l0 t593 _ ?side1 ?side2 A7.out).mono ?_); (case side1 => repeat (first | exact (Kd.C_below HR0.out HB.out) | (with_reducible refine Kd.C_alloc ?_ _) | (with_reducible refine Kd.C_drewN ?_ _) | (with_reducible refine Kd.C_drew ?_))); (case side2 => exact HC0.out); rintro e w12 ⟨v594, rfl, ho0, hb⟩; refine ⟨_, rfl, ?_⟩; have n0_ := Aside0.mk (Kd.R_lower ho0 (below_size (by repeat (first | (with_reducible first | exact HB.out | apply below_alloc | apply pw_below_drewN | apply below_drew1) | exact HB.out)))); have n1_ := Aside0.mk (below_step (by repeat (first | (with_reducible first | exact HB.out | apply below_alloc | apply pw_below_drewN | apply below_drew1) | exact HB.out)) hb); clear HB; have HO595 := n0_; have HB := n1_; clear n0_ n1_; (try clear hb); (try clear hb2); (try clear hk); (try clear hi); (try clear ho0); obtain ⟨Ao13, co13, eo13⟩ := Kd.R_slice HO595.out; subst eo13) | ((with_reducible refine gate_callee (f := 46) rfl ?_); refine goesL_ (some 19) rfl rfl Try.func46 (by kernel_rfl) rfl #[.slice Ao13 t593.length co13, .int .i64 a1] rfl (by (try simp only [List.map_toArray, List.map_cons, List.map_nil]); first | done | rfl | (simp only [List.length_drop, List.length_take]; rfl)) ?_; (with_reducible refine (boscagelaw02_Find.calls k _ _ t593 a1 t596 _ ?side1 ?side2 A8.out).mono ?_); (case side1 => repeat (first | exact (Kd.R_reads' HO595.out).2.2 | (with_reducible refine Kd.C_alloc ?_ _) | (with_reducible refine Kd.C_drewN ?_ _) | (with_reducible refine Kd.C_drew ?_))); (case side2 => exact (Kd.R_reads' HO595.out).2.1); rintro e w14 ⟨rfl, hb⟩; refine ⟨_, rfl, ?_⟩; have n0_ := Aside0.mk (Kd.R_below (by (with_reducible repeat (first | apply Kd.R_alloc | apply Kd.R_drewN | apply Kd.R_drew)); exact HO595.out) hb); have n1_ := Aside0.mk (below_step (by repeat (first | (with_reducible first | exact HB.out | apply below_alloc | apply pw_below_drewN | apply below_drew1) | exact HB.out)) hb); clear HO595; clear HB; have HO595 := n0_; have HB := n1_; clear n0_ n1_; (try clear hb); (try clear hb2); (try clear hk); (try clear hi)) | ((with_reducible refine gate_callee (f := 66) rfl ?_); refine goesL_ (some 23) rfl rfl Try.func66 (by kernel_rfl) rfl #[.slice Ao13 t593.length co13, .int .i64 a1] rfl (by (try simp only [List.map_toArray, List.map_cons, List.map_nil]); first | done | rfl | (simp only [List.length_drop, List.length_take]; rfl)) ?_; (with_reducible refine (leaf_Leaf_Cut.calls _ _ t593 a1 t597 t598 t599 _ ?side1 ?side2 A9.out).mono ?_); (case side1 => repeat (first | exact (Kd.R_reads' HO595.out).2.2 | (with_reducible refine Kd.C_alloc ?_ _) | (with_reducible refine Kd.C_drewN ?_ _) | (with_reducible refine Kd.C_drew ?_))); (case side2 => exact (Kd.R_reads' HO595.out).2.1); rintro e w15 ⟨v600, rfl, ho0, hb⟩; refine ⟨_, rfl, ?_⟩; have n0_ := Aside0.mk (Kd.R_elder' (by (with_reducible repeat (first | apply Kd.R_alloc | apply Kd.R_drewN | apply Kd.R_drew)); exact HO595.out) (Kd.R_base ho0) hb); have n1_ := Aside0.mk (Kd.R_lower (Kd.R_new' ho0 (Kd.R_lt (by (with_reducible repeat (first | apply Kd.R_alloc | apply Kd.R_drewN | apply Kd.R_drew)); exact HO595.out))) (below_size (by repeat (first | (with_reducible first | exact HB.out | apply below_alloc | apply pw_below_drewN | apply below_drew1) | exact HB.out)))); have n2_ := Aside0.mk (below_step (by repeat (first | (with_reducible first | exact HB.out | apply below_alloc | apply pw_below_drewN | apply below_drew1) | exact HB.out)) hb); clear HO595; clear HB; have HO595 := n0_; have HO601 := n1_; have HB := n2_; clear n0_ n1_ n2_; (try clear hb); (try clear hb2); (try clear hk); (try clear hi); (try clear ho0)))
      (try simp only [Act.put, List.setIfInBounds_toArray, List.set_cons_zero, List.set_cons_succ])
      go_cut [50] (fun v50 wc => ∃ (kq : Nat) (x50_9 : Bool), v50 = .bool x50_9 ∧ Aside0 (boscagelaw02_LeafCuts.j0 kq a1 t593 t597 x50_9 = some r) ∧ Aside0 (kq ≤ k) ∧ Aside0 (Kd.R k40 40 wc w.heap.size (fun k_ => some k_ ≠ (v600 : Value).ownBlock) (.slice Ao13 t593.length co13) t593) ∧ Aside0 (Kd.R k40 40 wc w.heap.size (fun k_ => some k_ ≠ ((.slice Ao13 t593.length co13) : Value).ownBlock) v600 t597) ∧ Aside0 (Below w.heap.size w wc))
      case first =>
        have H := HC10.out
        clear HC10
        by_cases c16 : (t599 != (decide (t596 ≥ 0))) = true
        · rw [if_pos c16] at H
          have c16b0 : (t599 != (decide (t596 ≥ 0))) = true := c16
          (try (have c16b1 : decide (t599 = (decide (t596 ≥ 0))) = false := by simpa using c16))
          (try (have c16b2 : (t599 == (decide (t596 ≥ 0))) = false := by simpa using c16))
          (try (have c16b3 : ¬ (t599 = (decide (t596 ≥ 0))) := by simpa using c16))
          clear c16
          (first | rw [c16b0] | (simp only [i64_w, i32_w]; rw [c16b0]) | skip)
          have H' := Aside0.mk H
          clear H
          go_wp2
          go_meet
          case rel => exact ⟨_, (true), (by first | rfl | (simp; done) | (simp [*]; done)), H', ⟨by first | omega | exact Nat.le_refl _⟩, ⟨by (with_reducible repeat (first | apply Kd.R_alloc | apply Kd.R_drewN | apply Kd.R_drew)); exact Kd.R_mono HO595.out (fun _ hk => hk.2)⟩, ⟨by (with_reducible repeat (first | apply Kd.R_alloc | apply Kd.R_drewN | apply Kd.R_drew)); exact Kd.R_mono HO601.out (fun _ hk => hk.2)⟩, ⟨by repeat (first | (with_reducible first | exact HB.out | apply below_alloc | apply pw_below_drewN | apply below_drew1) | exact HB.out)⟩⟩
        · rw [if_neg c16] at H
          have c16b0 : (t599 != (decide (t596 ≥ 0))) = false := by simpa using c16
          (try (have c16b1 : decide (t599 = (decide (t596 ≥ 0))) = true := by simpa using c16))
          (try (have c16b2 : (t599 == (decide (t596 ≥ 0))) = true := by simpa using c16))
          clear c16
          (first | rw [c16b0] | (simp only [i64_w, i32_w]; rw [c16b0]) | skip)
          by_cases c17 : t599 = true
          · subst c17
            have H1 : (if 0 ≤ t596 then (if t596 < (t593.length : Int) then (if t598 = ((rd_T40 t593 t596).f1) then (boscagelaw02_LeafCuts.j0 k a1 t593 t597 false) else (boscagelaw02_LeafCuts.j0 k a1 t593 t597 true)) else (none)) else (none)) = some r := by rw [if_pos rfl] at H; exact H
            clear H
            have H := H1
            clear H1
            by_cases c18 : 0 ≤ t596
            · rw [if_pos c18] at H
              have c18b0 : decide (0 ≤ t596) = true := decide_eq_true c18
              clear c18
              by_cases c19 : t596 < (t593.length : Int)
              · rw [if_pos c19] at H
                have c19b0 : decide (t596 < (t593.length : Int)) = true := decide_eq_true c19
                clear c19
                by_cases c20 : t598 = ((rd_T40 t593 t596).f1)
                · rw [if_pos c20] at H
                  have c20b0 : (t598 == ((rd_T40 t593 t596).f1)) = true := beq_iff_eq.mpr c20
                  have c20b1 : (t598 != ((rd_T40 t593 t596).f1)) = false := bne_eq_false_iff_eq.mpr c20
                  clear c20
                  have H' := Aside0.mk H
                  clear H
                  have p602 : 0 ≤ (t596 : Int) := of_decide_eq_true (by first | (with_reducible assumption) | assumption)
                  have q602 : t596 < (t593.length : Int) := of_decide_eq_true (by first | (with_reducible assumption) | assumption)
                  obtain ⟨ad602, e602, hx602_0, hx602_1⟩ := at_T40 (Kd.R_reads' HO595.out).2.2 t596 p602 q602
                  cases e602
                  replace p602 := eq_true p602
                  replace q602 := eq_true q602
                  go_wp2
                  go_meet
                  case rel => exact ⟨_, (false), (by first | rfl | (simp; done) | (simp [*]; done)), H', ⟨by first | omega | exact Nat.le_refl _⟩, ⟨by (with_reducible repeat (first | apply Kd.R_alloc | apply Kd.R_drewN | apply Kd.R_drew)); exact Kd.R_mono HO595.out (fun _ hk => hk.2)⟩, ⟨by (with_reducible repeat (first | apply Kd.R_alloc | apply Kd.R_drewN | apply Kd.R_drew)); exact Kd.R_mono HO601.out (fun _ hk => hk.2)⟩, ⟨by repeat (first | (with_reducible first | exact HB.out | apply below_alloc | apply pw_below_drewN | apply below_drew1) | exact HB.out)⟩⟩
                · rw [if_neg c20] at H
                  have c20b0 : (t598 == ((rd_T40 t593 t596).f1)) = false := beq_eq_false_iff_ne.mpr c20
                  have c20b1 : (t598 != ((rd_T40 t593 t596).f1)) = true := bne_iff_ne.mpr c20
                  have H' := Aside0.mk H
                  clear H
                  have p602 : 0 ≤ (t596 : Int) := of_decide_eq_true (by first | (with_reducible assumption) | assumption)
                  have q602 : t596 < (t593.length : Int) := of_decide_eq_true (by first | (with_reducible assumption) | assumption)
                  obtain ⟨ad602, e602, hx602_0, hx602_1⟩ := at_T40 (Kd.R_reads' HO595.out).2.2 t596 p602 q602
                  cases e602
                  replace p602 := eq_true p602
                  replace q602 := eq_true q602
                  go_wp2
                  go_meet
                  case rel => exact ⟨_, (true), (by first | rfl | (simp; done) | (simp [*]; done)), H', ⟨by first | omega | exact Nat.le_refl _⟩, ⟨by (with_reducible repeat (first | apply Kd.R_alloc | apply Kd.R_drewN | apply Kd.R_drew)); exact Kd.R_mono HO595.out (fun _ hk => hk.2)⟩, ⟨by (with_reducible repeat (first | apply Kd.R_alloc | apply Kd.R_drewN | apply Kd.R_drew)); exact Kd.R_mono HO601.out (fun _ hk => hk.2)⟩, ⟨by repeat (first | (with_reducible first | exact HB.out | apply below_alloc | apply pw_below_drewN | apply below_drew1) | exact HB.out)⟩⟩
              · rw [if_neg c19] at H
                exact absurd H (by simp)
            · rw [if_neg c18] at H
              exact absurd H (by simp)
          · replace c17 := Bool.eq_false_iff.mpr c17
            subst c17
            have H1 : (boscagelaw02_LeafCuts.j0 k a1 t593 t597 (t598 != 0)) = some r := by rw [if_neg (show ¬ (false = true) by decide)] at H; exact H
            clear H
            have H := H1
            clear H1
            have H' := Aside0.mk H
            clear H
            go_wp2
            go_meet
            case rel => exact ⟨_, ((t598 != 0)), (by first | rfl | (simp; done) | (simp [*]; done)), H', ⟨by first | omega | exact Nat.le_refl _⟩, ⟨by (with_reducible repeat (first | apply Kd.R_alloc | apply Kd.R_drewN | apply Kd.R_drew)); exact Kd.R_mono HO595.out (fun _ hk => hk.2)⟩, ⟨by (with_reducible repeat (first | apply Kd.R_alloc | apply Kd.R_drewN | apply Kd.R_drew)); exact Kd.R_mono HO601.out (fun _ hk => hk.2)⟩, ⟨by repeat (first | (with_reducible first | exact HB.out | apply below_alloc | apply pw_below_drewN | apply below_drew1) | exact HB.out)⟩⟩
      case rest =>
        clear HC10
        try clear c1
        try clear c2
        try clear p2
        try clear c4
        try clear c5
        try clear c5b0
        try clear c5b1
        try clear c6
        try clear p6
        try clear q6
        try clear hx6
        try clear c14
        try clear c16
        try clear c16b0
        try clear c16b1
        try clear c16b2
        try clear c17
        try clear c18
        try clear c18b0
        try clear c19
        try clear c19b0
        try clear c20
        try clear c20b0
        try clear c20b1
        try clear hx602_0
        try clear hx602_1
        try clear p602
        try clear q602
        obtain ⟨kq, x50_9, rfl, HA, HJ9, HO_5, HO_7, HB⟩ := hcut
        cases kq with
        | zero => exact absurd HA.out (by simp [boscagelaw02_LeafCuts.j0])
        | succ kj9 =>
          have H := HA.out
          clear HA
          simp only [boscagelaw02_LeafCuts.j0] at H
          by_cases c21 : x50_9 = true
          · subst c21
            have H1 : (some false) = some r := by rw [if_pos rfl] at H; exact H
            clear H
            have H := H1
            clear H1
            obtain rfl := Option.some.inj H
            go_wp2
            go_ret
            exact ⟨by first | rfl | (simp [errW_none, errW_some] <;> rfl) | (simp [*, errW_none, errW_some] <;> rfl), by repeat (first | (with_reducible first | exact HB.out | apply below_alloc | apply pw_below_drewN | apply below_drew1) | exact HB.out)⟩
          · replace c21 := Bool.eq_false_iff.mpr c21
            subst c21
            have H1 : ((boscagelaw02_Cut.f kj9 t593 a1).bind fun t603 => ((boscagelaw02_Same.f kj9 t597 t603).bind fun t606 => (some t606))) = some r := by rw [if_neg (show ¬ (false = true) by decide)] at H; exact H
            clear H
            have H := H1
            clear H1
            replace H := Option.bind_eq_some_iff.mp H
            obtain ⟨t603, A220, H⟩ := H
            replace H : ((boscagelaw02_Same.f kj9 t597 t603).bind fun t606 => (some t606)) = some r := H
            have A22 := Aside0.mk A220
            clear A220
            replace H := Option.bind_eq_some_iff.mp H
            obtain ⟨t606, A230, H⟩ := H
            replace H : (some t606) = some r := H
            have A23 := Aside0.mk A230
            clear A230
            obtain rfl := Option.some.inj H
            go_wp2_with (first | ((with_reducible refine gate_callee (f := 67) rfl ?_); refine goesL_ (some 54) rfl rfl Try.func67 (by kernel_rfl) rfl #[.slice Ao13 t593.length co13, .int .i64 a1] rfl (by (try simp only [List.map_toArray, List.map_cons, List.map_nil]); first | done | rfl | (simp only [List.length_drop, List.length_take]; rfl)) ?_; (with_reducible refine (boscagelaw02_Cut.calls kj9 _ _ t593 a1 t603 _ ?side1 ?side2 A22.out).mono ?_); (case side1 => repeat (first | exact (Kd.R_reads' HO_5.out).2.2 | (with_reducible refine Kd.C_alloc ?_ _) | (with_reducible refine Kd.C_drewN ?_ _) | (with_reducible refine Kd.C_drew ?_))); (case side2 => exact (Kd.R_reads' HO_5.out).2.1); rintro e w24 ⟨v604, rfl, ho0, hb⟩; refine ⟨_, rfl, ?_⟩; have n0_ := Aside0.mk (Kd.R_elder' (by (with_reducible repeat (first | apply Kd.R_alloc | apply Kd.R_drewN | apply Kd.R_drew)); exact HO_5.out) (Kd.R_base ho0) hb); have n1_ := Aside0.mk (Kd.R_elder' (by (with_reducible repeat (first | apply Kd.R_alloc | apply Kd.R_drewN | apply Kd.R_drew)); exact HO_7.out) (Kd.R_base ho0) hb); have n2_ := Aside0.mk (Kd.R_lower (Kd.R_new' (Kd.R_new' ho0 (Kd.R_lt (by (with_reducible repeat (first | apply Kd.R_alloc | apply Kd.R_drewN | apply Kd.R_drew)); exact HO_5.out))) (Kd.R_lt (by (with_reducible repeat (first | apply Kd.R_alloc | apply Kd.R_drewN | apply Kd.R_drew)); exact HO_7.out))) (below_size (by repeat (first | (with_reducible first | exact HB.out | apply below_alloc | apply pw_below_drewN | apply below_drew1) | exact HB.out)))); have n3_ := Aside0.mk (below_step (by repeat (first | (with_reducible first | exact HB.out | apply below_alloc | apply pw_below_drewN | apply below_drew1) | exact HB.out)) hb); clear HO_5; clear HO_7; clear HB; have HO_5 := n0_; have HO_7 := n1_; have HO605 := n2_; have HB := n3_; clear n0_ n1_ n2_ n3_; (try clear hb); (try clear hb2); (try clear hk); (try clear hi); (try clear ho0); obtain ⟨Ao25, co25, eo25⟩ := Kd.R_slice HO_7.out; subst eo25; obtain ⟨Ao26, co26, eo26⟩ := Kd.R_slice HO605.out; subst eo26) | ((with_reducible refine gate_callee (f := 48) rfl ?_); refine goesL_ (some 55) rfl rfl Try.func48 (by kernel_rfl) rfl #[.slice Ao25 t597.length co25, .slice Ao26 t603.length co26] rfl (by (try simp only [List.map_toArray, List.map_cons, List.map_nil]); first | done | rfl | (simp only [List.length_drop, List.length_take]; rfl)) ?_; (with_reducible refine (boscagelaw02_Same.calls kj9 _ _ t597 _ _ t603 t606 _ ?side1 ?side2 ?side3 ?side4 A23.out).mono ?_); (case side1 => repeat (first | exact (Kd.R_reads' HO_7.out).2.2 | (with_reducible refine Kd.C_alloc ?_ _) | (with_reducible refine Kd.C_drewN ?_ _) | (with_reducible refine Kd.C_drew ?_))); (case side2 => exact (Kd.R_reads' HO_7.out).2.1); (case side3 => repeat (first | exact (Kd.R_reads' HO605.out).2.2 | (with_reducible refine Kd.C_alloc ?_ _) | (with_reducible refine Kd.C_drewN ?_ _) | (with_reducible refine Kd.C_drew ?_))); (case side4 => exact (Kd.R_reads' HO605.out).2.1); rintro e w' ⟨rfl, ⟨nd, rfl⟩⟩; refine ⟨_, rfl, ?_⟩))
            go_ret
            exact ⟨by first | rfl | (simp [errW_none, errW_some] <;> rfl) | (simp [*, errW_none, errW_some] <;> rfl), by repeat (first | (with_reducible first | exact HB.out | apply below_alloc | apply pw_below_drewN | apply below_drew1) | exact HB.out)⟩
  · replace c4 := Bool.eq_false_iff.mpr c4
    subst c4
    have H1 : (some false) = some r := by rw [if_neg (show ¬ (false = true) by decide)] at H; exact H
    clear H
    have H := H1
    clear H1
    obtain rfl := Option.some.inj H
    go_enter Try.func14, Try.ntmps14
    go_wp2_with (first | ((with_reducible refine gate_callee (f := 43) rfl ?_); refine goesL_ (some 10) rfl rfl Try.func43 (by kernel_rfl) rfl #[] rfl (by (try simp only [List.map_toArray, List.map_cons, List.map_nil]); first | done | rfl | (simp only [List.length_drop, List.length_take]; rfl)) ?_; (with_reducible refine (boscagelaw02_Awake.calls  false _ A3.out).mono ?_); rintro e w27 ⟨rfl, hb⟩; refine ⟨_, rfl, ?_⟩; have n0_ := Aside0.mk (below_step (by repeat (first | (with_reducible first | exact HB.out | apply below_alloc | apply pw_below_drewN | apply below_drew1) | exact HB.out)) hb); clear HB; have HB := n0_; clear n0_; (try clear hb); (try clear hb2); (try clear hk); (try clear hi)))
    go_ret
    exact ⟨by first | rfl | (simp [errW_none, errW_some] <;> rfl) | (simp [*, errW_none, errW_some] <;> rfl), by repeat (first | (with_reducible first | exact HB.out | apply below_alloc | apply pw_below_drewN | apply below_drew1) | exact HB.out)⟩

/-- THE ONE PURE STATEMENT of boscagelaw02_LeafCuts: yours. -/
def boscagelaw02_LeafCuts.Pure : Prop := ∀ (l0 : List Int) (a1 : Int), l0.length ≤ maxLen → l0.length * 8 ≤ 140737488351232 → (∀ x ∈ l0, (Lit.int .i64 x).wf = true) → (Lit.int .i64 a1).wf = true → ∃ k, boscagelaw02_LeafCuts.f k l0 a1 = some true
theorem boscagelaw02_LeafCuts.walk (P : boscagelaw02_LeafCuts.Pure) (a0 : Option Addr) (len0 cap0 : Nat) (z0 : List Int) (a1 : Int) (w : World) (w0 : (a0 = none ∧ len0 = 0 ∧ cap0 = 0 ∧ z0 = []) ∨ ∃ x, a0 = some x ∧ len0 ≤ cap0 ∧ cap0 ≤ maxLen ∧ z0.length = cap0 ∧ (∀ i, i < z0.length → w.cell? (x.add i) = some (.int .i64 (z0.getD i 0))) ∧ ∀ n ∈ z0, (Lit.int .i64 n).wf = true) (y0 : len0 * 8 ≤ 140737488351232) (w1 : (Lit.int .i64 a1).wf = true) :
    Calls Try.prog 14 #[.slice a0 len0 cap0, .int .i64 a1] w fun e w' => e = .returned (.bool true) ∧ Below w.heap.size w w' := by
  obtain ⟨l0, rfl, hr0, hm0, hw0, hc0⟩ := ReadsInt.ofRowC w0
  obtain ⟨k, h⟩ := P l0 a1 hm0 y0 hw0 w1
  refine (boscagelaw02_LeafCuts.calls k _ _ l0 a1 true w (Kd.C_of_reads (d := (0 : Int)) (h1 := fun _ => rfl) hr0) hc0 h).mono ?_
  rintro e w' ⟨rfl, hd⟩
  exact ⟨rfl, hd⟩

end Go.Proofs.Ytkoiffkonjpoiaa.Q
