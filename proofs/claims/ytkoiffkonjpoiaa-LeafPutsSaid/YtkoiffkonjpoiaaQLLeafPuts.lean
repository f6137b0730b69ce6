/- Go functions of the program as plain Lean functions, and for each the contract that the call comes to its answers; written by a turned print of this session. -/
import Derived.Test.YtkoiffkonjpoiaaQ0
import Derived.Test.YtkoiffkonjpoiaaQA1
import Derived.Test.YtkoiffkonjpoiaaQA2
import Derived.Test.YtkoiffkonjpoiaaQA4
namespace Go.Proofs.Ytkoiffkonjpoiaa.Q
open Go.RowKit Go.Proofs.YtkoiffkonjpoiaaW.PrintWords Go.Proofs.YtkoiffkonjpoiaaW.PrintLast Go.Proofs.YtkoiffkonjpoiaaW.PrintMore Go.Proofs.YtkoiffkonjpoiaaX
attribute [local go_sem] max2_int min2_int max_two min_two max_three min_three max_four min_four   -- for this text's walks alone
set_option linter.unusedVariables false
set_option linter.unusedSimpArgs false

/-! ### boscagelaw02_LeafPuts: function 15 -/
def boscagelaw02_LeafPuts.j0 : Nat → Int → Int → List (S40) → List (S40) → Bool → Option (Bool)
  | 0, _, _, _, _, _ => none
  | k + 1, x1, x2, x7, x9, x53 => if x53 = true then (some false) else ((boscagelaw02_Put.f k x7 x1 x2).bind fun t631 => ((boscagelaw02_Same.f k x9 t631).bind fun t634 => (some t634)))
def boscagelaw02_LeafPuts.f (k : Nat) (l0 : List Int) (a1 : Int) (a2 : Int) : Option (Bool) := (boscagelaw02_Awake.f).bind fun t620 => (if t620 = true then (if (l0.length : Int) > 60 then (some true) else ((boscagelaw02_Rising.f k l0).bind fun t621 => ((boscagelaw02_Find.f k t621 a1).bind fun t624 => ((leaf_Leaf_Put.f t621 a1 a2).bind fun bt625 => (if (bt625.2.2 != (decide (t624 ≥ 0))) = true then (boscagelaw02_LeafPuts.j0 k a1 a2 t621 bt625.1 true) else (if bt625.2.2 = true then (if 0 ≤ t624 then (if t624 < (t621.length : Int) then (if bt625.2.1 = ((rd_T40 t621 t624).f1) then (boscagelaw02_LeafPuts.j0 k a1 a2 t621 bt625.1 false) else (boscagelaw02_LeafPuts.j0 k a1 a2 t621 bt625.1 true)) else (none)) else (none)) else (boscagelaw02_LeafPuts.j0 k a1 a2 t621 bt625.1 (bt625.2.1 != 0)))))))) else (some false))
theorem boscagelaw02_LeafPuts.mono_l : ∀ k, (∀ y0 y1 y2 y3 y4, LeO (boscagelaw02_LeafPuts.j0 k y0 y1 y2 y3 y4) (boscagelaw02_LeafPuts.j0 (k + 1) y0 y1 y2 y3 y4))
  | 0 => fun _ _ _ _ _ r h => by simp [boscagelaw02_LeafPuts.j0] at h
  | k + 1 => by
    have ih0 := boscagelaw02_LeafPuts.mono_l k
    · intro y0 y1 y2 y3 y4
      unfold boscagelaw02_LeafPuts.j0
      repeat' first
      | (with_reducible exact ih0 _ _ _ _ _)
      | (with_reducible exact boscagelaw02_Find.mono _ _ _)
      | (with_reducible exact boscagelaw02_Put.mono _ _ _ _)
      | (with_reducible exact boscagelaw02_Rising.mono _ _)
      | (with_reducible exact boscagelaw02_Same.mono _ _ _)
      | (with_reducible exact LeO.refl _)
      | (with_reducible exact LeO.none _)
      | (with_reducible refine LeO.ite ?_ ?_)
      | (with_reducible refine LeO.bind ?_ (fun _ => ?_))
      | exact ih0 _ _ _ _ _
      | exact boscagelaw02_Find.mono _ _ _
      | exact boscagelaw02_Put.mono _ _ _ _
      | exact boscagelaw02_Rising.mono _ _
      | exact boscagelaw02_Same.mono _ _ _
      | exact LeO.none _
      | refine LeO.ite ?_ ?_
      | refine LeO.bind ?_ (fun _ => ?_)
theorem boscagelaw02_LeafPuts.mono : ∀ a0 a1 a2 k, LeO (boscagelaw02_LeafPuts.f k a0 a1 a2) (boscagelaw02_LeafPuts.f (k + 1) a0 a1 a2) := by
  intro a0 a1 a2 k
  have ih0 := boscagelaw02_LeafPuts.mono_l k
  unfold boscagelaw02_LeafPuts.f
  repeat' first
      | (with_reducible exact ih0 _ _ _ _ _)
      | (with_reducible exact boscagelaw02_Find.mono _ _ _)
      | (with_reducible exact boscagelaw02_Put.mono _ _ _ _)
      | (with_reducible exact boscagelaw02_Rising.mono _ _)
      | (with_reducible exact boscagelaw02_Same.mono _ _ _)
      | (with_reducible exact LeO.refl _)
      | (with_reducible exact LeO.none _)
      | (with_reducible refine LeO.ite ?_ ?_)
      | (with_reducible refine LeO.bind ?_ (fun _ => ?_))
      | exact ih0 _ _ _ _ _
      | exact boscagelaw02_Find.mono _ _ _
      | exact boscagelaw02_Put.mono _ _ _ _
      | exact boscagelaw02_Rising.mono _ _
      | exact boscagelaw02_Same.mono _ _ _
      | exact LeO.none _
      | refine LeO.ite ?_ ?_
      | refine LeO.bind ?_ (fun _ => ?_)
set_option maxHeartbeats 8000000 in
set_option maxRecDepth 100000 in
theorem boscagelaw02_LeafPuts.calls (k : Nat) (A0 : Option Addr) (c0 : Nat) (l0 : List Int) (a1 : Int) (a2 : Int) (r : Bool) (w : World) (hr0 : Kd.C (Kd.int .i64) w A0 l0.length l0) (hc0 : l0.length ≤ c0) (h : boscagelaw02_LeafPuts.f k l0 a1 a2 = some r) :
    Calls Try.prog 15 #[.slice A0 l0.length c0, .int .i64 a1, .int .i64 a2] w fun e w' => e = .returned (.bool r) ∧ Below w.heap.size w w' := by
  have HR0 := Aside0.mk hr0
  have HC0 := Aside0.mk hc0
  clear hr0 hc0
  have HB := Aside0.mk (Below.refl w.heap.size w)
  have H : ((boscagelaw02_Awake.f).bind fun t620 => (if t620 = true then (if (l0.length : Int) > 60 then (some true) else ((boscagelaw02_Rising.f k l0).bind fun t621 => ((boscagelaw02_Find.f k t621 a1).bind fun t624 => ((leaf_Leaf_Put.f t621 a1 a2).bind fun bt625 => (if (bt625.2.2 != (decide (t624 ≥ 0))) = true then (boscagelaw02_LeafPuts.j0 k a1 a2 t621 bt625.1 true) else (if bt625.2.2 = true then (if 0 ≤ t624 then (if t624 < (t621.length : Int) then (if bt625.2.1 = ((rd_T40 t621 t624).f1) then (boscagelaw02_LeafPuts.j0 k a1 a2 t621 bt625.1 false) else (boscagelaw02_LeafPuts.j0 k a1 a2 t621 bt625.1 true)) else (none)) else (none)) else (boscagelaw02_LeafPuts.j0 k a1 a2 t621 bt625.1 (bt625.2.1 != 0)))))))) else (some false))) = some r := h
  clear h
  replace H := Option.bind_eq_some_iff.mp H
  obtain ⟨t620, A40, H⟩ := H
  replace H : (if t620 = true then (if (l0.length : Int) > 60 then (some true) else ((boscagelaw02_Rising.f k l0).bind fun t621 => ((boscagelaw02_Find.f k t621 a1).bind fun t624 => ((leaf_Leaf_Put.f t621 a1 a2).bind fun bt625 => (if (bt625.2.2 != (decide (t624 ≥ 0))) = true then (boscagelaw02_LeafPuts.j0 k a1 a2 t621 bt625.1 true) else (if bt625.2.2 = true then (if 0 ≤ t624 then (if t624 < (t621.length : Int) then (if bt625.2.1 = ((rd_T40 t621 t624).f1) then (boscagelaw02_LeafPuts.j0 k a1 a2 t621 bt625.1 false) else (boscagelaw02_LeafPuts.j0 k a1 a2 t621 bt625.1 true)) else (none)) else (none)) else (boscagelaw02_LeafPuts.j0 k a1 a2 t621 bt625.1 (bt625.2.1 != 0)))))))) else (some false)) = some r := H
  have A4 := Aside0.mk A40
  clear A40
  by_cases c5 : t620 = true
  · subst c5
    have H1 : (if (l0.length : Int) > 60 then (some true) else ((boscagelaw02_Rising.f k l0).bind fun t621 => ((boscagelaw02_Find.f k t621 a1).bind fun t624 => ((leaf_Leaf_Put.f t621 a1 a2).bind fun bt625 => (if (bt625.2.2 != (decide (t624 ≥ 0))) = true then (boscagelaw02_LeafPuts.j0 k a1 a2 t621 bt625.1 true) else (if bt625.2.2 = true then (if 0 ≤ t624 then (if t624 < (t621.length : Int) then (if bt625.2.1 = ((rd_T40 t621 t624).f1) then (boscagelaw02_LeafPuts.j0 k a1 a2 t621 bt625.1 false) else (boscagelaw02_LeafPuts.j0 k a1 a2 t621 bt625.1 true)) else (none)) else (none)) else (boscagelaw02_LeafPuts.j0 k a1 a2 t621 bt625.1 (bt625.2.1 != 0)))))))) = some r := by rw [if_pos rfl] at H; exact H
    clear H
    have H := H1
    clear H1
    by_cases c6 : (l0.length : Int) > 60
    · rw [if_pos c6] at H
      have c6b0 : decide (60 < (l0.length : Int)) = true := decide_eq_true c6
      have c6b1 : decide (60 < l0.length) = true := decide_eq_true (by omega)
      clear c6
      obtain rfl := Option.some.inj H
      go_enter Try.func15, Try.ntmps15
      go_wp2_with (first | ((with_reducible refine gate_callee (f := 43) rfl ?_); refine goesL_ (some 12) rfl rfl Try.func43 (by kernel_rfl) rfl #[] rfl (by (try simp only [List.map_toArray, List.map_cons, List.map_nil]); first | done | rfl | (simp only [List.length_drop, List.length_take]; rfl)) ?_; (with_reducible refine (boscagelaw02_Awake.calls  true _ A4.out).mono ?_); rintro e w7 ⟨rfl, hb⟩; refine ⟨_, rfl, ?_⟩; have n0_ := Aside0.mk (below_step (by repeat (first | (with_reducible first | exact HB.out | apply below_alloc | apply pw_below_drewN | apply below_drew1) | exact HB.out)) hb); clear HB; have HB := n0_; clear n0_; (try clear hb); (try clear hb2); (try clear hk); (try clear hi)))
      go_ret
      exact ⟨by first | rfl | (simp [errW_none, errW_some] <;> rfl) | (simp [*, errW_none, errW_some] <;> rfl), by repeat (first | (with_reducible first | exact HB.out | apply below_alloc | apply pw_below_drewN | apply below_drew1) | exact HB.out)⟩
    · rw [if_neg c6] at H
      have c6b0 : decide (60 < (l0.length : Int)) = false := decide_eq_false c6
      have c6b1 : decide (60 < l0.length) = false := decide_eq_false (by omega)
      clear c6
      replace H := Option.bind_eq_some_iff.mp H
      obtain ⟨t621, A80, H⟩ := H
      replace H : ((boscagelaw02_Find.f k t621 a1).bind fun t624 => ((leaf_Leaf_Put.f t621 a1 a2).bind fun bt625 => (if (bt625.2.2 != (decide (t624 ≥ 0))) = true then (boscagelaw02_LeafPuts.j0 k a1 a2 t621 bt625.1 true) else (if bt625.2.2 = true then (if 0 ≤ t624 then (if t624 < (t621.length : Int) then (if bt625.2.1 = ((rd_T40 t621 t624).f1) then (boscagelaw02_LeafPuts.j0 k a1 a2 t621 bt625.1 false) else (boscagelaw02_LeafPuts.j0 k a1 a2 t621 bt625.1 true)) else (none)) else (none)) else (boscagelaw02_LeafPuts.j0 k a1 a2 t621 bt625.1 (bt625.2.1 != 0)))))) = some r := H
      have A8 := Aside0.mk A80
      clear A80
      replace H := Option.bind_eq_some_iff.mp H
      obtain ⟨t624, A90, H⟩ := H
      replace H : ((leaf_Leaf_Put.f t621 a1 a2).bind fun bt625 => (if (bt625.2.2 != (decide (t624 ≥ 0))) = true then (boscagelaw02_LeafPuts.j0 k a1 a2 t621 bt625.1 true) else (if bt625.2.2 = true then (if 0 ≤ t624 then (if t624 < (t621.length : Int) then (if bt625.2.1 = ((rd_T40 t621 t624).f1) then (boscagelaw02_LeafPuts.j0 k a1 a2 t621 bt625.1 false) else (boscagelaw02_LeafPuts.j0 k a1 a2 t621 bt625.1 true)) else (none)) else (none)) else (boscagelaw02_LeafPuts.j0 k a1 a2 t621 bt625.1 (bt625.2.1 != 0))))) = some r := H
      have A9 := Aside0.mk A90
      clear A90
      replace H := Option.bind_eq_some_iff.mp H
      obtain ⟨⟨t625, t626, t627⟩, A100, H⟩ := H
      replace H : (if (t627 != (decide (t624 ≥ 0))) = true then (boscagelaw02_LeafPuts.j0 k a1 a2 t621 t625 true) else (if t627 = true then (if 0 ≤ t624 then (if t624 < (t621.length : Int) then (if t626 = ((rd_T40 t621 t624).f1) then (boscagelaw02_LeafPuts.j0 k a1 a2 t621 t625 false) else (boscagelaw02_LeafPuts.j0 k a1 a2 t621 t625 true)) else (none)) else (none)) else (boscagelaw02_LeafPuts.j0 k a1 a2 t621 t625 (t626 != 0)))) = some r := H
      have A10 := Aside0.mk A100
      clear A100
      have HC11 := Aside0.mk H
      clear H
      go_enter Try.func15, Try.ntmps15
      go_upto_region 8 with (first | ((with_reducible refine gate_callee (f := 43) rfl ?_); refine goesL_ (some 12) rfl rfl Try.func43 (by kernel_rfl) rfl #[] rfl (by (try simp only [List.map_toArray, List.map_cons, List.map_nil]); first | done | rfl | (simp only [List.length_drop, List.length_take]; rfl)) ?_; (with_reducible refine (boscagelaw02_Awake.calls  true _ A4.out).mono ?_); rintro e w12 ⟨rfl, hb⟩; refine ⟨_, rfl, ?_⟩; have n0_ := Aside0.mk (below_step (by repeat (first | (with_reducible first | exact HB.out | apply below_alloc | apply pw_below_drewN | apply below_drew1) | exact HB.out)) hb); clear HB; have HB := n0_; clear n0_; (try clear hb); (try clear hb2); (try clear hk); (try clear hi)) | ((with_reducible refine gate_callee (f := 44) rfl ?_); refine goesL_ (some 18) rfl rfl Try.func44 (by kernel_rfl) rfl #[.slice A0 l0.length c0] rfl (by (try simp only [List.map_toArray, List.map_cons, List.map_nil]); first | done | rfl | (simp only [List.length_drop, List.length_take]; rfl)) ?_; (with_reducible refine (boscagelaw02_Rising.calls k _ _ l0 t621 _ ?side1 ?side2 A8.out).mono ?_); (case side1 => repeat (first | exact (Kd.C_below HR0.out HB.out) | (with_reducible refine Kd.C_alloc ?_ _) | (with_reducible refine Kd.C_drewN ?_ _) | (with_reducible refine Kd.C_drew ?_))); (case side2 => exact HC0.out); rintro e w13 ⟨v622, rfl, ho0, hb⟩; refine ⟨_, rfl, ?_⟩; have n0_ := Aside0.mk (Kd.R_lower ho0 (below_size (by repeat (first | (with_reducible first | exact HB.out | apply below_alloc | apply pw_below_drewN | apply below_drew1) | exact HB.out)))); have n1_ := Aside0.mk (below_step (by repeat (first | (with_reducible first | exact HB.out | apply below_alloc | apply pw_below_drewN | apply below_drew1) | exact HB.out)) hb); clear HB; have HO623 := n0_; have HB := n1_; clear n0_ n1_; (try clear hb); (try clear hb2); (try clear hk); (try clear hi); (try clear ho0); obtain ⟨Ao14, co14, eo14⟩ := Kd.R_slice HO623.out; subst eo14) | ((with_reducible refine gate_callee (f := 46) rfl ?_); refine goesL_ (some 21) rfl rfl Try.func46 (by kernel_rfl) rfl #[.slice Ao14 t621.length co14, .int .i64 a1] rfl (by (try simp only [List.map_toArray, List.map_cons, List.map_nil]); first | done | rfl | (simp only [List.length_drop, List.length_take]; rfl)) ?_; (with_reducible refine (boscagelaw02_Find.calls k _ _ t621 a1 t624 _ ?side1 ?side2 A9.out).mono ?_); (case side1 => repeat (first | exact (Kd.R_reads' HO623.out).2.2 | (with_reducible refine Kd.C_alloc ?_ _) | (with_reducible refine Kd.C_drewN ?_ _) | (with_reducible refine Kd.C_drew ?_))); (case side2 => exact (Kd.R_reads' HO623.out).2.1); rintro e w15 ⟨rfl, hb⟩; refine ⟨_, rfl, ?_⟩; have n0_ := Aside0.mk (Kd.R_below (by (with_reducible repeat (first | apply Kd.R_alloc | apply Kd.R_drewN | apply Kd.R_drew)); exact HO623.out) hb); have n1_ := Aside0.mk (below_step (by repeat (first | (with_reducible first | exact HB.out | apply below_alloc | apply pw_below_drewN | apply below_drew1) | exact HB.out)) hb); clear HO623; clear HB; have HO623 := n0_; have HB := n1_; clear n0_ n1_; (try clear hb); (try clear hb2); (try clear hk); (try clear hi)) | ((with_reducible refine gate_callee (f := 68) rfl ?_); refine goesL_ (some 26) rfl rfl Try.func68 (by kernel_rfl) rfl #[.slice Ao14 t621.length co14, .int .i64 a1, .int .i64 a2] rfl (by (try simp only [List.map_toArray, List.map_cons, List.map_nil]); first | done | rfl | (simp only [List.length_drop, List.length_take]; rfl)) ?_; (with_reducible refine (leaf_Leaf_Put.calls _ _ t621 a1 a2 t625 t626 t627 _ ?side1 ?side2 A10.out).mono ?_); (case side1 => repeat (first | exact (Kd.R_reads' HO623.out).2.2 | (with_reducible refine Kd.C_alloc ?_ _) | (with_reducible refine Kd.C_drewN ?_ _) | (with_reducible refine Kd.C_drew ?_))); (case side2 => exact (Kd.R_reads' HO623.out).2.1); rintro e w16 ⟨v628, rfl, ho0, hb⟩; refine ⟨_, rfl, ?_⟩; have n0_ := Aside0.mk (Kd.R_elder' (by (with_reducible repeat (first | apply Kd.R_alloc | apply Kd.R_drewN | apply Kd.R_drew)); exact HO623.out) (Kd.R_base ho0) hb); have n1_ := Aside0.mk (Kd.R_lower (Kd.R_new' ho0 (Kd.R_lt (by (with_reducible repeat (first | apply Kd.R_alloc | apply Kd.R_drewN | apply Kd.R_drew)); exact HO623.out))) (below_size (by repeat (first | (with_reducible first | exact HB.out | apply below_alloc | apply pw_below_drewN | apply below_drew1) | exact HB.out)))); have n2_ := Aside0.mk (below_step (by repeat (first | (with_reducible first | exact HB.out | apply below_alloc | apply pw_below_drewN | apply below_drew1) | exact HB.out)) hb); clear HO623; clear HB; have HO623 := n0_; have HO629 := n1_; have HB := n2_; clear n0_ n1_ n2_; (try clear hb); (try clear hb2); (try clear hk); (try clear hi); (try clear ho0)))
      (try simp only [Act.put, List.setIfInBounds_toArray, List.set_cons_zero, List.set_cons_succ])
      go_cut [53] (fun v53 wc => ∃ (kq : Nat) (x53_10 : Bool), v53 = .bool x53_10 ∧ Aside0 (boscagelaw02_LeafPuts.j0 kq a1 a2 t621 t625 x53_10 = some r) ∧ Aside0 (kq ≤ k) ∧ Aside0 (Kd.R k40 40 wc w.heap.size (fun k_ => some k_ ≠ (v628 : Value).ownBlock) (.slice Ao14 t621.length co14) t621) ∧ Aside0 (Kd.R k40 40 wc w.heap.size (fun k_ => some k_ ≠ ((.slice Ao14 t621.length co14) : Value).ownBlock) v628 t625) ∧ Aside0 (Below w.heap.size w wc))
      case first =>
        have H := HC11.out
        clear HC11
        by_cases c17 : (t627 != (decide (t624 ≥ 0))) = true
        · rw [if_pos c17] at H
          have c17b0 : (t627 != (decide (t624 ≥ 0))) = true := c17
          (try (have c17b1 : decide (t627 = (decide (t624 ≥ 0))) = false := by simpa using c17))
          (try (have c17b2 : (t627 == (decide (t624 ≥ 0))) = false := by simpa using c17))
          (try (have c17b3 : ¬ (t627 = (decide (t624 ≥ 0))) := by simpa using c17))
          clear c17
          (first | rw [c17b0] | (simp only [i64_w, i32_w]; rw [c17b0]) | skip)
          have H' := Aside0.mk H
          clear H
          go_wp2
          go_meet
          case rel => exact ⟨_, (true), (by first | rfl | (simp; done) | (simp [*]; done)), H', ⟨by first | omega | exact Nat.le_refl _⟩, ⟨by (with_reducible repeat (first | apply Kd.R_alloc | apply Kd.R_drewN | apply Kd.R_drew)); exact Kd.R_mono HO623.out (fun _ hk => hk.2)⟩, ⟨by (with_reducible repeat (first | apply Kd.R_alloc | apply Kd.R_drewN | apply Kd.R_drew)); exact Kd.R_mono HO629.out (fun _ hk => hk.2)⟩, ⟨by repeat (first | (with_reducible first | exact HB.out | apply below_alloc | apply pw_below_drewN | apply below_drew1) | exact HB.out)⟩⟩
        · rw [if_neg c17] at H
          have c17b0 : (t627 != (decide (t624 ≥ 0))) = false := by simpa using c17
          (try (have c17b1 : decide (t627 = (decide (t624 ≥ 0))) = true := by simpa using c17))
          (try (have c17b2 : (t627 == (decide (t624 ≥ 0))) = true := by simpa using c17))
          clear c17
          (first | rw [c17b0] | (simp only [i64_w, i32_w]; rw [c17b0]) | skip)
          by_cases c18 : t627 = true
          · subst c18
            have H1 : (if 0 ≤ t624 then (if t624 < (t621.length : Int) then (if t626 = ((rd_T40 t621 t624).f1) then (boscagelaw02_LeafPuts.j0 k a1 a2 t621 t625 false) else (boscagelaw02_LeafPuts.j0 k a1 a2 t621 t625 true)) else (none)) else (none)) = some r := by rw [if_pos rfl] at H; exact H
            clear H
            have H := H1
            clear H1
            by_cases c19 : 0 ≤ t624
            · rw [if_pos c19] at H
              have c19b0 : decide (0 ≤ t624) = true := decide_eq_true c19
              clear c19
              by_cases c20 : t624 < (t621.length : Int)
              · rw [if_pos c20] at H
                have c20b0 : decide (t624 < (t621.length : Int)) = true := decide_eq_true c20
                clear c20
                by_cases c21 : t626 = ((rd_T40 t621 t624).f1)
                · rw [if_pos c21] at H
                  have c21b0 : (t626 == ((rd_T40 t621 t624).f1)) = true := beq_iff_eq.mpr c21
                  have c21b1 : (t626 != ((rd_T40 t621 t624).f1)) = false := bne_eq_false_iff_eq.mpr c21
                  clear c21
                  have H' := Aside0.mk H
                  clear H
                  have p630 : 0 ≤ (t624 : Int) := of_decide_eq_true (by first | (with_reducible assumption) | assumption)
                  have q630 : t624 < (t621.length : Int) := of_decide_eq_true (by first | (with_reducible assumption) | assumption)
                  obtain ⟨ad630, e630, hx630_0, hx630_1⟩ := at_T40 (Kd.R_reads' HO623.out).2.2 t624 p630 q630
                  cases e630
                  replace p630 := eq_true p630
                  replace q630 := eq_true q630
                  go_wp2
                  go_meet
                  case rel => exact ⟨_, (false), (by first | rfl | (simp; done) | (simp [*]; done)), H', ⟨by first | omega | exact Nat.le_refl _⟩, ⟨by (with_reducible repeat (first | apply Kd.R_alloc | apply Kd.R_drewN | apply Kd.R_drew)); exact Kd.R_mono HO623.out (fun _ hk => hk.2)⟩, ⟨by (with_reducible repeat (first | apply Kd.R_alloc | apply Kd.R_drewN | apply Kd.R_drew)); exact Kd.R_mono HO629.out (fun _ hk => hk.2)⟩, ⟨by repeat (first | (with_reducible first | exact HB.out | apply below_alloc | apply pw_below_drewN | apply below_drew1) | exact HB.out)⟩⟩
                · rw [if_neg c21] at H
                  have c21b0 : (t626 == ((rd_T40 t621 t624).f1)) = false := beq_eq_false_iff_ne.mpr c21
                  have c21b1 : (t626 != ((rd_T40 t621 t624).f1)) = true := bne_iff_ne.mpr c21
                  have H' := Aside0.mk H
                  clear H
                  have p630 : 0 ≤ (t624 : Int) := of_decide_eq_true (by first | (with_reducible assumption) | assumption)
                  have q630 : t624 < (t621.length : Int) := of_decide_eq_true (by first | (with_reducible assumption) | assumption)
                  obtain ⟨ad630, e630, hx630_0, hx630_1⟩ := at_T40 (Kd.R_reads' HO623.out).2.2 t624 p630 q630
                  cases e630
                  replace p630 := eq_true p630
                  replace q630 := eq_true q630
                  go_wp2
                  go_meet
                  case rel => exact ⟨_, (true), (by first | rfl | (simp; done) | (simp [*]; done)), H', ⟨by first | omega | exact Nat.le_refl _⟩, ⟨by (with_reducible repeat (first | apply Kd.R_alloc | apply Kd.R_drewN | apply Kd.R_drew)); exact Kd.R_mono HO623.out (fun _ hk => hk.2)⟩, ⟨by (with_reducible repeat (first | apply Kd.R_alloc | apply Kd.R_drewN | apply Kd.R_drew)); exact Kd.R_mono HO629.out (fun _ hk => hk.2)⟩, ⟨by repeat (first | (with_reducible first | exact HB.out | apply below_alloc | apply pw_below_drewN | apply below_drew1) | exact HB.out)⟩⟩
              · rw [if_neg c20] at H
                exact absurd H (by simp)
            · rw [if_neg c19] at H
              exact absurd H (by simp)
          · replace c18 := Bool.eq_false_iff.mpr c18
            subst c18
            have H1 : (boscagelaw02_LeafPuts.j0 k a1 a2 t621 t625 (t626 != 0)) = some r := by rw [if_neg (show ¬ (false = true) by decide)] at H; exact H
            clear H
            have H := H1
            clear H1
            have H' := Aside0.mk H
            clear H
            go_wp2
            go_meet
            case rel => exact ⟨_, ((t626 != 0)), (by first | rfl | (simp; done) | (simp [*]; done)), H', ⟨by first | omega | exact Nat.le_refl _⟩, ⟨by (with_reducible repeat (first | apply Kd.R_alloc | apply Kd.R_drewN | apply Kd.R_drew)); exact Kd.R_mono HO623.out (fun _ hk => hk.2)⟩, ⟨by (with_reducible repeat (first | apply Kd.R_alloc | apply Kd.R_drewN | apply Kd.R_drew)); exact Kd.R_mono HO629.out (fun _ hk => hk.2)⟩, ⟨by repeat (first | (with_reducible first | exact HB.out | apply below_alloc | apply pw_below_drewN | apply below_drew1) | exact HB.out)⟩⟩
      case rest =>
        clear HC11
        try clear c1
        try clear c2
        try clear p2
        try clear c4
        try clear c5
        try clear c6
        try clear c6b0
        try clear c6b1
        try clear p6
        try clear q6
        try clear hx6
        try clear c15
        try clear c17
        try clear c17b0
        try clear c17b1
        try clear c17b2
        try clear c18
        try clear c19
        try clear c19b0
        try clear c20
        try clear c20b0
        try clear c21
        try clear c21b0
        try clear c21b1
        try clear hx630_0
        try clear hx630_1
        try clear p630
        try clear q630
        obtain ⟨kq, x53_10, rfl, HA, HJ10, HO_7, HO_9, HB⟩ := hcut
        cases kq with
        | zero => exact absurd HA.out (by simp [boscagelaw02_LeafPuts.j0])
        | succ kj10 =>
          have H := HA.out
          clear HA
          simp only [boscagelaw02_LeafPuts.j0] at H
          by_cases c22 : x53_10 = true
          · subst c22
            have H1 : (some false) = some r := by rw [if_pos rfl] at H; exact H
            clear H
            have H := H1
            clear H1
            obtain rfl := Option.some.inj H
            go_wp2
            go_ret
            exact ⟨by first | rfl | (simp [errW_none, errW_some] <;> rfl) | (simp [*, errW_none, errW_some] <;> rfl), by repeat (first | (with_reducible first | exact HB.out | apply below_alloc | apply pw_below_drewN | apply below_drew1) | exact HB.out)⟩
          · replace c22 := Bool.eq_false_iff.mpr c22
            subst c22
            have H1 : ((boscagelaw02_Put.f kj10 t621 a1 a2).bind fun t631 => ((boscagelaw02_Same.f kj10 t625 t631).bind fun t634 => (some t634))) = some r := by rw [if_neg (show ¬ (false = true) by decide)] at H; exact H
            clear H
            have H := H1
            clear H1
            replace H := Option.bind_eq_some_iff.mp H
            obtain ⟨t631, A230, H⟩ := H
            replace H : ((boscagelaw02_Same.f kj10 t625 t631).bind fun t634 => (some t634)) = some r := H
            have A23 := Aside0.mk A230
            clear A230
            replace H := Option.bind_eq_some_iff.mp H
            obtain ⟨t634, A240, H⟩ := H
            replace H : (some t634) = some r := H
            have A24 := Aside0.mk A240
            clear A240
            obtain rfl := Option.some.inj H
            go_wp2_with (first | ((with_reducible refine gate_callee (f := 69) rfl ?_); refine goesL_ (some 58) rfl rfl Try.func69 (by kernel_rfl) rfl #[.slice Ao14 t621.length co14, .int .i64 a1, .int .i64 a2] rfl (by (try simp only [List.map_toArray, List.map_cons, List.map_nil]); first | done | rfl | (simp only [List.length_drop, List.length_take]; rfl)) ?_; (with_reducible refine (boscagelaw02_Put.calls kj10 _ _ t621 a1 a2 t631 _ ?side1 ?side2 A23.out).mono ?_); (case side1 => repeat (first | exact (Kd.R_reads' HO_7.out).2.2 | (with_reducible refine Kd.C_alloc ?_ _) | (with_reducible refine Kd.C_drewN ?_ _) | (with_reducible refine Kd.C_drew ?_))); (case side2 => exact (Kd.R_reads' HO_7.out).2.1); rintro e w25 ⟨v632, rfl, ho0, hb⟩; refine ⟨_, rfl, ?_⟩; have n0_ := Aside0.mk (Kd.R_elder' (by (with_reducible repeat (first | apply Kd.R_alloc | apply Kd.R_drewN | apply Kd.R_drew)); exact HO_7.out) (Kd.R_base ho0) hb); have n1_ := Aside0.mk (Kd.R_elder' (by (with_reducible repeat (first | apply Kd.R_alloc | apply Kd.R_drewN | apply Kd.R_drew)); exact HO_9.out) (Kd.R_base ho0) hb); have n2_ := Aside0.mk (Kd.R_lower (Kd.R_new' (Kd.R_new' ho0 (Kd.R_lt (by (with_reducible repeat (first | apply Kd.R_alloc | apply Kd.R_drewN | apply Kd.R_drew)); exact HO_7.out))) (Kd.R_lt (by (with_reducible repeat (first | apply Kd.R_alloc | apply Kd.R_drewN | apply Kd.R_drew)); exact HO_9.out))) (below_size (by repeat (first | (with_reducible first | exact HB.out | apply below_alloc | apply pw_below_drewN | apply below_drew1) | exact HB.out)))); have n3_ := Aside0.mk (below_step (by repeat (first | (with_reducible first | exact HB.out | apply below_alloc | apply pw_below_drewN | apply below_drew1) | exact HB.out)) hb); clear HO_7; clear HO_9; clear HB; have HO_7 := n0_; have HO_9 := n1_; have HO633 := n2_; have HB := n3_; clear n0_ n1_ n2_ n3_; (try clear hb); (try clear hb2); (try clear hk); (try clear hi); (try clear ho0); obtain ⟨Ao26, co26, eo26⟩ := Kd.R_slice HO_9.out; subst eo26; obtain ⟨Ao27, co27, eo27⟩ := Kd.R_slice HO633.out; subst eo27) | ((with_reducible refine gate_callee (f := 48) rfl ?_); refine goesL_ (some 59) rfl rfl Try.func48 (by kernel_rfl) rfl #[.slice Ao26 t625.length co26, .slice Ao27 t631.length co27] rfl (by (try simp only [List.map_toArray, List.map_cons, List.map_nil]); first | done | rfl | (simp only [List.length_drop, List.length_take]; rfl)) ?_; (with_reducible refine (boscagelaw02_Same.calls kj10 _ _ t625 _ _ t631 t634 _ ?side1 ?side2 ?side3 ?side4 A24.out).mono ?_); (case side1 => repeat (first | exact (Kd.R_reads' HO_9.out).2.2 | (with_reducible refine Kd.C_alloc ?_ _) | (with_reducible refine Kd.C_drewN ?_ _) | (with_reducible refine Kd.C_drew ?_))); (case side2 => exact (Kd.R_reads' HO_9.out).2.1); (case side3 => repeat (first | exact (Kd.R_reads' HO633.out).2.2 | (with_reducible refine Kd.C_alloc ?_ _) | (with_reducible refine Kd.C_drewN ?_ _) | (with_reducible refine Kd.C_drew ?_))); (case side4 => exact (Kd.R_reads' HO633.out).2.1); rintro e w' ⟨rfl, ⟨nd, rfl⟩⟩; refine ⟨_, rfl, ?_⟩))
            go_ret
            exact ⟨by first | rfl | (simp [errW_none, errW_some] <;> rfl) | (simp [*, errW_none, errW_some] <;> rfl), by repeat (first | (with_reducible first | exact HB.out | apply below_alloc | apply pw_below_drewN | apply below_drew1) | exact HB.out)⟩
  · replace c5 := Bool.eq_false_iff.mpr c5
    subst c5
    have H1 : (some false) = some r := by rw [if_neg (show ¬ (false = true) by decide)] at H; exact H
    clear H
    have H := H1
    clear H1
    obtain rfl := Option.some.inj H
    go_enter Try.func15, Try.ntmps15
    go_wp2_with (first | ((with_reducible refine gate_callee (f := 43) rfl ?_); refine goesL_ (some 12) rfl rfl Try.func43 (by kernel_rfl) rfl #[] rfl (by (try simp only [List.map_toArray, List.map_cons, List.map_nil]); first | done | rfl | (simp only [List.length_drop, List.length_take]; rfl)) ?_; (with_reducible refine (boscagelaw02_Awake.calls  false _ A4.out).mono ?_); rintro e w28 ⟨rfl, hb⟩; refine ⟨_, rfl, ?_⟩; have n0_ := Aside0.mk (below_step (by repeat (first | (with_reducible first | exact HB.out | apply below_alloc | apply pw_below_drewN | apply below_drew1) | exact HB.out)) hb); clear HB; have HB := n0_; clear n0_; (try clear hb); (try clear hb2); (try clear hk); (try clear hi)))
    go_ret
    exact ⟨by first | rfl | (simp [errW_none, errW_some] <;> rfl) | (simp [*, errW_none, errW_some] <;> rfl), by repeat (first | (with_reducible first | exact HB.out | apply below_alloc | apply pw_below_drewN | apply below_drew1) | exact HB.out)⟩

/-- THE ONE PURE STATEMENT of boscagelaw02_LeafPuts: yours. -/
def boscagelaw02_LeafPuts.Pure : Prop := ∀ (l0 : List Int) (a1 : Int) (a2 : Int), l0.length ≤ maxLen → l0.length * 8 ≤ 140737488351232 → (∀ x ∈ l0, (Lit.int .i64 x).wf = true) → (Lit.int .i64 a1).wf = true → (Lit.int .i64 a2).wf = true → ∃ k, boscagelaw02_LeafPuts.f k l0 a1 a2 = some true
theorem boscagelaw02_LeafPuts.walk (P : boscagelaw02_LeafPuts.Pure) (a0 : Option Addr) (len0 cap0 : Nat) (z0 : List Int) (a1 : Int) (a2 : Int) (w : World) (w0 : (a0 = none ∧ len0 = 0 ∧ cap0 = 0 ∧ z0 = []) ∨ ∃ x, a0 = some x ∧ len0 ≤ cap0 ∧ cap0 ≤ maxLen ∧ z0.length = cap0 ∧ (∀ i, i < z0.length → w.cell? (x.add i) = some (.int .i64 (z0.getD i 0))) ∧ ∀ n ∈ z0, (Lit.int .i64 n).wf = true) (y0 : len0 * 8 ≤ 140737488351232) (w1 : (Lit.int .i64 a1).wf = true) (w2 : (Lit.int .i64 a2).wf = true) :
    Calls Try.prog 15 #[.slice a0 len0 cap0, .int .i64 a1, .int .i64 a2] w fun e w' => e = .returned (.bool true) ∧ Below w.heap.size w w' := by
  obtain ⟨l0, rfl, hr0, hm0, hw0, hc0⟩ := ReadsInt.ofRowC w0
  obtain ⟨k, h⟩ := P l0 a1 a2 hm0 y0 hw0 w1 w2
  refine (boscagelaw02_LeafPuts.calls k _ _ l0 a1 a2 true w (Kd.C_of_reads (d := (0 : Int)) (h1 := fun _ => rfl) hr0) hc0 h).mono ?_
  rintro e w' ⟨rfl, hd⟩
  exact ⟨rfl, hd⟩

end Go.Proofs.Ytkoiffkonjpoiaa.Q
