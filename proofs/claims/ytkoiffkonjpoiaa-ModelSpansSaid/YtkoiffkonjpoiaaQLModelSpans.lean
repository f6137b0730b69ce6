/- Go functions of the program as plain Lean functions, and for each the contract that the call comes to its answers; written by a turned print of this session. -/
import Derived.Test.YtkoiffkonjpoiaaQ0
import Derived.Test.YtkoiffkonjpoiaaQC1
import Derived.Test.YtkoiffkonjpoiaaQC3
namespace Go.Proofs.Ytkoiffkonjpoiaa.Q
open Go.RowKit Go.Proofs.YtkoiffkonjpoiaaW.PrintWords Go.Proofs.YtkoiffkonjpoiaaW.PrintLast Go.Proofs.YtkoiffkonjpoiaaW.PrintMore Go.Proofs.YtkoiffkonjpoiaaX
attribute [local go_sem] max2_int min2_int max_two min_two max_three min_three max_four min_four   -- for this text's walks alone
set_option linter.unusedVariables false
set_option linter.unusedSimpArgs false

/-! ### boscagelaw18_ModelSpans: function 19 -/
def boscagelaw18_ModelSpans.j0 : Nat → Int → Int → Int → Bool → Int → Bool → Int → Int → Int → Int → Option (Bool)
  | 0, _, _, _, _, _, _, _, _, _, _ => none
  | k + 1, x1, x5, x6, x7, x18, x41, x817000, x817001, x817002, x817003 => if x41 = true then (if x7 = true then (if x5 ≤ x1 then (some (true == (decide (x1 ≤ x6)))) else (some (true == false))) else (some false)) else (if x18 = 8 then (if x817001 = (-9223372036854775808) then (if x5 = 1 then (if x6 = 0 then (if x7 = true then (if x5 ≤ x1 then (some ((decide (x1 < x817001)) == (decide (x1 ≤ x6)))) else (some ((decide (x1 < x817001)) == false))) else (some false)) else (some false)) else (some false)) else (if x7 = true then (if x5 ≤ x1 then (some ((decide (x1 < x817001)) == (decide (x1 ≤ x6)))) else (some ((decide (x1 < x817001)) == false))) else (some false))) else (if x18 = 10 then (if x1 ≥ x817001 then (if x7 = true then (if x5 ≤ x1 then (some ((decide (x1 ≤ x817002)) == (decide (x1 ≤ x6)))) else (some ((decide (x1 ≤ x817002)) == false))) else (some false)) else (if x7 = true then (if x5 ≤ x1 then (some (false == (decide (x1 ≤ x6)))) else (some (false == false))) else (some false))) else (if x18 = 11 then (if x1 ≥ x817001 then (if x7 = true then (if x5 ≤ x1 then (some ((decide (x1 ≤ x817002)) == (decide (x1 ≤ x6)))) else (some ((decide (x1 ≤ x817002)) == false))) else (some false)) else (if x7 = true then (if x5 ≤ x1 then (some (false == (decide (x1 ≤ x6)))) else (some (false == false))) else (some false))) else (if x7 = true then (some false) else (if x5 = 0 then (some (x6 == 0)) else (some false))))))
def boscagelaw18_ModelSpans.f (k : Nat) (a0_0 : Int) (a0_1 : Int) (a0_2 : Int) (a0_3 : Int) (a1 : Int) : Option (Bool) := (boscagelaw18_Awake.f k).bind fun t817 => (if t817 = true then ((model_Op_Span.f k a0_0 a0_1 a0_2 a0_3).bind fun bt818 => (if a0_0 = 4 then (if bt818.2.2 = true then (if bt818.1 ≤ a1 then (some ((decide (a1 ≤ a0_1)) == (decide (a1 ≤ bt818.2.1)))) else (some ((decide (a1 ≤ a0_1)) == false))) else (some false)) else (if a0_0 = 5 then (if bt818.2.2 = true then (if bt818.1 ≤ a1 then (some ((decide (a1 ≥ a0_1)) == (decide (a1 ≤ bt818.2.1)))) else (some ((decide (a1 ≥ a0_1)) == false))) else (some false)) else (if a0_0 = 6 then (boscagelaw18_ModelSpans.j0 k a1 bt818.1 bt818.2.1 bt818.2.2 a0_0 (a0_0 == 6) a0_0 a0_1 a0_2 a0_3) else (if a0_0 = 7 then (boscagelaw18_ModelSpans.j0 k a1 bt818.1 bt818.2.1 bt818.2.2 a0_0 (a0_0 == 7) a0_0 a0_1 a0_2 a0_3) else (boscagelaw18_ModelSpans.j0 k a1 bt818.1 bt818.2.1 bt818.2.2 a0_0 (a0_0 == 9) a0_0 a0_1 a0_2 a0_3)))))) else (some false))
theorem boscagelaw18_ModelSpans.mono_l : ∀ k, (∀ y0 y1 y2 y3 y4 y5 y6 y7 y8 y9, LeO (boscagelaw18_ModelSpans.j0 k y0 y1 y2 y3 y4 y5 y6 y7 y8 y9) (boscagelaw18_ModelSpans.j0 (k + 1) y0 y1 y2 y3 y4 y5 y6 y7 y8 y9))
  | 0 => fun _ _ _ _ _ _ _ _ _ _ r h => by simp [boscagelaw18_ModelSpans.j0] at h
  | k + 1 => by
    have ih0 := boscagelaw18_ModelSpans.mono_l k
    · intro y0 y1 y2 y3 y4 y5 y6 y7 y8 y9
      unfold boscagelaw18_ModelSpans.j0
      repeat' first
      | (with_reducible exact ih0 _ _ _ _ _ _ _ _ _ _)
      | (with_reducible exact boscagelaw18_Awake.mono _)
      | (with_reducible exact model_Op_Span.mono _ _ _ _ _)
      | (with_reducible exact LeO.refl _)
      | (with_reducible exact LeO.none _)
      | (with_reducible refine LeO.ite ?_ ?_)
      | (with_reducible refine LeO.bind ?_ (fun _ => ?_))
      | exact ih0 _ _ _ _ _ _ _ _ _ _
      | exact boscagelaw18_Awake.mono _
      | exact model_Op_Span.mono _ _ _ _ _
      | exact LeO.none _
      | refine LeO.ite ?_ ?_
      | refine LeO.bind ?_ (fun _ => ?_)
theorem boscagelaw18_ModelSpans.mono : ∀ a0 a1 a2 a3 a4 k, LeO (boscagelaw18_ModelSpans.f k a0 a1 a2 a3 a4) (boscagelaw18_ModelSpans.f (k + 1) a0 a1 a2 a3 a4) := by
  intro a0 a1 a2 a3 a4 k
  have ih0 := boscagelaw18_ModelSpans.mono_l k
  unfold boscagelaw18_ModelSpans.f
  repeat' first
      | (with_reducible exact ih0 _ _ _ _ _ _ _ _ _ _)
      | (with_reducible exact boscagelaw18_Awake.mono _)
      | (with_reducible exact model_Op_Span.mono _ _ _ _ _)
      | (with_reducible exact LeO.refl _)
      | (with_reducible exact LeO.none _)
      | (with_reducible refine LeO.ite ?_ ?_)
      | (with_reducible refine LeO.bind ?_ (fun _ => ?_))
      | exact ih0 _ _ _ _ _ _ _ _ _ _
      | exact boscagelaw18_Awake.mono _
      | exact model_Op_Span.mono _ _ _ _ _
      | exact LeO.none _
      | refine LeO.ite ?_ ?_
      | refine LeO.bind ?_ (fun _ => ?_)
set_option maxHeartbeats 8000000 in
set_option maxRecDepth 100000 in
theorem boscagelaw18_ModelSpans.calls (k : Nat) (a0_0 : Int) (a0_1 : Int) (a0_2 : Int) (a0_3 : Int) (a1 : Int) (r : Bool) (w : World) (h : boscagelaw18_ModelSpans.f k a0_0 a0_1 a0_2 a0_3 a1 = some r) :
    Calls Try.prog 19 #[.agg #[.int .u8 a0_0, .int .i64 a0_1, .int .i64 a0_2, .int .i64 a0_3], .int .i64 a1] w fun e w' => e = .returned (.bool r) ∧ Below w.heap.size w w' := by
  have hu78 := Try.underlying78
  have HB := Aside0.mk (Below.refl w.heap.size w)
  have H : ((boscagelaw18_Awake.f k).bind fun t817 => (if t817 = true then ((model_Op_Span.f k a0_0 a0_1 a0_2 a0_3).bind fun bt818 => (if a0_0 = 4 then (if bt818.2.2 = true then (if bt818.1 ≤ a1 then (some ((decide (a1 ≤ a0_1)) == (decide (a1 ≤ bt818.2.1)))) else (some ((decide (a1 ≤ a0_1)) == false))) else (some false)) else (if a0_0 = 5 then (if bt818.2.2 = true then (if bt818.1 ≤ a1 then (some ((decide (a1 ≥ a0_1)) == (decide (a1 ≤ bt818.2.1)))) else (some ((decide (a1 ≥ a0_1)) == false))) else (some false)) else (if a0_0 = 6 then (boscagelaw18_ModelSpans.j0 k a1 bt818.1 bt818.2.1 bt818.2.2 a0_0 (a0_0 == 6) a0_0 a0_1 a0_2 a0_3) else (if a0_0 = 7 then (boscagelaw18_ModelSpans.j0 k a1 bt818.1 bt818.2.1 bt818.2.2 a0_0 (a0_0 == 7) a0_0 a0_1 a0_2 a0_3) else (boscagelaw18_ModelSpans.j0 k a1 bt818.1 bt818.2.1 bt818.2.2 a0_0 (a0_0 == 9) a0_0 a0_1 a0_2 a0_3)))))) else (some false))) = some r := h
  clear h
  replace H := Option.bind_eq_some_iff.mp H
  obtain ⟨t817, A30, H⟩ := H
  replace H : (if t817 = true then ((model_Op_Span.f k a0_0 a0_1 a0_2 a0_3).bind fun bt818 => (if a0_0 = 4 then (if bt818.2.2 = true then (if bt818.1 ≤ a1 then (some ((decide (a1 ≤ a0_1)) == (decide (a1 ≤ bt818.2.1)))) else (some ((decide (a1 ≤ a0_1)) == false))) else (some false)) else (if a0_0 = 5 then (if bt818.2.2 = true then (if bt818.1 ≤ a1 then (some ((decide (a1 ≥ a0_1)) == (decide (a1 ≤ bt818.2.1)))) else (some ((decide (a1 ≥ a0_1)) == false))) else (some false)) else (if a0_0 = 6 then (boscagelaw18_ModelSpans.j0 k a1 bt818.1 bt818.2.1 bt818.2.2 a0_0 (a0_0 == 6) a0_0 a0_1 a0_2 a0_3) else (if a0_0 = 7 then (boscagelaw18_ModelSpans.j0 k a1 bt818.1 bt818.2.1 bt818.2.2 a0_0 (a0_0 == 7) a0_0 a0_1 a0_2 a0_3) else (boscagelaw18_ModelSpans.j0 k a1 bt818.1 bt818.2.1 bt818.2.2 a0_0 (a0_0 == 9) a0_0 a0_1 a0_2 a0_3)))))) else (some false)) = some r := H
  have A3 := Aside0.mk A30
  clear A30
  by_cases c4 : t817 = true
  · subst c4
    have H1 : ((model_Op_Span.f k a0_0 a0_1 a0_2 a0_3).bind fun bt818 => (if a0_0 = 4 then (if bt818.2.2 = true then (if bt818.1 ≤ a1 then (some ((decide (a1 ≤ a0_1)) == (decide (a1 ≤ bt818.2.1)))) else (some ((decide (a1 ≤ a0_1)) == false))) else (some false)) else (if a0_0 = 5 then (if bt818.2.2 = true then (if bt818.1 ≤ a1 then (some ((decide (a1 ≥ a0_1)) == (decide (a1 ≤ bt818.2.1)))) else (some ((decide (a1 ≥ a0_1)) == false))) else (some false)) else (if a0_0 = 6 then (boscagelaw18_ModelSpans.j0 k a1 bt818.1 bt818.2.1 bt818.2.2 a0_0 (a0_0 == 6) a0_0 a0_1 a0_2 a0_3) else (if a0_0 = 7 then (boscagelaw18_ModelSpans.j0 k a1 bt818.1 bt818.2.1 bt818.2.2 a0_0 (a0_0 == 7) a0_0 a0_1 a0_2 a0_3) else (boscagelaw18_ModelSpans.j0 k a1 bt818.1 bt818.2.1 bt818.2.2 a0_0 (a0_0 == 9) a0_0 a0_1 a0_2 a0_3)))))) = some r := by rw [if_pos rfl] at H; exact H
    clear H
    have H := H1
    clear H1
    replace H := Option.bind_eq_some_iff.mp H
    obtain ⟨⟨t818, t819, t820⟩, A50, H⟩ := H
    replace H : (if a0_0 = 4 then (if t820 = true then (if t818 ≤ a1 then (some ((decide (a1 ≤ a0_1)) == (decide (a1 ≤ t819)))) else (some ((decide (a1 ≤ a0_1)) == false))) else (some false)) else (if a0_0 = 5 then (if t820 = true then (if t818 ≤ a1 then (some ((decide (a1 ≥ a0_1)) == (decide (a1 ≤ t819)))) else (some ((decide (a1 ≥ a0_1)) == false))) else (some false)) else (if a0_0 = 6 then (boscagelaw18_ModelSpans.j0 k a1 t818 t819 t820 a0_0 (a0_0 == 6) a0_0 a0_1 a0_2 a0_3) else (if a0_0 = 7 then (boscagelaw18_ModelSpans.j0 k a1 t818 t819 t820 a0_0 (a0_0 == 7) a0_0 a0_1 a0_2 a0_3) else (boscagelaw18_ModelSpans.j0 k a1 t818 t819 t820 a0_0 (a0_0 == 9) a0_0 a0_1 a0_2 a0_3))))) = some r := H
    have A5 := Aside0.mk A50
    clear A50
    by_cases c6 : a0_0 = 4
    · rw [if_pos c6] at H
      have c6b0 : (a0_0 == 4) = true := beq_iff_eq.mpr c6
      have c6b1 : (a0_0 != 4) = false := bne_eq_false_iff_eq.mpr c6
      clear c6
      by_cases c7 : t820 = true
      · subst c7
        have H1 : (if t818 ≤ a1 then (some ((decide (a1 ≤ a0_1)) == (decide (a1 ≤ t819)))) else (some ((decide (a1 ≤ a0_1)) == false))) = some r := by rw [if_pos rfl] at H; exact H
        clear H
        have H := H1
        clear H1
        by_cases c8 : t818 ≤ a1
        · rw [if_pos c8] at H
          have c8b0 : decide (t818 ≤ a1) = true := decide_eq_true c8
          clear c8
          obtain rfl := Option.some.inj H
          go_enter Try.func19, Try.ntmps19
          go_wp2_with (first | ((with_reducible refine gate_dst (N := 2) rfl ?_); refine box_event ?hg (N := 2) ?hd (cs := #[.int .u8 a0_0, .int .i64 a0_1, .int .i64 a0_2, .int .i64 a0_3]) (t := 78) ?hr ?_; (case hd => rfl); (case hg => rfl); (case hr => first | (go_simp; done) | (go_simp; rfl)); intro gb816 hg w9 hbox hb; have n0_ := Aside0.mk (below_step (by repeat (first | (with_reducible first | exact HB.out | apply below_alloc | apply pw_below_drewN | apply below_drew1) | exact HB.out)) hb); have n1_ := Aside0.mk (hbox); have n2_ := Aside0.mk ((by rw [hg]; exact (below_size (by repeat (first | (with_reducible first | exact HB.out | apply below_alloc | apply pw_below_drewN | apply below_drew1) | exact HB.out))) : w.heap.size ≤ gb816)); have n3_ := Aside0.mk ((by rw [hg]; exact (below_size (by repeat (first | (with_reducible first | exact HB.out | apply below_alloc | apply pw_below_drewN | apply below_drew1) | exact HB.out))) : w.heap.size ≤ gb816)); clear HB; have HB := n0_; have BK816 := n1_; have GW816 := n2_; have GE816 := n3_; clear n0_ n1_ n2_ n3_; clear hb hbox hg) | ((with_reducible refine gate_callee (f := 70) rfl ?_); refine goesL_ (some 9) rfl rfl Try.func70 (by kernel_rfl) rfl #[] rfl (by (try simp only [List.map_toArray, List.map_cons, List.map_nil]); first | done | rfl | (simp only [List.length_drop, List.length_take]; rfl)) ?_; (with_reducible refine (boscagelaw18_Awake.calls k  true _ A3.out).mono ?_); rintro e w10 ⟨rfl, hb⟩; refine ⟨_, rfl, ?_⟩; have n0_ := Aside0.mk (blk_below (g := gb816) (o := .cells #[.int .u8 a0_0, .int .i64 a0_1, .int .i64 a0_2, .int .i64 a0_3] 78 (0, 0)) (by (with_reducible repeat (first | refine blk_drewN ?_ _ | refine blk_drew ?_ | refine blk_alloc ?_ _)); exact BK816.out) hb); have n1_ := Aside0.mk (below_step (by repeat (first | (with_reducible first | exact HB.out | apply below_alloc | apply pw_below_drewN | apply below_drew1 | refine below_set ?_ GE816.out) | exact HB.out)) hb); clear BK816; clear HB; have BK816 := n0_; have HB := n1_; clear n0_ n1_; (try clear hb); (try clear hb2); (try clear hk); (try clear hi); have hcz11_0 : w10.cell? ⟨gb816, 0, none⟩ = some (.int .u8 a0_0) := (blk_cell BK816.out 0).trans rfl; have hcz11_1 : w10.cell? ⟨gb816, 1, none⟩ = some (.int .i64 a0_1) := (blk_cell BK816.out 1).trans rfl; have hcz11_2 : w10.cell? ⟨gb816, 2, none⟩ = some (.int .i64 a0_2) := (blk_cell BK816.out 2).trans rfl; have hcz11_3 : w10.cell? ⟨gb816, 3, none⟩ = some (.int .i64 a0_3) := (blk_cell BK816.out 3).trans rfl; have hfz11_0 := blk_frozen BK816.out 0; have hfz11_1 := blk_frozen BK816.out 1; have hfz11_2 := blk_frozen BK816.out 2; have hfz11_3 := blk_frozen BK816.out 3) | ((with_reducible refine gate_callee (f := 71) rfl ?_); refine goesL_ (some 13) rfl rfl Try.func71 (by kernel_rfl) rfl #[.agg #[.int .u8 a0_0, .int .i64 a0_1, .int .i64 a0_2, .int .i64 a0_3]] rfl (by (try simp only [List.map_toArray, List.map_cons, List.map_nil]); first | done | rfl | (simp only [List.length_drop, List.length_take]; rfl)) ?_; (with_reducible refine (model_Op_Span.calls k a0_0 a0_1 a0_2 a0_3 t818 t819 true _ A5.out).mono ?_); rintro e w12 ⟨rfl, hb⟩; refine ⟨_, rfl, ?_⟩; have n0_ := Aside0.mk (blk_below (g := gb816) (o := .cells #[.int .u8 a0_0, .int .i64 a0_1, .int .i64 a0_2, .int .i64 a0_3] 78 (0, 0)) (by (with_reducible repeat (first | refine blk_drewN ?_ _ | refine blk_drew ?_ | refine blk_alloc ?_ _)); exact BK816.out) hb); have n1_ := Aside0.mk (below_step (by repeat (first | (with_reducible first | exact HB.out | apply below_alloc | apply pw_below_drewN | apply below_drew1 | refine below_set ?_ GE816.out) | exact HB.out)) hb); clear BK816; clear HB; have BK816 := n0_; have HB := n1_; clear n0_ n1_; (try clear hb); (try clear hb2); (try clear hk); (try clear hi); have hcz13_0 : w12.cell? ⟨gb816, 0, none⟩ = some (.int .u8 a0_0) := (blk_cell BK816.out 0).trans rfl; have hcz13_1 : w12.cell? ⟨gb816, 1, none⟩ = some (.int .i64 a0_1) := (blk_cell BK816.out 1).trans rfl; have hcz13_2 : w12.cell? ⟨gb816, 2, none⟩ = some (.int .i64 a0_2) := (blk_cell BK816.out 2).trans rfl; have hcz13_3 : w12.cell? ⟨gb816, 3, none⟩ = some (.int .i64 a0_3) := (blk_cell BK816.out 3).trans rfl; have hfz13_0 := blk_frozen BK816.out 0; have hfz13_1 := blk_frozen BK816.out 1; have hfz13_2 := blk_frozen BK816.out 2; have hfz13_3 := blk_frozen BK816.out 3))
          go_ret
          exact ⟨by first | rfl | (simp [errW_none, errW_some] <;> rfl) | (simp [*, errW_none, errW_some] <;> rfl), by repeat (first | (with_reducible first | exact HB.out | apply below_alloc | apply pw_below_drewN | apply below_drew1 | refine below_set ?_ GE816.out) | exact HB.out)⟩
        · rw [if_neg c8] at H
          have c8b0 : decide (t818 ≤ a1) = false := decide_eq_false c8
          clear c8
          obtain rfl := Option.some.inj H
          go_enter Try.func19, Try.ntmps19
          go_wp2_with (first | ((with_reducible refine gate_dst (N := 2) rfl ?_); refine box_event ?hg (N := 2) ?hd (cs := #[.int .u8 a0_0, .int .i64 a0_1, .int .i64 a0_2, .int .i64 a0_3]) (t := 78) ?hr ?_; (case hd => rfl); (case hg => rfl); (case hr => first | (go_simp; done) | (go_simp; rfl)); intro gb816 hg w14 hbox hb; have n0_ := Aside0.mk (below_step (by repeat (first | (with_reducible first | exact HB.out | apply below_alloc | apply pw_below_drewN | apply below_drew1) | exact HB.out)) hb); have n1_ := Aside0.mk (hbox); have n2_ := Aside0.mk ((by rw [hg]; exact (below_size (by repeat (first | (with_reducible first | exact HB.out | apply below_alloc | apply pw_below_drewN | apply below_drew1) | exact HB.out))) : w.heap.size ≤ gb816)); have n3_ := Aside0.mk ((by rw [hg]; exact (below_size (by repeat (first | (with_reducible first | exact HB.out | apply below_alloc | apply pw_below_drewN | apply below_drew1) | exact HB.out))) : w.heap.size ≤ gb816)); clear HB; have HB := n0_; have BK816 := n1_; have GW816 := n2_; have GE816 := n3_; clear n0_ n1_ n2_ n3_; clear hb hbox hg) | ((with_reducible refine gate_callee (f := 70) rfl ?_); refine goesL_ (some 9) rfl rfl Try.func70 (by kernel_rfl) rfl #[] rfl (by (try simp only [List.map_toArray, List.map_cons, List.map_nil]); first | done | rfl | (simp only [List.length_drop, List.length_take]; rfl)) ?_; (with_reducible refine (boscagelaw18_Awake.calls k  true _ A3.out).mono ?_); rintro e w15 ⟨rfl, hb⟩; refine ⟨_, rfl, ?_⟩; have n0_ := Aside0.mk (blk_below (g := gb816) (o := .cells #[.int .u8 a0_0, .int .i64 a0_1, .int .i64 a0_2, .int .i64 a0_3] 78 (0, 0)) (by (with_reducible repeat (first | refine blk_drewN ?_ _ | refine blk_drew ?_ | refine blk_alloc ?_ _)); exact BK816.out) hb); have n1_ := Aside0.mk (below_step (by repeat (first | (with_reducible first | exact HB.out | apply below_alloc | apply pw_below_drewN | apply below_drew1 | refine below_set ?_ GE816.out) | exact HB.out)) hb); clear BK816; clear HB; have BK816 := n0_; have HB := n1_; clear n0_ n1_; (try clear hb); (try clear hb2); (try clear hk); (try clear hi); have hcz16_0 : w15.cell? ⟨gb816, 0, none⟩ = some (.int .u8 a0_0) := (blk_cell BK816.out 0).trans rfl; have hcz16_1 : w15.cell? ⟨gb816, 1, none⟩ = some (.int .i64 a0_1) := (blk_cell BK816.out 1).trans rfl; have hcz16_2 : w15.cell? ⟨gb816, 2, none⟩ = some (.int .i64 a0_2) := (blk_cell BK816.out 2).trans rfl; have hcz16_3 : w15.cell? ⟨gb816, 3, none⟩ = some (.int .i64 a0_3) := (blk_cell BK816.out 3).trans rfl; have hfz16_0 := blk_frozen BK816.out 0; have hfz16_1 := blk_frozen BK816.out 1; have hfz16_2 := blk_frozen BK816.out 2; have hfz16_3 := blk_frozen BK816.out 3) | ((with_reducible refine gate_callee (f := 71) rfl ?_); refine goesL_ (some 13) rfl rfl Try.func71 (by kernel_rfl) rfl #[.agg #[.int .u8 a0_0, .int .i64 a0_1, .int .i64 a0_2, .int .i64 a0_3]] rfl (by (try simp only [List.map_toArray, List.map_cons, List.map_nil]); first | done | rfl | (simp only [List.length_drop, List.length_take]; rfl)) ?_; (with_reducible refine (model_Op_Span.calls k a0_0 a0_1 a0_2 a0_3 t818 t819 true _ A5.out).mono ?_); rintro e w17 ⟨rfl, hb⟩; refine ⟨_, rfl, ?_⟩; have n0_ := Aside0.mk (blk_below (g := gb816) (o := .cells #[.int .u8 a0_0, .int .i64 a0_1, .int .i64 a0_2, .int .i64 a0_3] 78 (0, 0)) (by (with_reducible repeat (first | refine blk_drewN ?_ _ | refine blk_drew ?_ | refine blk_alloc ?_ _)); exact BK816.out) hb); have n1_ := Aside0.mk (below_step (by repeat (first | (with_reducible first | exact HB.out | apply below_alloc | apply pw_below_drewN | apply below_drew1 | refine below_set ?_ GE816.out) | exact HB.out)) hb); clear BK816; clear HB; have BK816 := n0_; have HB := n1_; clear n0_ n1_; (try clear hb); (try clear hb2); (try clear hk); (try clear hi); have hcz18_0 : w17.cell? ⟨gb816, 0, none⟩ = some (.int .u8 a0_0) := (blk_cell BK816.out 0).trans rfl; have hcz18_1 : w17.cell? ⟨gb816, 1, none⟩ = some (.int .i64 a0_1) := (blk_cell BK816.out 1).trans rfl; have hcz18_2 : w17.cell? ⟨gb816, 2, none⟩ = some (.int .i64 a0_2) := (blk_cell BK816.out 2).trans rfl; have hcz18_3 : w17.cell? ⟨gb816, 3, none⟩ = some (.int .i64 a0_3) := (blk_cell BK816.out 3).trans rfl; have hfz18_0 := blk_frozen BK816.out 0; have hfz18_1 := blk_frozen BK816.out 1; have hfz18_2 := blk_frozen BK816.out 2; have hfz18_3 := blk_frozen BK816.out 3))
          go_ret
          exact ⟨by first | rfl | (simp [errW_none, errW_some] <;> rfl) | (simp [*, errW_none, errW_some] <;> rfl), by repeat (first | (with_reducible first | exact HB.out | apply below_alloc | apply pw_below_drewN | apply below_drew1 | refine below_set ?_ GE816.out) | exact HB.out)⟩
      · replace c7 := Bool.eq_false_iff.mpr c7
        subst c7
        have H1 : (some false) = some r := by rw [if_neg (show ¬ (false = true) by decide)] at H; exact H
        clear H
        have H := H1
        clear H1
        obtain rfl := Option.some.inj H
        go_enter Try.func19, Try.ntmps19
        go_wp2_with (first | ((with_reducible refine gate_dst (N := 2) rfl ?_); refine box_event ?hg (N := 2) ?hd (cs := #[.int .u8 a0_0, .int .i64 a0_1, .int .i64 a0_2, .int .i64 a0_3]) (t := 78) ?hr ?_; (case hd => rfl); (case hg => rfl); (case hr => first | (go_simp; done) | (go_simp; rfl)); intro gb816 hg w19 hbox hb; have n0_ := Aside0.mk (below_step (by repeat (first | (with_reducible first | exact HB.out | apply below_alloc | apply pw_below_drewN | apply below_drew1) | exact HB.out)) hb); have n1_ := Aside0.mk (hbox); have n2_ := Aside0.mk ((by rw [hg]; exact (below_size (by repeat (first | (with_reducible first | exact HB.out | apply below_alloc | apply pw_below_drewN | apply below_drew1) | exact HB.out))) : w.heap.size ≤ gb816)); have n3_ := Aside0.mk ((by rw [hg]; exact (below_size (by repeat (first | (with_reducible first | exact HB.out | apply below_alloc | apply pw_below_drewN | apply below_drew1) | exact HB.out))) : w.heap.size ≤ gb816)); clear HB; have HB := n0_; have BK816 := n1_; have GW816 := n2_; have GE816 := n3_; clear n0_ n1_ n2_ n3_; clear hb hbox hg) | ((with_reducible refine gate_callee (f := 70) rfl ?_); refine goesL_ (some 9) rfl rfl Try.func70 (by kernel_rfl) rfl #[] rfl (by (try simp only [List.map_toArray, List.map_cons, List.map_nil]); first | done | rfl | (simp only [List.length_drop, List.length_take]; rfl)) ?_; (with_reducible refine (boscagelaw18_Awake.calls k  true _ A3.out).mono ?_); rintro e w20 ⟨rfl, hb⟩; refine ⟨_, rfl, ?_⟩; have n0_ := Aside0.mk (blk_below (g := gb816) (o := .cells #[.int .u8 a0_0, .int .i64 a0_1, .int .i64 a0_2, .int .i64 a0_3] 78 (0, 0)) (by (with_reducible repeat (first | refine blk_drewN ?_ _ | refine blk_drew ?_ | refine blk_alloc ?_ _)); exact BK816.out) hb); have n1_ := Aside0.mk (below_step (by repeat (first | (with_reducible first | exact HB.out | apply below_alloc | apply pw_below_drewN | apply below_drew1 | refine below_set ?_ GE816.out) | exact HB.out)) hb); clear BK816; clear HB; have BK816 := n0_; have HB := n1_; clear n0_ n1_; (try clear hb); (try clear hb2); (try clear hk); (try clear hi); have hcz21_0 : w20.cell? ⟨gb816, 0, none⟩ = some (.int .u8 a0_0) := (blk_cell BK816.out 0).trans rfl; have hcz21_1 : w20.cell? ⟨gb816, 1, none⟩ = some (.int .i64 a0_1) := (blk_cell BK816.out 1).trans rfl; have hcz21_2 : w20.cell? ⟨gb816, 2, none⟩ = some (.int .i64 a0_2) := (blk_cell BK816.out 2).trans rfl; have hcz21_3 : w20.cell? ⟨gb816, 3, none⟩ = some (.int .i64 a0_3) := (blk_cell BK816.out 3).trans rfl; have hfz21_0 := blk_frozen BK816.out 0; have hfz21_1 := blk_frozen BK816.out 1; have hfz21_2 := blk_frozen BK816.out 2; have hfz21_3 := blk_frozen BK816.out 3) | ((with_reducible refine gate_callee (f := 71) rfl ?_); refine goesL_ (some 13) rfl rfl Try.func71 (by kernel_rfl) rfl #[.agg #[.int .u8 a0_0, .int .i64 a0_1, .int .i64 a0_2, .int .i64 a0_3]] rfl (by (try simp only [List.map_toArray, List.map_cons, List.map_nil]); first | done | rfl | (simp only [List.length_drop, List.length_take]; rfl)) ?_; (with_reducible refine (model_Op_Span.calls k a0_0 a0_1 a0_2 a0_3 t818 t819 false _ A5.out).mono ?_); rintro e w22 ⟨rfl, hb⟩; refine ⟨_, rfl, ?_⟩; have n0_ := Aside0.mk (blk_below (g := gb816) (o := .cells #[.int .u8 a0_0, .int .i64 a0_1, .int .i64 a0_2, .int .i64 a0_3] 78 (0, 0)) (by (with_reducible repeat (first | refine blk_drewN ?_ _ | refine blk_drew ?_ | refine blk_alloc ?_ _)); exact BK816.out) hb); have n1_ := Aside0.mk (below_step (by repeat (first | (with_reducible first | exact HB.out | apply below_alloc | apply pw_below_drewN | apply below_drew1 | refine below_set ?_ GE816.out) | exact HB.out)) hb); clear BK816; clear HB; have BK816 := n0_; have HB := n1_; clear n0_ n1_; (try clear hb); (try clear hb2); (try clear hk); (try clear hi); have hcz23_0 : w22.cell? ⟨gb816, 0, none⟩ = some (.int .u8 a0_0) := (blk_cell BK816.out 0).trans rfl; have hcz23_1 : w22.cell? ⟨gb816, 1, none⟩ = some (.int .i64 a0_1) := (blk_cell BK816.out 1).trans rfl; have hcz23_2 : w22.cell? ⟨gb816, 2, none⟩ = some (.int .i64 a0_2) := (blk_cell BK816.out 2).trans rfl; have hcz23_3 : w22.cell? ⟨gb816, 3, none⟩ = some (.int .i64 a0_3) := (blk_cell BK816.out 3).trans rfl; have hfz23_0 := blk_frozen BK816.out 0; have hfz23_1 := blk_frozen BK816.out 1; have hfz23_2 := blk_frozen BK816.out 2; have hfz23_3 := blk_frozen BK816.out 3))
        go_ret
        exact ⟨by first | rfl | (simp [errW_none, errW_some] <;> rfl) | (simp [*, errW_none, errW_some] <;> rfl), by repeat (first | (with_reducible first | exact HB.out | apply below_alloc | apply pw_below_drewN | apply below_drew1 | refine below_set ?_ GE816.out) | exact HB.out)⟩
    · rw [if_neg c6] at H
      have c6b0 : (a0_0 == 4) = false := beq_eq_false_iff_ne.mpr c6
      have c6b1 : (a0_0 != 4) = true := bne_iff_ne.mpr c6
      by_cases c24 : a0_0 = 5
      · rw [if_pos c24] at H
        have c24b0 : (a0_0 == 5) = true := beq_iff_eq.mpr c24
        have c24b1 : (a0_0 != 5) = false := bne_eq_false_iff_eq.mpr c24
        clear c24
        by_cases c25 : t820 = true
        · subst c25
          have H1 : (if t818 ≤ a1 then (some ((decide (a1 ≥ a0_1)) == (decide (a1 ≤ t819)))) else (some ((decide (a1 ≥ a0_1)) == false))) = some r := by rw [if_pos rfl] at H; exact H
          clear H
          have H := H1
          clear H1
          by_cases c26 : t818 ≤ a1
          · rw [if_pos c26] at H
            have c26b0 : decide (t818 ≤ a1) = true := decide_eq_true c26
            clear c26
            obtain rfl := Option.some.inj H
            go_enter Try.func19, Try.ntmps19
            go_wp2_with (first | ((with_reducible refine gate_dst (N := 2) rfl ?_); refine box_event ?hg (N := 2) ?hd (cs := #[.int .u8 a0_0, .int .i64 a0_1, .int .i64 a0_2, .int .i64 a0_3]) (t := 78) ?hr ?_; (case hd => rfl); (case hg => rfl); (case hr => first | (go_simp; done) | (go_simp; rfl)); intro gb816 hg w27 hbox hb; have n0_ := Aside0.mk (below_step (by repeat (first | (with_reducible first | exact HB.out | apply below_alloc | apply pw_below_drewN | apply below_drew1) | exact HB.out)) hb); have n1_ := Aside0.mk (hbox); have n2_ := Aside0.mk ((by rw [hg]; exact (below_size (by repeat (first | (with_reducible first | exact HB.out | apply below_alloc | apply pw_below_drewN | apply below_drew1) | exact HB.out))) : w.heap.size ≤ gb816)); have n3_ := Aside0.mk ((by rw [hg]; exact (below_size (by repeat (first | (with_reducible first | exact HB.out | apply below_alloc | apply pw_below_drewN | apply below_drew1) | exact HB.out))) : w.heap.size ≤ gb816)); clear HB; have HB := n0_; have BK816 := n1_; have GW816 := n2_; have GE816 := n3_; clear n0_ n1_ n2_ n3_; clear hb hbox hg) | ((with_reducible refine gate_callee (f := 70) rfl ?_); refine goesL_ (some 9) rfl rfl Try.func70 (by kernel_rfl) rfl #[] rfl (by (try simp only [List.map_toArray, List.map_cons, List.map_nil]); first | done | rfl | (simp only [List.length_drop, List.length_take]; rfl)) ?_; (with_reducible refine (boscagelaw18_Awake.calls k  true _ A3.out).mono ?_); rintro e w28 ⟨rfl, hb⟩; refine ⟨_, rfl, ?_⟩; have n0_ := Aside0.mk (blk_below (g := gb816) (o := .cells #[.int .u8 a0_0, .int .i64 a0_1, .int .i64 a0_2, .int .i64 a0_3] 78 (0, 0)) (by (with_reducible repeat (first | refine blk_drewN ?_ _ | refine blk_drew ?_ | refine blk_alloc ?_ _)); exact BK816.out) hb); have n1_ := Aside0.mk (below_step (by repeat (first | (with_reducible first | exact HB.out | apply below_alloc | apply pw_below_drewN | apply below_drew1 | refine below_set ?_ GE816.out) | exact HB.out)) hb); clear BK816; clear HB; have BK816 := n0_; have HB := n1_; clear n0_ n1_; (try clear hb); (try clear hb2); (try clear hk); (try clear hi); have hcz29_0 : w28.cell? ⟨gb816, 0, none⟩ = some (.int .u8 a0_0) := (blk_cell BK816.out 0).trans rfl; have hcz29_1 : w28.cell? ⟨gb816, 1, none⟩ = some (.int .i64 a0_1) := (blk_cell BK816.out 1).trans rfl; have hcz29_2 : w28.cell? ⟨gb816, 2, none⟩ = some (.int .i64 a0_2) := (blk_cell BK816.out 2).trans rfl; have hcz29_3 : w28.cell? ⟨gb816, 3, none⟩ = some (.int .i64 a0_3) := (blk_cell BK816.out 3).trans rfl; have hfz29_0 := blk_frozen BK816.out 0; have hfz29_1 := blk_frozen BK816.out 1; have hfz29_2 := blk_frozen BK816.out 2; have hfz29_3 := blk_frozen BK816.out 3) | ((with_reducible refine gate_callee (f := 71) rfl ?_); refine goesL_ (some 13) rfl rfl Try.func71 (by kernel_rfl) rfl #[.agg #[.int .u8 a0_0, .int .i64 a0_1, .int .i64 a0_2, .int .i64 a0_3]] rfl (by (try simp only [List.map_toArray, List.map_cons, List.map_nil]); first | done | rfl | (simp only [List.length_drop, List.length_take]; rfl)) ?_; (with_reducible refine (model_Op_Span.calls k a0_0 a0_1 a0_2 a0_3 t818 t819 true _ A5.out).mono ?_); rintro e w30 ⟨rfl, hb⟩; refine ⟨_, rfl, ?_⟩; have n0_ := Aside0.mk (blk_below (g := gb816) (o := .cells #[.int .u8 a0_0, .int .i64 a0_1, .int .i64 a0_2, .int .i64 a0_3] 78 (0, 0)) (by (with_reducible repeat (first | refine blk_drewN ?_ _ | refine blk_drew ?_ | refine blk_alloc ?_ _)); exact BK816.out) hb); have n1_ := Aside0.mk (below_step (by repeat (first | (with_reducible first | exact HB.out | apply below_alloc | apply pw_below_drewN | apply below_drew1 | refine below_set ?_ GE816.out) | exact HB.out)) hb); clear BK816; clear HB; have BK816 := n0_; have HB := n1_; clear n0_ n1_; (try clear hb); (try clear hb2); (try clear hk); (try clear hi); have hcz31_0 : w30.cell? ⟨gb816, 0, none⟩ = some (.int .u8 a0_0) := (blk_cell BK816.out 0).trans rfl; have hcz31_1 : w30.cell? ⟨gb816, 1, none⟩ = some (.int .i64 a0_1) := (blk_cell BK816.out 1).trans rfl; have hcz31_2 : w30.cell? ⟨gb816, 2, none⟩ = some (.int .i64 a0_2) := (blk_cell BK816.out 2).trans rfl; have hcz31_3 : w30.cell? ⟨gb816, 3, none⟩ = some (.int .i64 a0_3) := (blk_cell BK816.out 3).trans rfl; have hfz31_0 := blk_frozen BK816.out 0; have hfz31_1 := blk_frozen BK816.out 1; have hfz31_2 := blk_frozen BK816.out 2; have hfz31_3 := blk_frozen BK816.out 3))
            go_ret
            exact ⟨by first | rfl | (simp [errW_none, errW_some] <;> rfl) | (simp [*, errW_none, errW_some] <;> rfl), by repeat (first | (with_reducible first | exact HB.out | apply below_alloc | apply pw_below_drewN | apply below_drew1 | refine below_set ?_ GE816.out) | exact HB.out)⟩
          · rw [if_neg c26] at H
            have c26b0 : decide (t818 ≤ a1) = false := decide_eq_false c26
            clear c26
            obtain rfl := Option.some.inj H
            go_enter Try.func19, Try.ntmps19
            go_wp2_with (first | ((with_reducible refine gate_dst (N := 2) rfl ?_); refine box_event ?hg (N := 2) ?hd (cs := #[.int .u8 a0_0, .int .i64 a0_1, .int .i64 a0_2, .int .i64 a0_3]) (t := 78) ?hr ?_; (case hd => rfl); (case hg => rfl); (case hr => first | (go_simp; done) | (go_simp; rfl)); intro gb816 hg w32 hbox hb; have n0_ := Aside0.mk (below_step (by repeat (first | (with_reducible first | exact HB.out | apply below_alloc | apply pw_below_drewN | apply below_drew1) | exact HB.out)) hb); have n1_ := Aside0.mk (hbox); have n2_ := Aside0.mk ((by rw [hg]; exact (below_size (by repeat (first | (with_reducible first | exact HB.out | apply below_alloc | apply pw_below_drewN | apply below_drew1) | exact HB.out))) : w.heap.size ≤ gb816)); have n3_ := Aside0.mk ((by rw [hg]; exact (below_size (by repeat (first | (with_reducible first | exact HB.out | apply below_alloc | apply pw_below_drewN | apply below_drew1) | exact HB.out))) : w.heap.size ≤ gb816)); clear HB; have HB := n0_; have BK816 := n1_; have GW816 := n2_; have GE816 := n3_; clear n0_ n1_ n2_ n3_; clear hb hbox hg) | ((with_reducible refine gate_callee (f := 70) rfl ?_); refine goesL_ (some 9) rfl rfl Try.func70 (by kernel_rfl) rfl #[] rfl (by (try simp only [List.map_toArray, List.map_cons, List.map_nil]); first | done | rfl | (simp only [List.length_drop, List.length_take]; rfl)) ?_; (with_reducible refine (boscagelaw18_Awake.calls k  true _ A3.out).mono ?_); rintro e w33 ⟨rfl, hb⟩; refine ⟨_, rfl, ?_⟩; have n0_ := Aside0.mk (blk_below (g := gb816) (o := .cells #[.int .u8 a0_0, .int .i64 a0_1, .int .i64 a0_2, .int .i64 a0_3] 78 (0, 0)) (by (with_reducible repeat (first | refine blk_drewN ?_ _ | refine blk_drew ?_ | refine blk_alloc ?_ _)); exact BK816.out) hb); have n1_ := Aside0.mk (below_step (by repeat (first | (with_reducible first | exact HB.out | apply below_alloc | apply pw_below_drewN | apply below_drew1 | refine below_set ?_ GE816.out) | exact HB.out)) hb); clear BK816; clear HB; have BK816 := n0_; have HB := n1_; clear n0_ n1_; (try clear hb); (try clear hb2); (try clear hk); (try clear hi); have hcz34_0 : w33.cell? ⟨gb816, 0, none⟩ = some (.int .u8 a0_0) := (blk_cell BK816.out 0).trans rfl; have hcz34_1 : w33.cell? ⟨gb816, 1, none⟩ = some (.int .i64 a0_1) := (blk_cell BK816.out 1).trans rfl; have hcz34_2 : w33.cell? ⟨gb816, 2, none⟩ = some (.int .i64 a0_2) := (blk_cell BK816.out 2).trans rfl; have hcz34_3 : w33.cell? ⟨gb816, 3, none⟩ = some (.int .i64 a0_3) := (blk_cell BK816.out 3).trans rfl; have hfz34_0 := blk_frozen BK816.out 0; have hfz34_1 := blk_frozen BK816.out 1; have hfz34_2 := blk_frozen BK816.out 2; have hfz34_3 := blk_frozen BK816.out 3) | ((with_reducible refine gate_callee (f := 71) rfl ?_); refine goesL_ (some 13) rfl rfl Try.func71 (by kernel_rfl) rfl #[.agg #[.int .u8 a0_0, .int .i64 a0_1, .int .i64 a0_2, .int .i64 a0_3]] rfl (by (try simp only [List.map_toArray, List.map_cons, List.map_nil]); first | done | rfl | (simp only [List.length_drop, List.length_take]; rfl)) ?_; (with_reducible refine (model_Op_Span.calls k a0_0 a0_1 a0_2 a0_3 t818 t819 true _ A5.out).mono ?_); rintro e w35 ⟨rfl, hb⟩; refine ⟨_, rfl, ?_⟩; have n0_ := Aside0.mk (blk_below (g := gb816) (o := .cells #[.int .u8 a0_0, .int .i64 a0_1, .int .i64 a0_2, .int .i64 a0_3] 78 (0, 0)) (by (with_reducible repeat (first | refine blk_drewN ?_ _ | refine blk_drew ?_ | refine blk_alloc ?_ _)); exact BK816.out) hb); have n1_ := Aside0.mk (below_step (by repeat (first | (with_reducible first | exact HB.out | apply below_alloc | apply pw_below_drewN | apply below_drew1 | refine below_set ?_ GE816.out) | exact HB.out)) hb); clear BK816; clear HB; have BK816 := n0_; have HB := n1_; clear n0_ n1_; (try clear hb); (try clear hb2); (try clear hk); (try clear hi); have hcz36_0 : w35.cell? ⟨gb816, 0, none⟩ = some (.int .u8 a0_0) := (blk_cell BK816.out 0).trans rfl; have hcz36_1 : w35.cell? ⟨gb816, 1, none⟩ = some (.int .i64 a0_1) := (blk_cell BK816.out 1).trans rfl; have hcz36_2 : w35.cell? ⟨gb816, 2, none⟩ = some (.int .i64 a0_2) := (blk_cell BK816.out 2).trans rfl; have hcz36_3 : w35.cell? ⟨gb816, 3, none⟩ = some (.int .i64 a0_3) := (blk_cell BK816.out 3).trans rfl; have hfz36_0 := blk_frozen BK816.out 0; have hfz36_1 := blk_frozen BK816.out 1; have hfz36_2 := blk_frozen BK816.out 2; have hfz36_3 := blk_frozen BK816.out 3))
            go_ret
            exact ⟨by first | rfl | (simp [errW_none, errW_some] <;> rfl) | (simp [*, errW_none, errW_some] <;> rfl), by repeat (first | (with_reducible first | exact HB.out | apply below_alloc | apply pw_below_drewN | apply below_drew1 | refine below_set ?_ GE816.out) | exact HB.out)⟩
        · replace c25 := Bool.eq_false_iff.mpr c25
          subst c25
          have H1 : (some false) = some r := by rw [if_neg (show ¬ (false = true) by decide)] at H; exact H
          clear H
          have H := H1
          clear H1
          obtain rfl := Option.some.inj H
          go_enter Try.func19, Try.ntmps19
          go_wp2_with (first | ((with_reducible refine gate_dst (N := 2) rfl ?_); refine box_event ?hg (N := 2) ?hd (cs := #[.int .u8 a0_0, .int .i64 a0_1, .int .i64 a0_2, .int .i64 a0_3]) (t := 78) ?hr ?_; (case hd => rfl); (case hg => rfl); (case hr => first | (go_simp; done) | (go_simp; rfl)); intro gb816 hg w37 hbox hb; have n0_ := Aside0.mk (below_step (by repeat (first | (with_reducible first | exact HB.out | apply below_alloc | apply pw_below_drewN | apply below_drew1) | exact HB.out)) hb); have n1_ := Aside0.mk (hbox); have n2_ := Aside0.mk ((by rw [hg]; exact (below_size (by repeat (first | (with_reducible first | exact HB.out | apply below_alloc | apply pw_below_drewN | apply below_drew1) | exact HB.out))) : w.heap.size ≤ gb816)); have n3_ := Aside0.mk ((by rw [hg]; exact (below_size (by repeat (first | (with_reducible first | exact HB.out | apply below_alloc | apply pw_below_drewN | apply below_drew1) | exact HB.out))) : w.heap.size ≤ gb816)); clear HB; have HB := n0_; have BK816 := n1_; have GW816 := n2_; have GE816 := n3_; clear n0_ n1_ n2_ n3_; clear hb hbox hg) | ((with_reducible refine gate_callee (f := 70) rfl ?_); refine goesL_ (some 9) rfl rfl Try.func70 (by kernel_rfl) rfl #[] rfl (by (try simp only [List.map_toArray, List.map_cons, List.map_nil]); first | done | rfl | (simp only [List.length_drop, List.length_take]; rfl)) ?_; (with_reducible refine (boscagelaw18_Awake.calls k  true _ A3.out).mono ?_); rintro e w38 ⟨rfl, hb⟩; refine ⟨_, rfl, ?_⟩; have n0_ := Aside0.mk (blk_below (g := gb816) (o := .cells #[.int .u8 a0_0, .int .i64 a0_1, .int .i64 a0_2, .int .i64 a0_3] 78 (0, 0)) (by (with_reducible repeat (first | refine blk_drewN ?_ _ | refine blk_drew ?_ | refine blk_alloc ?_ _)); exact BK816.out) hb); have n1_ := Aside0.mk (below_step (by repeat (first | (with_reducible first | exact HB.out | apply below_alloc | apply pw_below_drewN | apply below_drew1 | refine below_set ?_ GE816.out) | exact HB.out)) hb); clear BK816; clear HB; have BK816 := n0_; have HB := n1_; clear n0_ n1_; (try clear hb); (try clear hb2); (try clear hk); (try clear hi); have hcz39_0 : w38.cell? ⟨gb816, 0, none⟩ = some (.int .u8 a0_0) := (blk_cell BK816.out 0).trans rfl; have hcz39_1 : w38.cell? ⟨gb816, 1, none⟩ = some (.int .i64 a0_1) := (blk_cell BK816.out 1).trans rfl; have hcz39_2 : w38.cell? ⟨gb816, 2, none⟩ = some (.int .i64 a0_2) := (blk_cell BK816.out 2).trans rfl; have hcz39_3 : w38.cell? ⟨gb816, 3, none⟩ = some (.int .i64 a0_3) := (blk_cell BK816.out 3).trans rfl; have hfz39_0 := blk_frozen BK816.out 0; have hfz39_1 := blk_frozen BK816.out 1; have hfz39_2 := blk_frozen BK816.out 2; have hfz39_3 := blk_frozen BK816.out 3) | ((with_reducible refine gate_callee (f := 71) rfl ?_); refine goesL_ (some 13) rfl rfl Try.func71 (by kernel_rfl) rfl #[.agg #[.int .u8 a0_0, .int .i64 a0_1, .int .i64 a0_2, .int .i64 a0_3]] rfl (by (try simp only [List.map_toArray, List.map_cons, List.map_nil]); first | done | rfl | (simp only [List.length_drop, List.length_take]; rfl)) ?_; (with_reducible refine (model_Op_Span.calls k a0_0 a0_1 a0_2 a0_3 t818 t819 false _ A5.out).mono ?_); rintro e w40 ⟨rfl, hb⟩; refine ⟨_, rfl, ?_⟩; have n0_ := Aside0.mk (blk_below (g := gb816) (o := .cells #[.int .u8 a0_0, .int .i64 a0_1, .int .i64 a0_2, .int .i64 a0_3] 78 (0, 0)) (by (with_reducible repeat (first | refine blk_drewN ?_ _ | refine blk_drew ?_ | refine blk_alloc ?_ _)); exact BK816.out) hb); have n1_ := Aside0.mk (below_step (by repeat (first | (with_reducible first | exact HB.out | apply below_alloc | apply pw_below_drewN | apply below_drew1 | refine below_set ?_ GE816.out) | exact HB.out)) hb); clear BK816; clear HB; have BK816 := n0_; have HB := n1_; clear n0_ n1_; (try clear hb); (try clear hb2); (try clear hk); (try clear hi); have hcz41_0 : w40.cell? ⟨gb816, 0, none⟩ = some (.int .u8 a0_0) := (blk_cell BK816.out 0).trans rfl; have hcz41_1 : w40.cell? ⟨gb816, 1, none⟩ = some (.int .i64 a0_1) := (blk_cell BK816.out 1).trans rfl; have hcz41_2 : w40.cell? ⟨gb816, 2, none⟩ = some (.int .i64 a0_2) := (blk_cell BK816.out 2).trans rfl; have hcz41_3 : w40.cell? ⟨gb816, 3, none⟩ = some (.int .i64 a0_3) := (blk_cell BK816.out 3).trans rfl; have hfz41_0 := blk_frozen BK816.out 0; have hfz41_1 := blk_frozen BK816.out 1; have hfz41_2 := blk_frozen BK816.out 2; have hfz41_3 := blk_frozen BK816.out 3))
          go_ret
          exact ⟨by first | rfl | (simp [errW_none, errW_some] <;> rfl) | (simp [*, errW_none, errW_some] <;> rfl), by repeat (first | (with_reducible first | exact HB.out | apply below_alloc | apply pw_below_drewN | apply below_drew1 | refine below_set ?_ GE816.out) | exact HB.out)⟩
      · rw [if_neg c24] at H
        have c24b0 : (a0_0 == 5) = false := beq_eq_false_iff_ne.mpr c24
        have c24b1 : (a0_0 != 5) = true := bne_iff_ne.mpr c24
        have HC42 := Aside0.mk H
        clear H
        go_enter Try.func19, Try.ntmps19
        go_upto_if 41 with (first | ((with_reducible refine gate_dst (N := 2) rfl ?_); refine box_event ?hg (N := 2) ?hd (cs := #[.int .u8 a0_0, .int .i64 a0_1, .int .i64 a0_2, .int .i64 a0_3]) (t := 78) ?hr ?_; (case hd => rfl); (case hg => rfl); (case hr => first | (go_simp; done) | (go_simp; rfl)); intro gb816 hg w43 hbox hb; have n0_ := Aside0.mk (below_step (by repeat (first | (with_reducible first | exact HB.out | apply below_alloc | apply pw_below_drewN | apply below_drew1) | exact HB.out)) hb); have n1_ := Aside0.mk (hbox); have n2_ := Aside0.mk ((by rw [hg]; exact (below_size (by repeat (first | (with_reducible first | exact HB.out | apply below_alloc | apply pw_below_drewN | apply below_drew1) | exact HB.out))) : w.heap.size ≤ gb816)); have n3_ := Aside0.mk ((by rw [hg]; exact (below_size (by repeat (first | (with_reducible first | exact HB.out | apply below_alloc | apply pw_below_drewN | apply below_drew1) | exact HB.out))) : w.heap.size ≤ gb816)); clear HB; have HB := n0_; have BK816 := n1_; have GW816 := n2_; have GE816 := n3_; clear n0_ n1_ n2_ n3_; clear hb hbox hg) | ((with_reducible refine gate_callee (f := 70) rfl ?_); refine goesL_ (some 9) rfl rfl Try.func70 (by kernel_rfl) rfl #[] rfl (by (try simp only [List.map_toArray, List.map_cons, List.map_nil]); first | done | rfl | (simp only [List.length_drop, List.length_take]; rfl)) ?_; (with_reducible refine (boscagelaw18_Awake.calls k  true _ A3.out).mono ?_); rintro e w44 ⟨rfl, hb⟩; refine ⟨_, rfl, ?_⟩; have n0_ := Aside0.mk (blk_below (g := gb816) (o := .cells #[.int .u8 a0_0, .int .i64 a0_1, .int .i64 a0_2, .int .i64 a0_3] 78 (0, 0)) (by (with_reducible repeat (first | refine blk_drewN ?_ _ | refine blk_drew ?_ | refine blk_alloc ?_ _)); exact BK816.out) hb); have n1_ := Aside0.mk (below_step (by repeat (first | (with_reducible first | exact HB.out | apply below_alloc | apply pw_below_drewN | apply below_drew1 | refine below_set ?_ GE816.out) | exact HB.out)) hb); clear BK816; clear HB; have BK816 := n0_; have HB := n1_; clear n0_ n1_; (try clear hb); (try clear hb2); (try clear hk); (try clear hi); have hcz45_0 : w44.cell? ⟨gb816, 0, none⟩ = some (.int .u8 a0_0) := (blk_cell BK816.out 0).trans rfl; have hcz45_1 : w44.cell? ⟨gb816, 1, none⟩ = some (.int .i64 a0_1) := (blk_cell BK816.out 1).trans rfl; have hcz45_2 : w44.cell? ⟨gb816, 2, none⟩ = some (.int .i64 a0_2) := (blk_cell BK816.out 2).trans rfl; have hcz45_3 : w44.cell? ⟨gb816, 3, none⟩ = some (.int .i64 a0_3) := (blk_cell BK816.out 3).trans rfl; have hfz45_0 := blk_frozen BK816.out 0; have hfz45_1 := blk_frozen BK816.out 1; have hfz45_2 := blk_frozen BK816.out 2; have hfz45_3 := blk_frozen BK816.out 3) | ((with_reducible refine gate_callee (f := 71) rfl ?_); refine goesL_ (some 13) rfl rfl Try.func71 (by kernel_rfl) rfl #[.agg #[.int .u8 a0_0, .int .i64 a0_1, .int .i64 a0_2, .int .i64 a0_3]] rfl (by (try simp only [List.map_toArray, List.map_cons, List.map_nil]); first | done | rfl | (simp only [List.length_drop, List.length_take]; rfl)) ?_; (with_reducible refine (model_Op_Span.calls k a0_0 a0_1 a0_2 a0_3 t818 t819 t820 _ A5.out).mono ?_); rintro e w46 ⟨rfl, hb⟩; refine ⟨_, rfl, ?_⟩; have n0_ := Aside0.mk (blk_below (g := gb816) (o := .cells #[.int .u8 a0_0, .int .i64 a0_1, .int .i64 a0_2, .int .i64 a0_3] 78 (0, 0)) (by (with_reducible repeat (first | refine blk_drewN ?_ _ | refine blk_drew ?_ | refine blk_alloc ?_ _)); exact BK816.out) hb); have n1_ := Aside0.mk (below_step (by repeat (first | (with_reducible first | exact HB.out | apply below_alloc | apply pw_below_drewN | apply below_drew1 | refine below_set ?_ GE816.out) | exact HB.out)) hb); clear BK816; clear HB; have BK816 := n0_; have HB := n1_; clear n0_ n1_; (try clear hb); (try clear hb2); (try clear hk); (try clear hi); have hcz47_0 : w46.cell? ⟨gb816, 0, none⟩ = some (.int .u8 a0_0) := (blk_cell BK816.out 0).trans rfl; have hcz47_1 : w46.cell? ⟨gb816, 1, none⟩ = some (.int .i64 a0_1) := (blk_cell BK816.out 1).trans rfl; have hcz47_2 : w46.cell? ⟨gb816, 2, none⟩ = some (.int .i64 a0_2) := (blk_cell BK816.out 2).trans rfl; have hcz47_3 : w46.cell? ⟨gb816, 3, none⟩ = some (.int .i64 a0_3) := (blk_cell BK816.out 3).trans rfl; have hfz47_0 := blk_frozen BK816.out 0; have hfz47_1 := blk_frozen BK816.out 1; have hfz47_2 := blk_frozen BK816.out 2; have hfz47_3 := blk_frozen BK816.out 3))
        (try simp only [Act.put, List.setIfInBounds_toArray, List.set_cons_zero, List.set_cons_succ])
        go_cut [41] (fun v41 wc => ∃ (kq : Nat) (x41_41 : Bool), v41 = .bool x41_41 ∧ Aside0 (boscagelaw18_ModelSpans.j0 kq a1 t818 t819 t820 a0_0 x41_41 a0_0 a0_1 a0_2 a0_3 = some r) ∧ Aside0 (kq ≤ k) ∧ Aside0 (wc.heap[gb816]? = some (.cells #[.int .u8 a0_0, .int .i64 a0_1, .int .i64 a0_2, .int .i64 a0_3] 78 (0, 0))) ∧ Aside0 (Below w.heap.size w wc))
        case first =>
          have H := HC42.out
          clear HC42
          by_cases c48 : a0_0 = 6
          · rw [if_pos c48] at H
            have c48b0 : (a0_0 == 6) = true := beq_iff_eq.mpr c48
            have c48b1 : (a0_0 != 6) = false := bne_eq_false_iff_eq.mpr c48
            clear c48
            (first | rw [c48b0] | (simp only [i64_w, i32_w]; rw [c48b0]) | skip)
            have H' := Aside0.mk H
            clear H
            go_wp2
            go_meet
            case rel => exact ⟨_, ((a0_0 == 6)), (by first | rfl | (simp; done) | (simp [*]; done)), H', ⟨by first | omega | exact Nat.le_refl _⟩, ⟨by (with_reducible repeat (first | refine blk_drewN ?_ _ | refine blk_drew ?_ | refine blk_alloc ?_ _)); exact BK816.out⟩, ⟨by repeat (first | (with_reducible first | exact HB.out | apply below_alloc | apply pw_below_drewN | apply below_drew1 | refine below_set ?_ GE816.out) | exact HB.out)⟩⟩
          · rw [if_neg c48] at H
            have c48b0 : (a0_0 == 6) = false := beq_eq_false_iff_ne.mpr c48
            have c48b1 : (a0_0 != 6) = true := bne_iff_ne.mpr c48
            (first | rw [c48b0] | (simp only [i64_w, i32_w]; rw [c48b0]) | skip)
            by_cases c49 : a0_0 = 7
            · rw [if_pos c49] at H
              have c49b0 : (a0_0 == 7) = true := beq_iff_eq.mpr c49
              have c49b1 : (a0_0 != 7) = false := bne_eq_false_iff_eq.mpr c49
              clear c49
              have H' := Aside0.mk H
              clear H
              go_wp2
              go_meet
              case rel => exact ⟨_, ((a0_0 == 7)), (by first | rfl | (simp; done) | (simp [*]; done)), H', ⟨by first | omega | exact Nat.le_refl _⟩, ⟨by (with_reducible repeat (first | refine blk_drewN ?_ _ | refine blk_drew ?_ | refine blk_alloc ?_ _)); exact BK816.out⟩, ⟨by repeat (first | (with_reducible first | exact HB.out | apply below_alloc | apply pw_below_drewN | apply below_drew1 | refine below_set ?_ GE816.out) | exact HB.out)⟩⟩
            · rw [if_neg c49] at H
              have c49b0 : (a0_0 == 7) = false := beq_eq_false_iff_ne.mpr c49
              have c49b1 : (a0_0 != 7) = true := bne_iff_ne.mpr c49
              have H' := Aside0.mk H
              clear H
              go_wp2
              go_meet
              case rel => exact ⟨_, ((a0_0 == 9)), (by first | rfl | (simp; done) | (simp [*]; done)), H', ⟨by first | omega | exact Nat.le_refl _⟩, ⟨by (with_reducible repeat (first | refine blk_drewN ?_ _ | refine blk_drew ?_ | refine blk_alloc ?_ _)); exact BK816.out⟩, ⟨by repeat (first | (with_reducible first | exact HB.out | apply below_alloc | apply pw_below_drewN | apply below_drew1 | refine below_set ?_ GE816.out) | exact HB.out)⟩⟩
        case rest =>
          clear HC42
          try clear c1
          try clear c2
          try clear p2
          try clear c4
          try clear c6
          try clear c6b0
          try clear c6b1
          try clear c7
          try clear c8
          try clear c8b0
          try clear c19
          try clear c24
          try clear c24b0
          try clear c24b1
          try clear c25
          try clear c26
          try clear c26b0
          try clear c48
          try clear c48b0
          try clear c48b1
          try clear c49
          try clear c49b0
          try clear c49b1
          try clear hcz11_0
          try clear hcz11_1
          try clear hcz11_2
          try clear hcz11_3
          try clear hcz13_0
          try clear hcz13_1
          try clear hcz13_2
          try clear hcz13_3
          try clear hcz16_0
          try clear hcz16_1
          try clear hcz16_2
          try clear hcz16_3
          try clear hcz18_0
          try clear hcz18_1
          try clear hcz18_2
          try clear hcz18_3
          try clear hcz21_0
          try clear hcz21_1
          try clear hcz21_2
          try clear hcz21_3
          try clear hcz23_0
          try clear hcz23_1
          try clear hcz23_2
          try clear hcz23_3
          try clear hcz29_0
          try clear hcz29_1
          try clear hcz29_2
          try clear hcz29_3
          try clear hcz31_0
          try clear hcz31_1
          try clear hcz31_2
          try clear hcz31_3
          try clear hcz34_0
          try clear hcz34_1
          try clear hcz34_2
          try clear hcz34_3
          try clear hcz36_0
          try clear hcz36_1
          try clear hcz36_2
          try clear hcz36_3
          try clear hcz39_0
          try clear hcz39_1
          try clear hcz39_2
          try clear hcz39_3
          try clear hcz41_0
          try clear hcz41_1
          try clear hcz41_2
          try clear hcz41_3
          try clear hcz45_0
          try clear hcz45_1
          try clear hcz45_2
          try clear hcz45_3
          try clear hcz47_0
          try clear hcz47_1
          try clear hcz47_2
          try clear hcz47_3
          try clear hfz11_0
          try clear hfz11_1
          try clear hfz11_2
          try clear hfz11_3
          try clear hfz13_0
          try clear hfz13_1
          try clear hfz13_2
          try clear hfz13_3
          try clear hfz16_0
          try clear hfz16_1
          try clear hfz16_2
          try clear hfz16_3
          try clear hfz18_0
          try clear hfz18_1
          try clear hfz18_2
          try clear hfz18_3
          try clear hfz21_0
          try clear hfz21_1
          try clear hfz21_2
          try clear hfz21_3
          try clear hfz23_0
          try clear hfz23_1
          try clear hfz23_2
          try clear hfz23_3
          try clear hfz29_0
          try clear hfz29_1
          try clear hfz29_2
          try clear hfz29_3
          try clear hfz31_0
          try clear hfz31_1
          try clear hfz31_2
          try clear hfz31_3
          try clear hfz34_0
          try clear hfz34_1
          try clear hfz34_2
          try clear hfz34_3
          try clear hfz36_0
          try clear hfz36_1
          try clear hfz36_2
          try clear hfz36_3
          try clear hfz39_0
          try clear hfz39_1
          try clear hfz39_2
          try clear hfz39_3
          try clear hfz41_0
          try clear hfz41_1
          try clear hfz41_2
          try clear hfz41_3
          try clear hfz45_0
          try clear hfz45_1
          try clear hfz45_2
          try clear hfz45_3
          try clear hfz47_0
          try clear hfz47_1
          try clear hfz47_2
          try clear hfz47_3
          obtain ⟨kq, x41_41, rfl, HA, HJ41, BK816, HB⟩ := hcut
          cases kq with
          | zero => exact absurd HA.out (by simp [boscagelaw18_ModelSpans.j0])
          | succ kj41 =>
            have H := HA.out
            clear HA
            simp only [boscagelaw18_ModelSpans.j0] at H
            by_cases c50 : x41_41 = true
            · subst c50
              have H1 : (if t820 = true then (if t818 ≤ a1 then (some (true == (decide (a1 ≤ t819)))) else (some (true == false))) else (some false)) = some r := by rw [if_pos rfl] at H; exact H
              clear H
              have H := H1
              clear H1
              by_cases c51 : t820 = true
              · subst c51
                have H1 : (if t818 ≤ a1 then (some (true == (decide (a1 ≤ t819)))) else (some (true == false))) = some r := by rw [if_pos rfl] at H; exact H
                clear H
                have H := H1
                clear H1
                by_cases c52 : t818 ≤ a1
                · rw [if_pos c52] at H
                  have c52b0 : decide (t818 ≤ a1) = true := decide_eq_true c52
                  clear c52
                  obtain rfl := Option.some.inj H
                  go_wp2
                  go_ret
                  exact ⟨by first | rfl | (simp [errW_none, errW_some] <;> rfl) | (simp [*, errW_none, errW_some] <;> rfl), by repeat (first | (with_reducible first | exact HB.out | apply below_alloc | apply pw_below_drewN | apply below_drew1 | refine below_set ?_ GE816.out) | exact HB.out)⟩
                · rw [if_neg c52] at H
                  have c52b0 : decide (t818 ≤ a1) = false := decide_eq_false c52
                  clear c52
                  obtain rfl := Option.some.inj H
                  go_wp2
                  go_ret
                  exact ⟨by first | rfl | (simp [errW_none, errW_some] <;> rfl) | (simp [*, errW_none, errW_some] <;> rfl), by repeat (first | (with_reducible first | exact HB.out | apply below_alloc | apply pw_below_drewN | apply below_drew1 | refine below_set ?_ GE816.out) | exact HB.out)⟩
              · replace c51 := Bool.eq_false_iff.mpr c51
                subst c51
                have H1 : (some false) = some r := by rw [if_neg (show ¬ (false = true) by decide)] at H; exact H
                clear H
                have H := H1
                clear H1
                obtain rfl := Option.some.inj H
                go_wp2
                go_ret
                exact ⟨by first | rfl | (simp [errW_none, errW_some] <;> rfl) | (simp [*, errW_none, errW_some] <;> rfl), by repeat (first | (with_reducible first | exact HB.out | apply below_alloc | apply pw_below_drewN | apply below_drew1 | refine below_set ?_ GE816.out) | exact HB.out)⟩
            · replace c50 := Bool.eq_false_iff.mpr c50
              subst c50
              have H1 : (if a0_0 = 8 then (if a0_1 = (-9223372036854775808) then (if t818 = 1 then (if t819 = 0 then (if t820 = true then (if t818 ≤ a1 then (some ((decide (a1 < a0_1)) == (decide (a1 ≤ t819)))) else (some ((decide (a1 < a0_1)) == false))) else (some false)) else (some false)) else (some false)) else (if t820 = true then (if t818 ≤ a1 then (some ((decide (a1 < a0_1)) == (decide (a1 ≤ t819)))) else (some ((decide (a1 < a0_1)) == false))) else (some false))) else (if a0_0 = 10 then (if a1 ≥ a0_1 then (if t820 = true then (if t818 ≤ a1 then (some ((decide (a1 ≤ a0_2)) == (decide (a1 ≤ t819)))) else (some ((decide (a1 ≤ a0_2)) == false))) else (some false)) else (if t820 = true then (if t818 ≤ a1 then (some (false == (decide (a1 ≤ t819)))) else (some (false == false))) else (some false))) else (if a0_0 = 11 then (if a1 ≥ a0_1 then (if t820 = true then (if t818 ≤ a1 then (some ((decide (a1 ≤ a0_2)) == (decide (a1 ≤ t819)))) else (some ((decide (a1 ≤ a0_2)) == false))) else (some false)) else (if t820 = true then (if t818 ≤ a1 then (some (false == (decide (a1 ≤ t819)))) else (some (false == false))) else (some false))) else (if t820 = true then (some false) else (if t818 = 0 then (some (t819 == 0)) else (some false)))))) = some r := by rw [if_neg (show ¬ (false = true) by decide)] at H; exact H
              clear H
              have H := H1
              clear H1
              by_cases c53 : a0_0 = 8
              · rw [if_pos c53] at H
                have c53b0 : (a0_0 == 8) = true := beq_iff_eq.mpr c53
                have c53b1 : (a0_0 != 8) = false := bne_eq_false_iff_eq.mpr c53
                clear c53
                by_cases c54 : a0_1 = (-9223372036854775808)
                · rw [if_pos c54] at H
                  have c54b0 : (a0_1 == (-9223372036854775808)) = true := beq_iff_eq.mpr c54
                  have c54b1 : (a0_1 != (-9223372036854775808)) = false := bne_eq_false_iff_eq.mpr c54
                  clear c54
                  by_cases c55 : t818 = 1
                  · rw [if_pos c55] at H
                    have c55b0 : (t818 == 1) = true := beq_iff_eq.mpr c55
                    have c55b1 : (t818 != 1) = false := bne_eq_false_iff_eq.mpr c55
                    clear c55
                    by_cases c56 : t819 = 0
                    · rw [if_pos c56] at H
                      have c56b0 : (t819 == 0) = true := beq_iff_eq.mpr c56
                      have c56b1 : (t819 != 0) = false := bne_eq_false_iff_eq.mpr c56
                      clear c56
                      by_cases c57 : t820 = true
                      · subst c57
                        have H1 : (if t818 ≤ a1 then (some ((decide (a1 < a0_1)) == (decide (a1 ≤ t819)))) else (some ((decide (a1 < a0_1)) == false))) = some r := by rw [if_pos rfl] at H; exact H
                        clear H
                        have H := H1
                        clear H1
                        by_cases c58 : t818 ≤ a1
                        · rw [if_pos c58] at H
                          have c58b0 : decide (t818 ≤ a1) = true := decide_eq_true c58
                          clear c58
                          obtain rfl := Option.some.inj H
                          have hcz59_0 : wc.cell? ⟨gb816, 0, none⟩ = some (.int .u8 a0_0) := (blk_cell BK816.out 0).trans rfl
                          have hcz59_1 : wc.cell? ⟨gb816, 1, none⟩ = some (.int .i64 a0_1) := (blk_cell BK816.out 1).trans rfl
                          have hcz59_2 : wc.cell? ⟨gb816, 2, none⟩ = some (.int .i64 a0_2) := (blk_cell BK816.out 2).trans rfl
                          have hcz59_3 : wc.cell? ⟨gb816, 3, none⟩ = some (.int .i64 a0_3) := (blk_cell BK816.out 3).trans rfl
                          have hfz59_0 := blk_frozen BK816.out 0
                          have hfz59_1 := blk_frozen BK816.out 1
                          have hfz59_2 := blk_frozen BK816.out 2
                          have hfz59_3 := blk_frozen BK816.out 3
                          go_wp2
                          go_ret
                          exact ⟨by first | rfl | (simp [errW_none, errW_some] <;> rfl) | (simp [*, errW_none, errW_some] <;> rfl), by repeat (first | (with_reducible first | exact HB.out | apply below_alloc | apply pw_below_drewN | apply below_drew1 | refine below_set ?_ GE816.out) | exact HB.out)⟩
                        · rw [if_neg c58] at H
                          have c58b0 : decide (t818 ≤ a1) = false := decide_eq_false c58
                          clear c58
                          obtain rfl := Option.some.inj H
                          have hcz60_0 : wc.cell? ⟨gb816, 0, none⟩ = some (.int .u8 a0_0) := (blk_cell BK816.out 0).trans rfl
                          have hcz60_1 : wc.cell? ⟨gb816, 1, none⟩ = some (.int .i64 a0_1) := (blk_cell BK816.out 1).trans rfl
                          have hcz60_2 : wc.cell? ⟨gb816, 2, none⟩ = some (.int .i64 a0_2) := (blk_cell BK816.out 2).trans rfl
                          have hcz60_3 : wc.cell? ⟨gb816, 3, none⟩ = some (.int .i64 a0_3) := (blk_cell BK816.out 3).trans rfl
                          have hfz60_0 := blk_frozen BK816.out 0
                          have hfz60_1 := blk_frozen BK816.out 1
                          have hfz60_2 := blk_frozen BK816.out 2
                          have hfz60_3 := blk_frozen BK816.out 3
                          go_wp2
                          go_ret
                          exact ⟨by first | rfl | (simp [errW_none, errW_some] <;> rfl) | (simp [*, errW_none, errW_some] <;> rfl), by repeat (first | (with_reducible first | exact HB.out | apply below_alloc | apply pw_below_drewN | apply below_drew1 | refine below_set ?_ GE816.out) | exact HB.out)⟩
                      · replace c57 := Bool.eq_false_iff.mpr c57
                        subst c57
                        have H1 : (some false) = some r := by rw [if_neg (show ¬ (false = true) by decide)] at H; exact H
                        clear H
                        have H := H1
                        clear H1
                        obtain rfl := Option.some.inj H
                        have hcz61_0 : wc.cell? ⟨gb816, 0, none⟩ = some (.int .u8 a0_0) := (blk_cell BK816.out 0).trans rfl
                        have hcz61_1 : wc.cell? ⟨gb816, 1, none⟩ = some (.int .i64 a0_1) := (blk_cell BK816.out 1).trans rfl
                        have hcz61_2 : wc.cell? ⟨gb816, 2, none⟩ = some (.int .i64 a0_2) := (blk_cell BK816.out 2).trans rfl
                        have hcz61_3 : wc.cell? ⟨gb816, 3, none⟩ = some (.int .i64 a0_3) := (blk_cell BK816.out 3).trans rfl
                        have hfz61_0 := blk_frozen BK816.out 0
                        have hfz61_1 := blk_frozen BK816.out 1
                        have hfz61_2 := blk_frozen BK816.out 2
                        have hfz61_3 := blk_frozen BK816.out 3
                        go_wp2
                        go_ret
                        exact ⟨by first | rfl | (simp [errW_none, errW_some] <;> rfl) | (simp [*, errW_none, errW_some] <;> rfl), by repeat (first | (with_reducible first | exact HB.out | apply below_alloc | apply pw_below_drewN | apply below_drew1 | refine below_set ?_ GE816.out) | exact HB.out)⟩
                    · rw [if_neg c56] at H
                      have c56b0 : (t819 == 0) = false := beq_eq_false_iff_ne.mpr c56
                      have c56b1 : (t819 != 0) = true := bne_iff_ne.mpr c56
                      obtain rfl := Option.some.inj H
                      have hcz62_0 : wc.cell? ⟨gb816, 0, none⟩ = some (.int .u8 a0_0) := (blk_cell BK816.out 0).trans rfl
                      have hcz62_1 : wc.cell? ⟨gb816, 1, none⟩ = some (.int .i64 a0_1) := (blk_cell BK816.out 1).trans rfl
                      have hcz62_2 : wc.cell? ⟨gb816, 2, none⟩ = some (.int .i64 a0_2) := (blk_cell BK816.out 2).trans rfl
                      have hcz62_3 : wc.cell? ⟨gb816, 3, none⟩ = some (.int .i64 a0_3) := (blk_cell BK816.out 3).trans rfl
                      have hfz62_0 := blk_frozen BK816.out 0
                      have hfz62_1 := blk_frozen BK816.out 1
                      have hfz62_2 := blk_frozen BK816.out 2
                      have hfz62_3 := blk_frozen BK816.out 3
                      go_wp2
                      go_ret
                      exact ⟨by first | rfl | (simp [errW_none, errW_some] <;> rfl) | (simp [*, errW_none, errW_some] <;> rfl), by repeat (first | (with_reducible first | exact HB.out | apply below_alloc | apply pw_below_drewN | apply below_drew1 | refine below_set ?_ GE816.out) | exact HB.out)⟩
                  · rw [if_neg c55] at H
                    have c55b0 : (t818 == 1) = false := beq_eq_false_iff_ne.mpr c55
                    have c55b1 : (t818 != 1) = true := bne_iff_ne.mpr c55
                    obtain rfl := Option.some.inj H
                    have hcz63_0 : wc.cell? ⟨gb816, 0, none⟩ = some (.int .u8 a0_0) := (blk_cell BK816.out 0).trans rfl
                    have hcz63_1 : wc.cell? ⟨gb816, 1, none⟩ = some (.int .i64 a0_1) := (blk_cell BK816.out 1).trans rfl
                    have hcz63_2 : wc.cell? ⟨gb816, 2, none⟩ = some (.int .i64 a0_2) := (blk_cell BK816.out 2).trans rfl
                    have hcz63_3 : wc.cell? ⟨gb816, 3, none⟩ = some (.int .i64 a0_3) := (blk_cell BK816.out 3).trans rfl
                    have hfz63_0 := blk_frozen BK816.out 0
                    have hfz63_1 := blk_frozen BK816.out 1
                    have hfz63_2 := blk_frozen BK816.out 2
                    have hfz63_3 := blk_frozen BK816.out 3
                    go_wp2
                    go_ret
                    exact ⟨by first | rfl | (simp [errW_none, errW_some] <;> rfl) | (simp [*, errW_none, errW_some] <;> rfl), by repeat (first | (with_reducible first | exact HB.out | apply below_alloc | apply pw_below_drewN | apply below_drew1 | refine below_set ?_ GE816.out) | exact HB.out)⟩
                · rw [if_neg c54] at H
                  have c54b0 : (a0_1 == (-9223372036854775808)) = false := beq_eq_false_iff_ne.mpr c54
                  have c54b1 : (a0_1 != (-9223372036854775808)) = true := bne_iff_ne.mpr c54
                  by_cases c64 : t820 = true
                  · subst c64
                    have H1 : (if t818 ≤ a1 then (some ((decide (a1 < a0_1)) == (decide (a1 ≤ t819)))) else (some ((decide (a1 < a0_1)) == false))) = some r := by rw [if_pos rfl] at H; exact H
                    clear H
                    have H := H1
                    clear H1
                    by_cases c65 : t818 ≤ a1
                    · rw [if_pos c65] at H
                      have c65b0 : decide (t818 ≤ a1) = true := decide_eq_true c65
                      clear c65
                      obtain rfl := Option.some.inj H
                      have hcz66_0 : wc.cell? ⟨gb816, 0, none⟩ = some (.int .u8 a0_0) := (blk_cell BK816.out 0).trans rfl
                      have hcz66_1 : wc.cell? ⟨gb816, 1, none⟩ = some (.int .i64 a0_1) := (blk_cell BK816.out 1).trans rfl
                      have hcz66_2 : wc.cell? ⟨gb816, 2, none⟩ = some (.int .i64 a0_2) := (blk_cell BK816.out 2).trans rfl
                      have hcz66_3 : wc.cell? ⟨gb816, 3, none⟩ = some (.int .i64 a0_3) := (blk_cell BK816.out 3).trans rfl
                      have hfz66_0 := blk_frozen BK816.out 0
                      have hfz66_1 := blk_frozen BK816.out 1
                      have hfz66_2 := blk_frozen BK816.out 2
                      have hfz66_3 := blk_frozen BK816.out 3
                      go_wp2
                      go_ret
                      exact ⟨by first | rfl | (simp [errW_none, errW_some] <;> rfl) | (simp [*, errW_none, errW_some] <;> rfl), by repeat (first | (with_reducible first | exact HB.out | apply below_alloc | apply pw_below_drewN | apply below_drew1 | refine below_set ?_ GE816.out) | exact HB.out)⟩
                    · rw [if_neg c65] at H
                      have c65b0 : decide (t818 ≤ a1) = false := decide_eq_false c65
                      clear c65
                      obtain rfl := Option.some.inj H
                      have hcz67_0 : wc.cell? ⟨gb816, 0, none⟩ = some (.int .u8 a0_0) := (blk_cell BK816.out 0).trans rfl
                      have hcz67_1 : wc.cell? ⟨gb816, 1, none⟩ = some (.int .i64 a0_1) := (blk_cell BK816.out 1).trans rfl
                      have hcz67_2 : wc.cell? ⟨gb816, 2, none⟩ = some (.int .i64 a0_2) := (blk_cell BK816.out 2).trans rfl
                      have hcz67_3 : wc.cell? ⟨gb816, 3, none⟩ = some (.int .i64 a0_3) := (blk_cell BK816.out 3).trans rfl
                      have hfz67_0 := blk_frozen BK816.out 0
                      have hfz67_1 := blk_frozen BK816.out 1
                      have hfz67_2 := blk_frozen BK816.out 2
                      have hfz67_3 := blk_frozen BK816.out 3
                      go_wp2
                      go_ret
                      exact ⟨by first | rfl | (simp [errW_none, errW_some] <;> rfl) | (simp [*, errW_none, errW_some] <;> rfl), by repeat (first | (with_reducible first | exact HB.out | apply below_alloc | apply pw_below_drewN | apply below_drew1 | refine below_set ?_ GE816.out) | exact HB.out)⟩
                  · replace c64 := Bool.eq_false_iff.mpr c64
                    subst c64
                    have H1 : (some false) = some r := by rw [if_neg (show ¬ (false = true) by decide)] at H; exact H
                    clear H
                    have H := H1
                    clear H1
                    obtain rfl := Option.some.inj H
                    have hcz68_0 : wc.cell? ⟨gb816, 0, none⟩ = some (.int .u8 a0_0) := (blk_cell BK816.out 0).trans rfl
                    have hcz68_1 : wc.cell? ⟨gb816, 1, none⟩ = some (.int .i64 a0_1) := (blk_cell BK816.out 1).trans rfl
                    have hcz68_2 : wc.cell? ⟨gb816, 2, none⟩ = some (.int .i64 a0_2) := (blk_cell BK816.out 2).trans rfl
                    have hcz68_3 : wc.cell? ⟨gb816, 3, none⟩ = some (.int .i64 a0_3) := (blk_cell BK816.out 3).trans rfl
                    have hfz68_0 := blk_frozen BK816.out 0
                    have hfz68_1 := blk_frozen BK816.out 1
                    have hfz68_2 := blk_frozen BK816.out 2
                    have hfz68_3 := blk_frozen BK816.out 3
                    go_wp2
                    go_ret
                    exact ⟨by first | rfl | (simp [errW_none, errW_some] <;> rfl) | (simp [*, errW_none, errW_some] <;> rfl), by repeat (first | (with_reducible first | exact HB.out | apply below_alloc | apply pw_below_drewN | apply below_drew1 | refine below_set ?_ GE816.out) | exact HB.out)⟩
              · rw [if_neg c53] at H
                have c53b0 : (a0_0 == 8) = false := beq_eq_false_iff_ne.mpr c53
                have c53b1 : (a0_0 != 8) = true := bne_iff_ne.mpr c53
                by_cases c69 : a0_0 = 10
                · rw [if_pos c69] at H
                  have c69b0 : (a0_0 == 10) = true := beq_iff_eq.mpr c69
                  have c69b1 : (a0_0 != 10) = false := bne_eq_false_iff_eq.mpr c69
                  clear c69
                  by_cases c70 : a1 ≥ a0_1
                  · rw [if_pos c70] at H
                    have c70b0 : decide (a0_1 ≤ a1) = true := decide_eq_true c70
                    clear c70
                    by_cases c71 : t820 = true
                    · subst c71
                      have H1 : (if t818 ≤ a1 then (some ((decide (a1 ≤ a0_2)) == (decide (a1 ≤ t819)))) else (some ((decide (a1 ≤ a0_2)) == false))) = some r := by rw [if_pos rfl] at H; exact H
                      clear H
                      have H := H1
                      clear H1
                      by_cases c72 : t818 ≤ a1
                      · rw [if_pos c72] at H
                        have c72b0 : decide (t818 ≤ a1) = true := decide_eq_true c72
                        clear c72
                        obtain rfl := Option.some.inj H
                        have hcz73_0 : wc.cell? ⟨gb816, 0, none⟩ = some (.int .u8 a0_0) := (blk_cell BK816.out 0).trans rfl
                        have hcz73_1 : wc.cell? ⟨gb816, 1, none⟩ = some (.int .i64 a0_1) := (blk_cell BK816.out 1).trans rfl
                        have hcz73_2 : wc.cell? ⟨gb816, 2, none⟩ = some (.int .i64 a0_2) := (blk_cell BK816.out 2).trans rfl
                        have hcz73_3 : wc.cell? ⟨gb816, 3, none⟩ = some (.int .i64 a0_3) := (blk_cell BK816.out 3).trans rfl
                        have hfz73_0 := blk_frozen BK816.out 0
                        have hfz73_1 := blk_frozen BK816.out 1
                        have hfz73_2 := blk_frozen BK816.out 2
                        have hfz73_3 := blk_frozen BK816.out 3
                        go_wp2
                        go_ret
                        exact ⟨by first | rfl | (simp [errW_none, errW_some] <;> rfl) | (simp [*, errW_none, errW_some] <;> rfl), by repeat (first | (with_reducible first | exact HB.out | apply below_alloc | apply pw_below_drewN | apply below_drew1 | refine below_set ?_ GE816.out) | exact HB.out)⟩
                      · rw [if_neg c72] at H
                        have c72b0 : decide (t818 ≤ a1) = false := decide_eq_false c72
                        clear c72
                        obtain rfl := Option.some.inj H
                        have hcz74_0 : wc.cell? ⟨gb816, 0, none⟩ = some (.int .u8 a0_0) := (blk_cell BK816.out 0).trans rfl
                        have hcz74_1 : wc.cell? ⟨gb816, 1, none⟩ = some (.int .i64 a0_1) := (blk_cell BK816.out 1).trans rfl
                        have hcz74_2 : wc.cell? ⟨gb816, 2, none⟩ = some (.int .i64 a0_2) := (blk_cell BK816.out 2).trans rfl
                        have hcz74_3 : wc.cell? ⟨gb816, 3, none⟩ = some (.int .i64 a0_3) := (blk_cell BK816.out 3).trans rfl
                        have hfz74_0 := blk_frozen BK816.out 0
                        have hfz74_1 := blk_frozen BK816.out 1
                        have hfz74_2 := blk_frozen BK816.out 2
                        have hfz74_3 := blk_frozen BK816.out 3
                        go_wp2
                        go_ret
                        exact ⟨by first | rfl | (simp [errW_none, errW_some] <;> rfl) | (simp [*, errW_none, errW_some] <;> rfl), by repeat (first | (with_reducible first | exact HB.out | apply below_alloc | apply pw_below_drewN | apply below_drew1 | refine below_set ?_ GE816.out) | exact HB.out)⟩
                    · replace c71 := Bool.eq_false_iff.mpr c71
                      subst c71
                      have H1 : (some false) = some r := by rw [if_neg (show ¬ (false = true) by decide)] at H; exact H
                      clear H
                      have H := H1
                      clear H1
                      obtain rfl := Option.some.inj H
                      have hcz75_0 : wc.cell? ⟨gb816, 0, none⟩ = some (.int .u8 a0_0) := (blk_cell BK816.out 0).trans rfl
                      have hcz75_1 : wc.cell? ⟨gb816, 1, none⟩ = some (.int .i64 a0_1) := (blk_cell BK816.out 1).trans rfl
                      have hcz75_2 : wc.cell? ⟨gb816, 2, none⟩ = some (.int .i64 a0_2) := (blk_cell BK816.out 2).trans rfl
                      have hcz75_3 : wc.cell? ⟨gb816, 3, none⟩ = some (.int .i64 a0_3) := (blk_cell BK816.out 3).trans rfl
                      have hfz75_0 := blk_frozen BK816.out 0
                      have hfz75_1 := blk_frozen BK816.out 1
                      have hfz75_2 := blk_frozen BK816.out 2
                      have hfz75_3 := blk_frozen BK816.out 3
                      go_wp2
                      go_ret
                      exact ⟨by first | rfl | (simp [errW_none, errW_some] <;> rfl) | (simp [*, errW_none, errW_some] <;> rfl), by repeat (first | (with_reducible first | exact HB.out | apply below_alloc | apply pw_below_drewN | apply below_drew1 | refine below_set ?_ GE816.out) | exact HB.out)⟩
                  · rw [if_neg c70] at H
                    have c70b0 : decide (a0_1 ≤ a1) = false := decide_eq_false c70
                    clear c70
                    by_cases c76 : t820 = true
                    · subst c76
                      have H1 : (if t818 ≤ a1 then (some (false == (decide (a1 ≤ t819)))) else (some (false == false))) = some r := by rw [if_pos rfl] at H; exact H
                      clear H
                      have H := H1
                      clear H1
                      by_cases c77 : t818 ≤ a1
                      · rw [if_pos c77] at H
                        have c77b0 : decide (t818 ≤ a1) = true := decide_eq_true c77
                        clear c77
                        obtain rfl := Option.some.inj H
                        have hcz78_0 : wc.cell? ⟨gb816, 0, none⟩ = some (.int .u8 a0_0) := (blk_cell BK816.out 0).trans rfl
                        have hcz78_1 : wc.cell? ⟨gb816, 1, none⟩ = some (.int .i64 a0_1) := (blk_cell BK816.out 1).trans rfl
                        have hcz78_2 : wc.cell? ⟨gb816, 2, none⟩ = some (.int .i64 a0_2) := (blk_cell BK816.out 2).trans rfl
                        have hcz78_3 : wc.cell? ⟨gb816, 3, none⟩ = some (.int .i64 a0_3) := (blk_cell BK816.out 3).trans rfl
                        have hfz78_0 := blk_frozen BK816.out 0
                        have hfz78_1 := blk_frozen BK816.out 1
                        have hfz78_2 := blk_frozen BK816.out 2
                        have hfz78_3 := blk_frozen BK816.out 3
                        go_wp2
                        go_ret
                        exact ⟨by first | rfl | (simp [errW_none, errW_some] <;> rfl) | (simp [*, errW_none, errW_some] <;> rfl), by repeat (first | (with_reducible first | exact HB.out | apply below_alloc | apply pw_below_drewN | apply below_drew1 | refine below_set ?_ GE816.out) | exact HB.out)⟩
                      · rw [if_neg c77] at H
                        have c77b0 : decide (t818 ≤ a1) = false := decide_eq_false c77
                        clear c77
                        obtain rfl := Option.some.inj H
                        have hcz79_0 : wc.cell? ⟨gb816, 0, none⟩ = some (.int .u8 a0_0) := (blk_cell BK816.out 0).trans rfl
                        have hcz79_1 : wc.cell? ⟨gb816, 1, none⟩ = some (.int .i64 a0_1) := (blk_cell BK816.out 1).trans rfl
                        have hcz79_2 : wc.cell? ⟨gb816, 2, none⟩ = some (.int .i64 a0_2) := (blk_cell BK816.out 2).trans rfl
                        have hcz79_3 : wc.cell? ⟨gb816, 3, none⟩ = some (.int .i64 a0_3) := (blk_cell BK816.out 3).trans rfl
                        have hfz79_0 := blk_frozen BK816.out 0
                        have hfz79_1 := blk_frozen BK816.out 1
                        have hfz79_2 := blk_frozen BK816.out 2
                        have hfz79_3 := blk_frozen BK816.out 3
                        go_wp2
                        go_ret
                        exact ⟨by first | rfl | (simp [errW_none, errW_some] <;> rfl) | (simp [*, errW_none, errW_some] <;> rfl), by repeat (first | (with_reducible first | exact HB.out | apply below_alloc | apply pw_below_drewN | apply below_drew1 | refine below_set ?_ GE816.out) | exact HB.out)⟩
                    · replace c76 := Bool.eq_false_iff.mpr c76
                      subst c76
                      have H1 : (some false) = some r := by rw [if_neg (show ¬ (false = true) by decide)] at H; exact H
                      clear H
                      have H := H1
                      clear H1
                      obtain rfl := Option.some.inj H
                      have hcz80_0 : wc.cell? ⟨gb816, 0, none⟩ = some (.int .u8 a0_0) := (blk_cell BK816.out 0).trans rfl
                      have hcz80_1 : wc.cell? ⟨gb816, 1, none⟩ = some (.int .i64 a0_1) := (blk_cell BK816.out 1).trans rfl
                      have hcz80_2 : wc.cell? ⟨gb816, 2, none⟩ = some (.int .i64 a0_2) := (blk_cell BK816.out 2).trans rfl
                      have hcz80_3 : wc.cell? ⟨gb816, 3, none⟩ = some (.int .i64 a0_3) := (blk_cell BK816.out 3).trans rfl
                      have hfz80_0 := blk_frozen BK816.out 0
                      have hfz80_1 := blk_frozen BK816.out 1
                      have hfz80_2 := blk_frozen BK816.out 2
                      have hfz80_3 := blk_frozen BK816.out 3
                      go_wp2
                      go_ret
                      exact ⟨by first | rfl | (simp [errW_none, errW_some] <;> rfl) | (simp [*, errW_none, errW_some] <;> rfl), by repeat (first | (with_reducible first | exact HB.out | apply below_alloc | apply pw_below_drewN | apply below_drew1 | refine below_set ?_ GE816.out) | exact HB.out)⟩
                · rw [if_neg c69] at H
                  have c69b0 : (a0_0 == 10) = false := beq_eq_false_iff_ne.mpr c69
                  have c69b1 : (a0_0 != 10) = true := bne_iff_ne.mpr c69
                  by_cases c81 : a0_0 = 11
                  · rw [if_pos c81] at H
                    have c81b0 : (a0_0 == 11) = true := beq_iff_eq.mpr c81
                    have c81b1 : (a0_0 != 11) = false := bne_eq_false_iff_eq.mpr c81
                    clear c81
                    by_cases c82 : a1 ≥ a0_1
                    · rw [if_pos c82] at H
                      have c82b0 : decide (a0_1 ≤ a1) = true := decide_eq_true c82
                      clear c82
                      by_cases c83 : t820 = true
                      · subst c83
                        have H1 : (if t818 ≤ a1 then (some ((decide (a1 ≤ a0_2)) == (decide (a1 ≤ t819)))) else (some ((decide (a1 ≤ a0_2)) == false))) = some r := by rw [if_pos rfl] at H; exact H
                        clear H
                        have H := H1
                        clear H1
                        by_cases c84 : t818 ≤ a1
                        · rw [if_pos c84] at H
                          have c84b0 : decide (t818 ≤ a1) = true := decide_eq_true c84
                          clear c84
                          obtain rfl := Option.some.inj H
                          have hcz85_0 : wc.cell? ⟨gb816, 0, none⟩ = some (.int .u8 a0_0) := (blk_cell BK816.out 0).trans rfl
                          have hcz85_1 : wc.cell? ⟨gb816, 1, none⟩ = some (.int .i64 a0_1) := (blk_cell BK816.out 1).trans rfl
                          have hcz85_2 : wc.cell? ⟨gb816, 2, none⟩ = some (.int .i64 a0_2) := (blk_cell BK816.out 2).trans rfl
                          have hcz85_3 : wc.cell? ⟨gb816, 3, none⟩ = some (.int .i64 a0_3) := (blk_cell BK816.out 3).trans rfl
                          have hfz85_0 := blk_frozen BK816.out 0
                          have hfz85_1 := blk_frozen BK816.out 1
                          have hfz85_2 := blk_frozen BK816.out 2
                          have hfz85_3 := blk_frozen BK816.out 3
                          go_wp2
                          go_ret
                          exact ⟨by first | rfl | (simp [errW_none, errW_some] <;> rfl) | (simp [*, errW_none, errW_some] <;> rfl), by repeat (first | (with_reducible first | exact HB.out | apply below_alloc | apply pw_below_drewN | apply below_drew1 | refine below_set ?_ GE816.out) | exact HB.out)⟩
                        · rw [if_neg c84] at H
                          have c84b0 : decide (t818 ≤ a1) = false := decide_eq_false c84
                          clear c84
                          obtain rfl := Option.some.inj H
                          have hcz86_0 : wc.cell? ⟨gb816, 0, none⟩ = some (.int .u8 a0_0) := (blk_cell BK816.out 0).trans rfl
                          have hcz86_1 : wc.cell? ⟨gb816, 1, none⟩ = some (.int .i64 a0_1) := (blk_cell BK816.out 1).trans rfl
                          have hcz86_2 : wc.cell? ⟨gb816, 2, none⟩ = some (.int .i64 a0_2) := (blk_cell BK816.out 2).trans rfl
                          have hcz86_3 : wc.cell? ⟨gb816, 3, none⟩ = some (.int .i64 a0_3) := (blk_cell BK816.out 3).trans rfl
                          have hfz86_0 := blk_frozen BK816.out 0
                          have hfz86_1 := blk_frozen BK816.out 1
                          have hfz86_2 := blk_frozen BK816.out 2
                          have hfz86_3 := blk_frozen BK816.out 3
                          go_wp2
                          go_ret
                          exact ⟨by first | rfl | (simp [errW_none, errW_some] <;> rfl) | (simp [*, errW_none, errW_some] <;> rfl), by repeat (first | (with_reducible first | exact HB.out | apply below_alloc | apply pw_below_drewN | apply below_drew1 | refine below_set ?_ GE816.out) | exact HB.out)⟩
                      · replace c83 := Bool.eq_false_iff.mpr c83
                        subst c83
                        have H1 : (some false) = some r := by rw [if_neg (show ¬ (false = true) by decide)] at H; exact H
                        clear H
                        have H := H1
                        clear H1
                        obtain rfl := Option.some.inj H
                        have hcz87_0 : wc.cell? ⟨gb816, 0, none⟩ = some (.int .u8 a0_0) := (blk_cell BK816.out 0).trans rfl
                        have hcz87_1 : wc.cell? ⟨gb816, 1, none⟩ = some (.int .i64 a0_1) := (blk_cell BK816.out 1).trans rfl
                        have hcz87_2 : wc.cell? ⟨gb816, 2, none⟩ = some (.int .i64 a0_2) := (blk_cell BK816.out 2).trans rfl
                        have hcz87_3 : wc.cell? ⟨gb816, 3, none⟩ = some (.int .i64 a0_3) := (blk_cell BK816.out 3).trans rfl
                        have hfz87_0 := blk_frozen BK816.out 0
                        have hfz87_1 := blk_frozen BK816.out 1
                        have hfz87_2 := blk_frozen BK816.out 2
                        have hfz87_3 := blk_frozen BK816.out 3
                        go_wp2
                        go_ret
                        exact ⟨by first | rfl | (simp [errW_none, errW_some] <;> rfl) | (simp [*, errW_none, errW_some] <;> rfl), by repeat (first | (with_reducible first | exact HB.out | apply below_alloc | apply pw_below_drewN | apply below_drew1 | refine below_set ?_ GE816.out) | exact HB.out)⟩
                    · rw [if_neg c82] at H
                      have c82b0 : decide (a0_1 ≤ a1) = false := decide_eq_false c82
                      clear c82
                      by_cases c88 : t820 = true
                      · subst c88
                        have H1 : (if t818 ≤ a1 then (some (false == (decide (a1 ≤ t819)))) else (some (false == false))) = some r := by rw [if_pos rfl] at H; exact H
                        clear H
                        have H := H1
                        clear H1
                        by_cases c89 : t818 ≤ a1
                        · rw [if_pos c89] at H
                          have c89b0 : decide (t818 ≤ a1) = true := decide_eq_true c89
                          clear c89
                          obtain rfl := Option.some.inj H
                          have hcz90_0 : wc.cell? ⟨gb816, 0, none⟩ = some (.int .u8 a0_0) := (blk_cell BK816.out 0).trans rfl
                          have hcz90_1 : wc.cell? ⟨gb816, 1, none⟩ = some (.int .i64 a0_1) := (blk_cell BK816.out 1).trans rfl
                          have hcz90_2 : wc.cell? ⟨gb816, 2, none⟩ = some (.int .i64 a0_2) := (blk_cell BK816.out 2).trans rfl
                          have hcz90_3 : wc.cell? ⟨gb816, 3, none⟩ = some (.int .i64 a0_3) := (blk_cell BK816.out 3).trans rfl
                          have hfz90_0 := blk_frozen BK816.out 0
                          have hfz90_1 := blk_frozen BK816.out 1
                          have hfz90_2 := blk_frozen BK816.out 2
                          have hfz90_3 := blk_frozen BK816.out 3
                          go_wp2
                          go_ret
                          exact ⟨by first | rfl | (simp [errW_none, errW_some] <;> rfl) | (simp [*, errW_none, errW_some] <;> rfl), by repeat (first | (with_reducible first | exact HB.out | apply below_alloc | apply pw_below_drewN | apply below_drew1 | refine below_set ?_ GE816.out) | exact HB.out)⟩
                        · rw [if_neg c89] at H
                          have c89b0 : decide (t818 ≤ a1) = false := decide_eq_false c89
                          clear c89
                          obtain rfl := Option.some.inj H
                          have hcz91_0 : wc.cell? ⟨gb816, 0, none⟩ = some (.int .u8 a0_0) := (blk_cell BK816.out 0).trans rfl
                          have hcz91_1 : wc.cell? ⟨gb816, 1, none⟩ = some (.int .i64 a0_1) := (blk_cell BK816.out 1).trans rfl
                          have hcz91_2 : wc.cell? ⟨gb816, 2, none⟩ = some (.int .i64 a0_2) := (blk_cell BK816.out 2).trans rfl
                          have hcz91_3 : wc.cell? ⟨gb816, 3, none⟩ = some (.int .i64 a0_3) := (blk_cell BK816.out 3).trans rfl
                          have hfz91_0 := blk_frozen BK816.out 0
                          have hfz91_1 := blk_frozen BK816.out 1
                          have hfz91_2 := blk_frozen BK816.out 2
                          have hfz91_3 := blk_frozen BK816.out 3
                          go_wp2
                          go_ret
                          exact ⟨by first | rfl | (simp [errW_none, errW_some] <;> rfl) | (simp [*, errW_none, errW_some] <;> rfl), by repeat (first | (with_reducible first | exact HB.out | apply below_alloc | apply pw_below_drewN | apply below_drew1 | refine below_set ?_ GE816.out) | exact HB.out)⟩
                      · replace c88 := Bool.eq_false_iff.mpr c88
                        subst c88
                        have H1 : (some false) = some r := by rw [if_neg (show ¬ (false = true) by decide)] at H; exact H
                        clear H
                        have H := H1
                        clear H1
                        obtain rfl := Option.some.inj H
                        have hcz92_0 : wc.cell? ⟨gb816, 0, none⟩ = some (.int .u8 a0_0) := (blk_cell BK816.out 0).trans rfl
                        have hcz92_1 : wc.cell? ⟨gb816, 1, none⟩ = some (.int .i64 a0_1) := (blk_cell BK816.out 1).trans rfl
                        have hcz92_2 : wc.cell? ⟨gb816, 2, none⟩ = some (.int .i64 a0_2) := (blk_cell BK816.out 2).trans rfl
                        have hcz92_3 : wc.cell? ⟨gb816, 3, none⟩ = some (.int .i64 a0_3) := (blk_cell BK816.out 3).trans rfl
                        have hfz92_0 := blk_frozen BK816.out 0
                        have hfz92_1 := blk_frozen BK816.out 1
                        have hfz92_2 := blk_frozen BK816.out 2
                        have hfz92_3 := blk_frozen BK816.out 3
                        go_wp2
                        go_ret
                        exact ⟨by first | rfl | (simp [errW_none, errW_some] <;> rfl) | (simp [*, errW_none, errW_some] <;> rfl), by repeat (first | (with_reducible first | exact HB.out | apply below_alloc | apply pw_below_drewN | apply below_drew1 | refine below_set ?_ GE816.out) | exact HB.out)⟩
                  · rw [if_neg c81] at H
                    have c81b0 : (a0_0 == 11) = false := beq_eq_false_iff_ne.mpr c81
                    have c81b1 : (a0_0 != 11) = true := bne_iff_ne.mpr c81
                    by_cases c93 : t820 = true
                    · subst c93
                      have H1 : (some false) = some r := by rw [if_pos rfl] at H; exact H
                      clear H
                      have H := H1
                      clear H1
                      obtain rfl := Option.some.inj H
                      go_wp2
                      go_ret
                      exact ⟨by first | rfl | (simp [errW_none, errW_some] <;> rfl) | (simp [*, errW_none, errW_some] <;> rfl), by repeat (first | (with_reducible first | exact HB.out | apply below_alloc | apply pw_below_drewN | apply below_drew1 | refine below_set ?_ GE816.out) | exact HB.out)⟩
                    · replace c93 := Bool.eq_false_iff.mpr c93
                      subst c93
                      have H1 : (if t818 = 0 then (some (t819 == 0)) else (some false)) = some r := by rw [if_neg (show ¬ (false = true) by decide)] at H; exact H
                      clear H
                      have H := H1
                      clear H1
                      by_cases c94 : t818 = 0
                      · rw [if_pos c94] at H
                        have c94b0 : (t818 == 0) = true := beq_iff_eq.mpr c94
                        have c94b1 : (t818 != 0) = false := bne_eq_false_iff_eq.mpr c94
                        clear c94
                        obtain rfl := Option.some.inj H
                        go_wp2
                        go_ret
                        exact ⟨by first | rfl | (simp [errW_none, errW_some] <;> rfl) | (simp [*, errW_none, errW_some] <;> rfl), by repeat (first | (with_reducible first | exact HB.out | apply below_alloc | apply pw_below_drewN | apply below_drew1 | refine below_set ?_ GE816.out) | exact HB.out)⟩
                      · rw [if_neg c94] at H
                        have c94b0 : (t818 == 0) = false := beq_eq_false_iff_ne.mpr c94
                        have c94b1 : (t818 != 0) = true := bne_iff_ne.mpr c94
                        obtain rfl := Option.some.inj H
                        go_wp2
                        go_ret
                        exact ⟨by first | rfl | (simp [errW_none, errW_some] <;> rfl) | (simp [*, errW_none, errW_some] <;> rfl), by repeat (first | (with_reducible first | exact HB.out | apply below_alloc | apply pw_below_drewN | apply below_drew1 | refine below_set ?_ GE816.out) | exact HB.out)⟩
  · replace c4 := Bool.eq_false_iff.mpr c4
    subst c4
    have H1 : (some false) = some r := by rw [if_neg (show ¬ (false = true) by decide)] at H; exact H
    clear H
    have H := H1
    clear H1
    obtain rfl := Option.some.inj H
    go_enter Try.func19, Try.ntmps19
    go_wp2_with (first | ((with_reducible refine gate_dst (N := 2) rfl ?_); refine box_event ?hg (N := 2) ?hd (cs := #[.int .u8 a0_0, .int .i64 a0_1, .int .i64 a0_2, .int .i64 a0_3]) (t := 78) ?hr ?_; (case hd => rfl); (case hg => rfl); (case hr => first | (go_simp; done) | (go_simp; rfl)); intro gb816 hg w95 hbox hb; have n0_ := Aside0.mk (below_step (by repeat (first | (with_reducible first | exact HB.out | apply below_alloc | apply pw_below_drewN | apply below_drew1) | exact HB.out)) hb); have n1_ := Aside0.mk (hbox); have n2_ := Aside0.mk ((by rw [hg]; exact (below_size (by repeat (first | (with_reducible first | exact HB.out | apply below_alloc | apply pw_below_drewN | apply below_drew1) | exact HB.out))) : w.heap.size ≤ gb816)); have n3_ := Aside0.mk ((by rw [hg]; exact (below_size (by repeat (first | (with_reducible first | exact HB.out | apply below_alloc | apply pw_below_drewN | apply below_drew1) | exact HB.out))) : w.heap.size ≤ gb816)); clear HB; have HB := n0_; have BK816 := n1_; have GW816 := n2_; have GE816 := n3_; clear n0_ n1_ n2_ n3_; clear hb hbox hg) | ((with_reducible refine gate_callee (f := 70) rfl ?_); refine goesL_ (some 9) rfl rfl Try.func70 (by kernel_rfl) rfl #[] rfl (by (try simp only [List.map_toArray, List.map_cons, List.map_nil]); first | done | rfl | (simp only [List.length_drop, List.length_take]; rfl)) ?_; (with_reducible refine (boscagelaw18_Awake.calls k  false _ A3.out).mono ?_); rintro e w96 ⟨rfl, hb⟩; refine ⟨_, rfl, ?_⟩; have n0_ := Aside0.mk (blk_below (g := gb816) (o := .cells #[.int .u8 a0_0, .int .i64 a0_1, .int .i64 a0_2, .int .i64 a0_3] 78 (0, 0)) (by (with_reducible repeat (first | refine blk_drewN ?_ _ | refine blk_drew ?_ | refine blk_alloc ?_ _)); exact BK816.out) hb); have n1_ := Aside0.mk (below_step (by repeat (first | (with_reducible first | exact HB.out | apply below_alloc | apply pw_below_drewN | apply below_drew1 | refine below_set ?_ GE816.out) | exact HB.out)) hb); clear BK816; clear HB; have BK816 := n0_; have HB := n1_; clear n0_ n1_; (try clear hb); (try clear hb2); (try clear hk); (try clear hi)))
    go_ret
    exact ⟨by first | rfl | (simp [errW_none, errW_some] <;> rfl) | (simp [*, errW_none, errW_some] <;> rfl), by repeat (first | (with_reducible first | exact HB.out | apply below_alloc | apply pw_below_drewN | apply below_drew1 | refine below_set ?_ GE816.out) | exact HB.out)⟩

end Go.Proofs.Ytkoiffkonjpoiaa.Q
