/- Go functions of the program as plain Lean functions, and for each the contract that the call comes to its answers; written by a turned print of this session. -/
import Derived.Test.YtkoiffkonjpoiaaQ0
import Derived.Test.YtkoiffkonjpoiaaQC3
import Derived.Test.YtkoiffkonjpoiaaQC6
namespace Go.Proofs.Ytkoiffkonjpoiaa.Q
open Go.RowKit Go.Proofs.YtkoiffkonjpoiaaW.PrintWords Go.Proofs.YtkoiffkonjpoiaaW.PrintLast Go.Proofs.YtkoiffkonjpoiaaW.PrintMore Go.Proofs.YtkoiffkonjpoiaaX
attribute [local go_sem] max2_int min2_int max_two min_two max_three min_three max_four min_four   -- for this text's walks alone
set_option linter.unusedVariables false
set_option linter.unusedSimpArgs false

/-! ### boscagelaw18_ModelNumbers: function 26 -/
def boscagelaw18_ModelNumbers.j0 : Nat → List Int → Int → Bool → Int → Int → Int → Int → Option (Bool)
  | 0, _, _, _, _, _, _, _ => none
  | k + 1, x3, x4, x28, x1089000, x1089001, x1089002, x1089003 => if x28 = true then (some false) else (if x4 = 2 then (if x1089000 = 1 then (if 1 < (x3.length : Int) then (some ((rd x3 1) == x1089003)) else (none)) else (if x1089000 = 2 then (if 1 < (x3.length : Int) then (some ((rd x3 1) == x1089003)) else (none)) else (if x4 = 1 then (some true) else (if 1 < (x3.length : Int) then (some ((rd x3 1) == x1089002)) else (none))))) else (if x4 = 1 then (some true) else (if 1 < (x3.length : Int) then (some ((rd x3 1) == x1089002)) else (none))))
def boscagelaw18_ModelNumbers.f (k : Nat) (a0_0 : Int) (a0_1 : Int) (a0_2 : Int) (a0_3 : Int) : Option (Bool) := (boscagelaw18_Awake.f k).bind fun t1089 => (if t1089 = true then ((model_Op_Numbers.f k a0_0 a0_1 a0_2 a0_3).bind fun t1090 => ((boscagelaw18_Many.f k a0_0).bind fun t1093 => (if t1093 < 1 then (some ((t1090.length : Int) == 0)) else (if (t1090.length : Int) = t1093 then (if 0 < (t1090.length : Int) then (boscagelaw18_ModelNumbers.j0 k t1090 t1093 ((rd t1090 0) != a0_1) a0_0 a0_1 a0_2 a0_3) else (none)) else (boscagelaw18_ModelNumbers.j0 k t1090 t1093 true a0_0 a0_1 a0_2 a0_3))))) else (some false))
theorem boscagelaw18_ModelNumbers.mono_l : ∀ k, (∀ y0 y1 y2 y3 y4 y5 y6, LeO (boscagelaw18_ModelNumbers.j0 k y0 y1 y2 y3 y4 y5 y6) (boscagelaw18_ModelNumbers.j0 (k + 1) y0 y1 y2 y3 y4 y5 y6))
  | 0 => fun _ _ _ _ _ _ _ r h => by simp [boscagelaw18_ModelNumbers.j0] at h
  | k + 1 => by
    have ih0 := boscagelaw18_ModelNumbers.mono_l k
    · intro y0 y1 y2 y3 y4 y5 y6
      unfold boscagelaw18_ModelNumbers.j0
      repeat' first
      | (with_reducible exact ih0 _ _ _ _ _ _ _)
      | (with_reducible exact boscagelaw18_Awake.mono _)
      | (with_reducible exact boscagelaw18_Many.mono _ _)
      | (with_reducible exact model_Op_Numbers.mono _ _ _ _ _)
      | (with_reducible exact LeO.refl _)
      | (with_reducible exact LeO.none _)
      | (with_reducible refine LeO.ite ?_ ?_)
      | (with_reducible refine LeO.bind ?_ (fun _ => ?_))
      | exact ih0 _ _ _ _ _ _ _
      | exact boscagelaw18_Awake.mono _
      | exact boscagelaw18_Many.mono _ _
      | exact model_Op_Numbers.mono _ _ _ _ _
      | exact LeO.none _
      | refine LeO.ite ?_ ?_
      | refine LeO.bind ?_ (fun _ => ?_)
theorem boscagelaw18_ModelNumbers.mono : ∀ a0 a1 a2 a3 k, LeO (boscagelaw18_ModelNumbers.f k a0 a1 a2 a3) (boscagelaw18_ModelNumbers.f (k + 1) a0 a1 a2 a3) := by
  intro a0 a1 a2 a3 k
  have ih0 := boscagelaw18_ModelNumbers.mono_l k
  unfold boscagelaw18_ModelNumbers.f
  repeat' first
      | (with_reducible exact ih0 _ _ _ _ _ _ _)
      | (with_reducible exact boscagelaw18_Awake.mono _)
      | (with_reducible exact boscagelaw18_Many.mono _ _)
      | (with_reducible exact model_Op_Numbers.mono _ _ _ _ _)
      | (with_reducible exact LeO.refl _)
      | (with_reducible exact LeO.none _)
      | (with_reducible refine LeO.ite ?_ ?_)
      | (with_reducible refine LeO.bind ?_ (fun _ => ?_))
      | exact ih0 _ _ _ _ _ _ _
      | exact boscagelaw18_Awake.mono _
      | exact boscagelaw18_Many.mono _ _
      | exact model_Op_Numbers.mono _ _ _ _ _
      | exact LeO.none _
      | refine LeO.ite ?_ ?_
      | refine LeO.bind ?_ (fun _ => ?_)
set_option maxHeartbeats 8000000 in
set_option maxRecDepth 100000 in
theorem boscagelaw18_ModelNumbers.calls (k : Nat) (a0_0 : Int) (a0_1 : Int) (a0_2 : Int) (a0_3 : Int) (r : Bool) (w : World) (h : boscagelaw18_ModelNumbers.f k a0_0 a0_1 a0_2 a0_3 = some r) :
    Calls Try.prog 26 #[.agg #[.int .u8 a0_0, .int .i64 a0_1, .int .i64 a0_2, .int .i64 a0_3]] w fun e w' => e = .returned (.bool r) ∧ Below w.heap.size w w' := by
  have hu78 := Try.underlying78
  have HB := Aside0.mk (Below.refl w.heap.size w)
  have H : ((boscagelaw18_Awake.f k).bind fun t1089 => (if t1089 = true then ((model_Op_Numbers.f k a0_0 a0_1 a0_2 a0_3).bind fun t1090 => ((boscagelaw18_Many.f k a0_0).bind fun t1093 => (if t1093 < 1 then (some ((t1090.length : Int) == 0)) else (if (t1090.length : Int) = t1093 then (if 0 < (t1090.length : Int) then (boscagelaw18_ModelNumbers.j0 k t1090 t1093 ((rd t1090 0) != a0_1) a0_0 a0_1 a0_2 a0_3) else (none)) else (boscagelaw18_ModelNumbers.j0 k t1090 t1093 true a0_0 a0_1 a0_2 a0_3))))) else (some false))) = some r := h
  clear h
  replace H := Option.bind_eq_some_iff.mp H
  obtain ⟨t1089, A20, H⟩ := H
  replace H : (if t1089 = true then ((model_Op_Numbers.f k a0_0 a0_1 a0_2 a0_3).bind fun t1090 => ((boscagelaw18_Many.f k a0_0).bind fun t1093 => (if t1093 < 1 then (some ((t1090.length : Int) == 0)) else (if (t1090.length : Int) = t1093 then (if 0 < (t1090.length : Int) then (boscagelaw18_ModelNumbers.j0 k t1090 t1093 ((rd t1090 0) != a0_1) a0_0 a0_1 a0_2 a0_3) else (none)) else (boscagelaw18_ModelNumbers.j0 k t1090 t1093 true a0_0 a0_1 a0_2 a0_3))))) else (some false)) = some r := H
  have A2 := Aside0.mk A20
  clear A20
  by_cases c3 : t1089 = true
  · subst c3
    have H1 : ((model_Op_Numbers.f k a0_0 a0_1 a0_2 a0_3).bind fun t1090 => ((boscagelaw18_Many.f k a0_0).bind fun t1093 => (if t1093 < 1 then (some ((t1090.length : Int) == 0)) else (if (t1090.length : Int) = t1093 then (if 0 < (t1090.length : Int) then (boscagelaw18_ModelNumbers.j0 k t1090 t1093 ((rd t1090 0) != a0_1) a0_0 a0_1 a0_2 a0_3) else (none)) else (boscagelaw18_ModelNumbers.j0 k t1090 t1093 true a0_0 a0_1 a0_2 a0_3))))) = some r := by rw [if_pos rfl] at H; exact H
    clear H
    have H := H1
    clear H1
    replace H := Option.bind_eq_some_iff.mp H
    obtain ⟨t1090, A40, H⟩ := H
    replace H : ((boscagelaw18_Many.f k a0_0).bind fun t1093 => (if t1093 < 1 then (some ((t1090.length : Int) == 0)) else (if (t1090.length : Int) = t1093 then (if 0 < (t1090.length : Int) then (boscagelaw18_ModelNumbers.j0 k t1090 t1093 ((rd t1090 0) != a0_1) a0_0 a0_1 a0_2 a0_3) else (none)) else (boscagelaw18_ModelNumbers.j0 k t1090 t1093 true a0_0 a0_1 a0_2 a0_3)))) = some r := H
    have A4 := Aside0.mk A40
    clear A40
    replace H := Option.bind_eq_some_iff.mp H
    obtain ⟨t1093, A50, H⟩ := H
    replace H : (if t1093 < 1 then (some ((t1090.length : Int) == 0)) else (if (t1090.length : Int) = t1093 then (if 0 < (t1090.length : Int) then (boscagelaw18_ModelNumbers.j0 k t1090 t1093 ((rd t1090 0) != a0_1) a0_0 a0_1 a0_2 a0_3) else (none)) else (boscagelaw18_ModelNumbers.j0 k t1090 t1093 true a0_0 a0_1 a0_2 a0_3))) = some r := H
    have A5 := Aside0.mk A50
    clear A50
    by_cases c6 : t1093 < 1
    · rw [if_pos c6] at H
      have c6b0 : decide (t1093 < 1) = true := decide_eq_true c6
      clear c6
      obtain rfl := Option.some.inj H
      go_enter Try.func26, Try.ntmps26
      go_wp2_with (first | ((with_reducible refine gate_dst (N := 1) rfl ?_); refine box_event ?hg (N := 1) ?hd (cs := #[.int .u8 a0_0, .int .i64 a0_1, .int .i64 a0_2, .int .i64 a0_3]) (t := 78) ?hr ?_; (case hd => rfl); (case hg => rfl); (case hr => first | (go_simp; done) | (go_simp; rfl)); intro gb1088 hg w7 hbox hb; have n0_ := Aside0.mk (below_step (by repeat (first | (with_reducible first | exact HB.out | apply below_alloc | apply pw_below_drewN | apply below_drew1) | exact HB.out)) hb); have n1_ := Aside0.mk (hbox); have n2_ := Aside0.mk ((by rw [hg]; exact (below_size (by repeat (first | (with_reducible first | exact HB.out | apply below_alloc | apply pw_below_drewN | apply below_drew1) | exact HB.out))) : w.heap.size ≤ gb1088)); have n3_ := Aside0.mk ((by rw [hg]; exact (below_size (by repeat (first | (with_reducible first | exact HB.out | apply below_alloc | apply pw_below_drewN | apply below_drew1) | exact HB.out))) : w.heap.size ≤ gb1088)); clear HB; have HB := n0_; have BK1088 := n1_; have GW1088 := n2_; have GE1088 := n3_; clear n0_ n1_ n2_ n3_; clear hb hbox hg) | (go_at_call 70; (with_reducible refine (boscagelaw18_Awake.calls k  true _ A2.out).mono ?_); rintro e w8 ⟨rfl, hb⟩; have n0_ := Aside0.mk (blk_below (g := gb1088) (o := .cells #[.int .u8 a0_0, .int .i64 a0_1, .int .i64 a0_2, .int .i64 a0_3] 78 (0, 0)) (by (with_reducible repeat (first | refine blk_drewN ?_ _ | refine blk_drew ?_ | refine blk_alloc ?_ _)); exact BK1088.out) hb); have n1_ := Aside0.mk (below_step (by repeat (first | (with_reducible first | exact HB.out | apply below_alloc | apply pw_below_drewN | apply below_drew1 | refine below_set ?_ GE1088.out) | exact HB.out)) hb); clear BK1088; clear HB; have BK1088 := n0_; have HB := n1_; clear n0_ n1_; (try clear hb); (try clear hb2); (try clear hk); (try clear hi); have hcz9_0 : w8.cell? ⟨gb1088, 0, none⟩ = some (.int .u8 a0_0) := (blk_cell BK1088.out 0).trans rfl; have hcz9_1 : w8.cell? ⟨gb1088, 1, none⟩ = some (.int .i64 a0_1) := (blk_cell BK1088.out 1).trans rfl; have hcz9_2 : w8.cell? ⟨gb1088, 2, none⟩ = some (.int .i64 a0_2) := (blk_cell BK1088.out 2).trans rfl; have hcz9_3 : w8.cell? ⟨gb1088, 3, none⟩ = some (.int .i64 a0_3) := (blk_cell BK1088.out 3).trans rfl; have hfz9_0 := blk_frozen BK1088.out 0; have hfz9_1 := blk_frozen BK1088.out 1; have hfz9_2 := blk_frozen BK1088.out 2; have hfz9_3 := blk_frozen BK1088.out 3) | (go_at_call 79; (with_reducible refine (model_Op_Numbers.calls k a0_0 a0_1 a0_2 a0_3 t1090 _ A4.out).mono ?_); rintro e w10 ⟨v1091, rfl, ho0, hb⟩; have n0_ := Aside0.mk (Kd.R_lower ho0 (below_size (by repeat (first | (with_reducible first | exact HB.out | apply below_alloc | apply pw_below_drewN | apply below_drew1 | refine below_set ?_ GE1088.out) | exact HB.out)))); have n1_ := Aside0.mk (blk_below (g := gb1088) (o := .cells #[.int .u8 a0_0, .int .i64 a0_1, .int .i64 a0_2, .int .i64 a0_3] 78 (0, 0)) (by (with_reducible repeat (first | refine blk_drewN ?_ _ | refine blk_drew ?_ | refine blk_alloc ?_ _)); exact BK1088.out) hb); have n2_ := Aside0.mk (below_step (by repeat (first | (with_reducible first | exact HB.out | apply below_alloc | apply pw_below_drewN | apply below_drew1 | refine below_set ?_ GE1088.out) | exact HB.out)) hb); clear BK1088; clear HB; have HO1092 := n0_; have BK1088 := n1_; have HB := n2_; clear n0_ n1_ n2_; (try clear hb); (try clear hb2); (try clear hk); (try clear hi); (try clear ho0); have hcz11_0 : w10.cell? ⟨gb1088, 0, none⟩ = some (.int .u8 a0_0) := (blk_cell BK1088.out 0).trans rfl; have hcz11_1 : w10.cell? ⟨gb1088, 1, none⟩ = some (.int .i64 a0_1) := (blk_cell BK1088.out 1).trans rfl; have hcz11_2 : w10.cell? ⟨gb1088, 2, none⟩ = some (.int .i64 a0_2) := (blk_cell BK1088.out 2).trans rfl; have hcz11_3 : w10.cell? ⟨gb1088, 3, none⟩ = some (.int .i64 a0_3) := (blk_cell BK1088.out 3).trans rfl; have hfz11_0 := blk_frozen BK1088.out 0; have hfz11_1 := blk_frozen BK1088.out 1; have hfz11_2 := blk_frozen BK1088.out 2; have hfz11_3 := blk_frozen BK1088.out 3) | (go_at_call 80; (with_reducible refine (boscagelaw18_Many.calls k a0_0 t1093 _ A5.out).mono ?_); rintro e w' ⟨rfl, ⟨nd, rfl⟩⟩; (try first | exact ⟨rfl, _, World.drewN_drewN _ _ _⟩ | exact ⟨rfl, _, Eq.trans (World.drewN_drewN _ _ _) (congrArg (World.drewN _) (Nat.add_assoc _ _ _))⟩); obtain ⟨Ao12, co12, eo12⟩ := Kd.R_slice HO1092.out; subst eo12))
      repeat (go_quiet (first | ((with_reducible refine gate_dst (N := 1) rfl ?_); refine box_event ?hg (N := 1) ?hd (cs := #[.int .u8 a0_0, .int .i64 a0_1, .int .i64 a0_2, .int .i64 a0_3]) (t := 78) ?hr ?_; (case hd => rfl); (case hg => rfl); (case hr => first | (go_simp; done) | (go_simp; rfl)); intro gb1088 hg w7 hbox hb; have n0_ := Aside0.mk (below_step (by repeat (first | (with_reducible first | exact HB.out | apply below_alloc | apply pw_below_drewN | apply below_drew1) | exact HB.out)) hb); have n1_ := Aside0.mk (hbox); have n2_ := Aside0.mk ((by rw [hg]; exact (below_size (by repeat (first | (with_reducible first | exact HB.out | apply below_alloc | apply pw_below_drewN | apply below_drew1) | exact HB.out))) : w.heap.size ≤ gb1088)); have n3_ := Aside0.mk ((by rw [hg]; exact (below_size (by repeat (first | (with_reducible first | exact HB.out | apply below_alloc | apply pw_below_drewN | apply below_drew1) | exact HB.out))) : w.heap.size ≤ gb1088)); clear HB; have HB := n0_; have BK1088 := n1_; have GW1088 := n2_; have GE1088 := n3_; clear n0_ n1_ n2_ n3_; clear hb hbox hg) | (go_at_call 70; (with_reducible refine (boscagelaw18_Awake.calls k  true _ A2.out).mono ?_); rintro e w8 ⟨rfl, hb⟩; have n0_ := Aside0.mk (blk_below (g := gb1088) (o := .cells #[.int .u8 a0_0, .int .i64 a0_1, .int .i64 a0_2, .int .i64 a0_3] 78 (0, 0)) (by (with_reducible repeat (first | refine blk_drewN ?_ _ | refine blk_drew ?_ | refine blk_alloc ?_ _)); exact BK1088.out) hb); have n1_ := Aside0.mk (below_step (by repeat (first | (with_reducible first | exact HB.out | apply below_alloc | apply pw_below_drewN | apply below_drew1 | refine below_set ?_ GE1088.out) | exact HB.out)) hb); clear BK1088; clear HB; have BK1088 := n0_; have HB := n1_; clear n0_ n1_; (try clear hb); (try clear hb2); (try clear hk); (try clear hi); have hcz9_0 : w8.cell? ⟨gb1088, 0, none⟩ = some (.int .u8 a0_0) := (blk_cell BK1088.out 0).trans rfl; have hcz9_1 : w8.cell? ⟨gb1088, 1, none⟩ = some (.int .i64 a0_1) := (blk_cell BK1088.out 1).trans rfl; have hcz9_2 : w8.cell? ⟨gb1088, 2, none⟩ = some (.int .i64 a0_2) := (blk_cell BK1088.out 2).trans rfl; have hcz9_3 : w8.cell? ⟨gb1088, 3, none⟩ = some (.int .i64 a0_3) := (blk_cell BK1088.out 3).trans rfl; have hfz9_0 := blk_frozen BK1088.out 0; have hfz9_1 := blk_frozen BK1088.out 1; have hfz9_2 := blk_frozen BK1088.out 2; have hfz9_3 := blk_frozen BK1088.out 3) | (go_at_call 79; (with_reducible refine (model_Op_Numbers.calls k a0_0 a0_1 a0_2 a0_3 t1090 _ A4.out).mono ?_); rintro e w10 ⟨v1091, rfl, ho0, hb⟩; have n0_ := Aside0.mk (Kd.R_lower ho0 (below_size (by repeat (first | (with_reducible first | exact HB.out | apply below_alloc | apply pw_below_drewN | apply below_drew1 | refine below_set ?_ GE1088.out) | exact HB.out)))); have n1_ := Aside0.mk (blk_below (g := gb1088) (o := .cells #[.int .u8 a0_0, .int .i64 a0_1, .int .i64 a0_2, .int .i64 a0_3] 78 (0, 0)) (by (with_reducible repeat (first | refine blk_drewN ?_ _ | refine blk_drew ?_ | refine blk_alloc ?_ _)); exact BK1088.out) hb); have n2_ := Aside0.mk (below_step (by repeat (first | (with_reducible first | exact HB.out | apply below_alloc | apply pw_below_drewN | apply below_drew1 | refine below_set ?_ GE1088.out) | exact HB.out)) hb); clear BK1088; clear HB; have HO1092 := n0_; have BK1088 := n1_; have HB := n2_; clear n0_ n1_ n2_; (try clear hb); (try clear hb2); (try clear hk); (try clear hi); (try clear ho0); have hcz11_0 : w10.cell? ⟨gb1088, 0, none⟩ = some (.int .u8 a0_0) := (blk_cell BK1088.out 0).trans rfl; have hcz11_1 : w10.cell? ⟨gb1088, 1, none⟩ = some (.int .i64 a0_1) := (blk_cell BK1088.out 1).trans rfl; have hcz11_2 : w10.cell? ⟨gb1088, 2, none⟩ = some (.int .i64 a0_2) := (blk_cell BK1088.out 2).trans rfl; have hcz11_3 : w10.cell? ⟨gb1088, 3, none⟩ = some (.int .i64 a0_3) := (blk_cell BK1088.out 3).trans rfl; have hfz11_0 := blk_frozen BK1088.out 0; have hfz11_1 := blk_frozen BK1088.out 1; have hfz11_2 := blk_frozen BK1088.out 2; have hfz11_3 := blk_frozen BK1088.out 3) | (go_at_call 80; (with_reducible refine (boscagelaw18_Many.calls k a0_0 t1093 _ A5.out).mono ?_); rintro e w' ⟨rfl, ⟨nd, rfl⟩⟩; (try first | exact ⟨rfl, _, World.drewN_drewN _ _ _⟩ | exact ⟨rfl, _, Eq.trans (World.drewN_drewN _ _ _) (congrArg (World.drewN _) (Nat.add_assoc _ _ _))⟩); obtain ⟨Ao12, co12, eo12⟩ := Kd.R_slice HO1092.out; subst eo12)); try go_wp2_with (first | ((with_reducible refine gate_dst (N := 1) rfl ?_); refine box_event ?hg (N := 1) ?hd (cs := #[.int .u8 a0_0, .int .i64 a0_1, .int .i64 a0_2, .int .i64 a0_3]) (t := 78) ?hr ?_; (case hd => rfl); (case hg => rfl); (case hr => first | (go_simp; done) | (go_simp; rfl)); intro gb1088 hg w7 hbox hb; have n0_ := Aside0.mk (below_step (by repeat (first | (with_reducible first | exact HB.out | apply below_alloc | apply pw_below_drewN | apply below_drew1) | exact HB.out)) hb); have n1_ := Aside0.mk (hbox); have n2_ := Aside0.mk ((by rw [hg]; exact (below_size (by repeat (first | (with_reducible first | exact HB.out | apply below_alloc | apply pw_below_drewN | apply below_drew1) | exact HB.out))) : w.heap.size ≤ gb1088)); have n3_ := Aside0.mk ((by rw [hg]; exact (below_size (by repeat (first | (with_reducible first | exact HB.out | apply below_alloc | apply pw_below_drewN | apply below_drew1) | exact HB.out))) : w.heap.size ≤ gb1088)); clear HB; have HB := n0_; have BK1088 := n1_; have GW1088 := n2_; have GE1088 := n3_; clear n0_ n1_ n2_ n3_; clear hb hbox hg) | (go_at_call 70; (with_reducible refine (boscagelaw18_Awake.calls k  true _ A2.out).mono ?_); rintro e w8 ⟨rfl, hb⟩; have n0_ := Aside0.mk (blk_below (g := gb1088) (o := .cells #[.int .u8 a0_0, .int .i64 a0_1, .int .i64 a0_2, .int .i64 a0_3] 78 (0, 0)) (by (with_reducible repeat (first | refine blk_drewN ?_ _ | refine blk_drew ?_ | refine blk_alloc ?_ _)); exact BK1088.out) hb); have n1_ := Aside0.mk (below_step (by repeat (first | (with_reducible first | exact HB.out | apply below_alloc | apply pw_below_drewN | apply below_drew1 | refine below_set ?_ GE1088.out) | exact HB.out)) hb); clear BK1088; clear HB; have BK1088 := n0_; have HB := n1_; clear n0_ n1_; (try clear hb); (try clear hb2); (try clear hk); (try clear hi); have hcz9_0 : w8.cell? ⟨gb1088, 0, none⟩ = some (.int .u8 a0_0) := (blk_cell BK1088.out 0).trans rfl; have hcz9_1 : w8.cell? ⟨gb1088, 1, none⟩ = some (.int .i64 a0_1) := (blk_cell BK1088.out 1).trans rfl; have hcz9_2 : w8.cell? ⟨gb1088, 2, none⟩ = some (.int .i64 a0_2) := (blk_cell BK1088.out 2).trans rfl; have hcz9_3 : w8.cell? ⟨gb1088, 3, none⟩ = some (.int .i64 a0_3) := (blk_cell BK1088.out 3).trans rfl; have hfz9_0 := blk_frozen BK1088.out 0; have hfz9_1 := blk_frozen BK1088.out 1; have hfz9_2 := blk_frozen BK1088.out 2; have hfz9_3 := blk_frozen BK1088.out 3) | (go_at_call 79; (with_reducible refine (model_Op_Numbers.calls k a0_0 a0_1 a0_2 a0_3 t1090 _ A4.out).mono ?_); rintro e w10 ⟨v1091, rfl, ho0, hb⟩; have n0_ := Aside0.mk (Kd.R_lower ho0 (below_size (by repeat (first | (with_reducible first | exact HB.out | apply below_alloc | apply pw_below_drewN | apply below_drew1 | refine below_set ?_ GE1088.out) | exact HB.out)))); have n1_ := Aside0.mk (blk_below (g := gb1088) (o := .cells #[.int .u8 a0_0, .int .i64 a0_1, .int .i64 a0_2, .int .i64 a0_3] 78 (0, 0)) (by (with_reducible repeat (first | refine blk_drewN ?_ _ | refine blk_drew ?_ | refine blk_alloc ?_ _)); exact BK1088.out) hb); have n2_ := Aside0.mk (below_step (by repeat (first | (with_reducible first | exact HB.out | apply below_alloc | apply pw_below_drewN | apply below_drew1 | refine below_set ?_ GE1088.out) | exact HB.out)) hb); clear BK1088; clear HB; have HO1092 := n0_; have BK1088 := n1_; have HB := n2_; clear n0_ n1_ n2_; (try clear hb); (try clear hb2); (try clear hk); (try clear hi); (try clear ho0); have hcz11_0 : w10.cell? ⟨gb1088, 0, none⟩ = some (.int .u8 a0_0) := (blk_cell BK1088.out 0).trans rfl; have hcz11_1 : w10.cell? ⟨gb1088, 1, none⟩ = some (.int .i64 a0_1) := (blk_cell BK1088.out 1).trans rfl; have hcz11_2 : w10.cell? ⟨gb1088, 2, none⟩ = some (.int .i64 a0_2) := (blk_cell BK1088.out 2).trans rfl; have hcz11_3 : w10.cell? ⟨gb1088, 3, none⟩ = some (.int .i64 a0_3) := (blk_cell BK1088.out 3).trans rfl; have hfz11_0 := blk_frozen BK1088.out 0; have hfz11_1 := blk_frozen BK1088.out 1; have hfz11_2 := blk_frozen BK1088.out 2; have hfz11_3 := blk_frozen BK1088.out 3) | (go_at_call 80; (with_reducible refine (boscagelaw18_Many.calls k a0_0 t1093 _ A5.out).mono ?_); rintro e w' ⟨rfl, ⟨nd, rfl⟩⟩; (try first | exact ⟨rfl, _, World.drewN_drewN _ _ _⟩ | exact ⟨rfl, _, Eq.trans (World.drewN_drewN _ _ _) (congrArg (World.drewN _) (Nat.add_assoc _ _ _))⟩); obtain ⟨Ao12, co12, eo12⟩ := Kd.R_slice HO1092.out; subst eo12)))
      go_ret
      exact ⟨by first | rfl | (simp [errW_none, errW_some] <;> rfl) | (simp [*, errW_none, errW_some] <;> rfl), by repeat (first | (with_reducible first | exact HB.out | apply below_alloc | apply pw_below_drewN | apply below_drew1 | refine below_set ?_ GE1088.out) | exact HB.out)⟩
    · rw [if_neg c6] at H
      have c6b0 : decide (t1093 < 1) = false := decide_eq_false c6
      clear c6
      have HC13 := Aside0.mk H
      clear H
      go_enter Try.func26, Try.ntmps26
      go_upto_region 7 with (first | ((with_reducible refine gate_dst (N := 1) rfl ?_); refine box_event ?hg (N := 1) ?hd (cs := #[.int .u8 a0_0, .int .i64 a0_1, .int .i64 a0_2, .int .i64 a0_3]) (t := 78) ?hr ?_; (case hd => rfl); (case hg => rfl); (case hr => first | (go_simp; done) | (go_simp; rfl)); intro gb1088 hg w14 hbox hb; have n0_ := Aside0.mk (below_step (by repeat (first | (with_reducible first | exact HB.out | apply below_alloc | apply pw_below_drewN | apply below_drew1) | exact HB.out)) hb); have n1_ := Aside0.mk (hbox); have n2_ := Aside0.mk ((by rw [hg]; exact (below_size (by repeat (first | (with_reducible first | exact HB.out | apply below_alloc | apply pw_below_drewN | apply below_drew1) | exact HB.out))) : w.heap.size ≤ gb1088)); have n3_ := Aside0.mk ((by rw [hg]; exact (below_size (by repeat (first | (with_reducible first | exact HB.out | apply below_alloc | apply pw_below_drewN | apply below_drew1) | exact HB.out))) : w.heap.size ≤ gb1088)); clear HB; have HB := n0_; have BK1088 := n1_; have GW1088 := n2_; have GE1088 := n3_; clear n0_ n1_ n2_ n3_; clear hb hbox hg) | (go_at_call 70; (with_reducible refine (boscagelaw18_Awake.calls k  true _ A2.out).mono ?_); rintro e w15 ⟨rfl, hb⟩; have n0_ := Aside0.mk (blk_below (g := gb1088) (o := .cells #[.int .u8 a0_0, .int .i64 a0_1, .int .i64 a0_2, .int .i64 a0_3] 78 (0, 0)) (by (with_reducible repeat (first | refine blk_drewN ?_ _ | refine blk_drew ?_ | refine blk_alloc ?_ _)); exact BK1088.out) hb); have n1_ := Aside0.mk (below_step (by repeat (first | (with_reducible first | exact HB.out | apply below_alloc | apply pw_below_drewN | apply below_drew1 | refine below_set ?_ GE1088.out) | exact HB.out)) hb); clear BK1088; clear HB; have BK1088 := n0_; have HB := n1_; clear n0_ n1_; (try clear hb); (try clear hb2); (try clear hk); (try clear hi); have hcz16_0 : w15.cell? ⟨gb1088, 0, none⟩ = some (.int .u8 a0_0) := (blk_cell BK1088.out 0).trans rfl; have hcz16_1 : w15.cell? ⟨gb1088, 1, none⟩ = some (.int .i64 a0_1) := (blk_cell BK1088.out 1).trans rfl; have hcz16_2 : w15.cell? ⟨gb1088, 2, none⟩ = some (.int .i64 a0_2) := (blk_cell BK1088.out 2).trans rfl; have hcz16_3 : w15.cell? ⟨gb1088, 3, none⟩ = some (.int .i64 a0_3) := (blk_cell BK1088.out 3).trans rfl; have hfz16_0 := blk_frozen BK1088.out 0; have hfz16_1 := blk_frozen BK1088.out 1; have hfz16_2 := blk_frozen BK1088.out 2; have hfz16_3 := blk_frozen BK1088.out 3) | (go_at_call 79; (with_reducible refine (model_Op_Numbers.calls k a0_0 a0_1 a0_2 a0_3 t1090 _ A4.out).mono ?_); rintro e w17 ⟨v1091, rfl, ho0, hb⟩; have n0_ := Aside0.mk (Kd.R_lower ho0 (below_size (by repeat (first | (with_reducible first | exact HB.out | apply below_alloc | apply pw_below_drewN | apply below_drew1 | refine below_set ?_ GE1088.out) | exact HB.out)))); have n1_ := Aside0.mk (blk_below (g := gb1088) (o := .cells #[.int .u8 a0_0, .int .i64 a0_1, .int .i64 a0_2, .int .i64 a0_3] 78 (0, 0)) (by (with_reducible repeat (first | refine blk_drewN ?_ _ | refine blk_drew ?_ | refine blk_alloc ?_ _)); exact BK1088.out) hb); have n2_ := Aside0.mk (below_step (by repeat (first | (with_reducible first | exact HB.out | apply below_alloc | apply pw_below_drewN | apply below_drew1 | refine below_set ?_ GE1088.out) | exact HB.out)) hb); clear BK1088; clear HB; have HO1092 := n0_; have BK1088 := n1_; have HB := n2_; clear n0_ n1_ n2_; (try clear hb); (try clear hb2); (try clear hk); (try clear hi); (try clear ho0); have hcz18_0 : w17.cell? ⟨gb1088, 0, none⟩ = some (.int .u8 a0_0) := (blk_cell BK1088.out 0).trans rfl; have hcz18_1 : w17.cell? ⟨gb1088, 1, none⟩ = some (.int .i64 a0_1) := (blk_cell BK1088.out 1).trans rfl; have hcz18_2 : w17.cell? ⟨gb1088, 2, none⟩ = some (.int .i64 a0_2) := (blk_cell BK1088.out 2).trans rfl; have hcz18_3 : w17.cell? ⟨gb1088, 3, none⟩ = some (.int .i64 a0_3) := (blk_cell BK1088.out 3).trans rfl; have hfz18_0 := blk_frozen BK1088.out 0; have hfz18_1 := blk_frozen BK1088.out 1; have hfz18_2 := blk_frozen BK1088.out 2; have hfz18_3 := blk_frozen BK1088.out 3) | (go_at_call 80; (with_reducible refine (boscagelaw18_Many.calls k a0_0 t1093 _ A5.out).mono ?_); rintro e w' ⟨rfl, ⟨nd, rfl⟩⟩; (try first | exact ⟨rfl, _, World.drewN_drewN _ _ _⟩ | exact ⟨rfl, _, Eq.trans (World.drewN_drewN _ _ _) (congrArg (World.drewN _) (Nat.add_assoc _ _ _))⟩)))
      repeat (go_quiet (first | ((with_reducible refine gate_dst (N := 1) rfl ?_); refine box_event ?hg (N := 1) ?hd (cs := #[.int .u8 a0_0, .int .i64 a0_1, .int .i64 a0_2, .int .i64 a0_3]) (t := 78) ?hr ?_; (case hd => rfl); (case hg => rfl); (case hr => first | (go_simp; done) | (go_simp; rfl)); intro gb1088 hg w14 hbox hb; have n0_ := Aside0.mk (below_step (by repeat (first | (with_reducible first | exact HB.out | apply below_alloc | apply pw_below_drewN | apply below_drew1) | exact HB.out)) hb); have n1_ := Aside0.mk (hbox); have n2_ := Aside0.mk ((by rw [hg]; exact (below_size (by repeat (first | (with_reducible first | exact HB.out | apply below_alloc | apply pw_below_drewN | apply below_drew1) | exact HB.out))) : w.heap.size ≤ gb1088)); have n3_ := Aside0.mk ((by rw [hg]; exact (below_size (by repeat (first | (with_reducible first | exact HB.out | apply below_alloc | apply pw_below_drewN | apply below_drew1) | exact HB.out))) : w.heap.size ≤ gb1088)); clear HB; have HB := n0_; have BK1088 := n1_; have GW1088 := n2_; have GE1088 := n3_; clear n0_ n1_ n2_ n3_; clear hb hbox hg) | (go_at_call 70; (with_reducible refine (boscagelaw18_Awake.calls k  true _ A2.out).mono ?_); rintro e w15 ⟨rfl, hb⟩; have n0_ := Aside0.mk (blk_below (g := gb1088) (o := .cells #[.int .u8 a0_0, .int .i64 a0_1, .int .i64 a0_2, .int .i64 a0_3] 78 (0, 0)) (by (with_reducible repeat (first | refine blk_drewN ?_ _ | refine blk_drew ?_ | refine blk_alloc ?_ _)); exact BK1088.out) hb); have n1_ := Aside0.mk (below_step (by repeat (first | (with_reducible first | exact HB.out | apply below_alloc | apply pw_below_drewN | apply below_drew1 | refine below_set ?_ GE1088.out) | exact HB.out)) hb); clear BK1088; clear HB; have BK1088 := n0_; have HB := n1_; clear n0_ n1_; (try clear hb); (try clear hb2); (try clear hk); (try clear hi); have hcz16_0 : w15.cell? ⟨gb1088, 0, none⟩ = some (.int .u8 a0_0) := (blk_cell BK1088.out 0).trans rfl; have hcz16_1 : w15.cell? ⟨gb1088, 1, none⟩ = some (.int .i64 a0_1) := (blk_cell BK1088.out 1).trans rfl; have hcz16_2 : w15.cell? ⟨gb1088, 2, none⟩ = some (.int .i64 a0_2) := (blk_cell BK1088.out 2).trans rfl; have hcz16_3 : w15.cell? ⟨gb1088, 3, none⟩ = some (.int .i64 a0_3) := (blk_cell BK1088.out 3).trans rfl; have hfz16_0 := blk_frozen BK1088.out 0; have hfz16_1 := blk_frozen BK1088.out 1; have hfz16_2 := blk_frozen BK1088.out 2; have hfz16_3 := blk_frozen BK1088.out 3) | (go_at_call 79; (with_reducible refine (model_Op_Numbers.calls k a0_0 a0_1 a0_2 a0_3 t1090 _ A4.out).mono ?_); rintro e w17 ⟨v1091, rfl, ho0, hb⟩; have n0_ := Aside0.mk (Kd.R_lower ho0 (below_size (by repeat (first | (with_reducible first | exact HB.out | apply below_alloc | apply pw_below_drewN | apply below_drew1 | refine below_set ?_ GE1088.out) | exact HB.out)))); have n1_ := Aside0.mk (blk_below (g := gb1088) (o := .cells #[.int .u8 a0_0, .int .i64 a0_1, .int .i64 a0_2, .int .i64 a0_3] 78 (0, 0)) (by (with_reducible repeat (first | refine blk_drewN ?_ _ | refine blk_drew ?_ | refine blk_alloc ?_ _)); exact BK1088.out) hb); have n2_ := Aside0.mk (below_step (by repeat (first | (with_reducible first | exact HB.out | apply below_alloc | apply pw_below_drewN | apply below_drew1 | refine below_set ?_ GE1088.out) | exact HB.out)) hb); clear BK1088; clear HB; have HO1092 := n0_; have BK1088 := n1_; have HB := n2_; clear n0_ n1_ n2_; (try clear hb); (try clear hb2); (try clear hk); (try clear hi); (try clear ho0); have hcz18_0 : w17.cell? ⟨gb1088, 0, none⟩ = some (.int .u8 a0_0) := (blk_cell BK1088.out 0).trans rfl; have hcz18_1 : w17.cell? ⟨gb1088, 1, none⟩ = some (.int .i64 a0_1) := (blk_cell BK1088.out 1).trans rfl; have hcz18_2 : w17.cell? ⟨gb1088, 2, none⟩ = some (.int .i64 a0_2) := (blk_cell BK1088.out 2).trans rfl; have hcz18_3 : w17.cell? ⟨gb1088, 3, none⟩ = some (.int .i64 a0_3) := (blk_cell BK1088.out 3).trans rfl; have hfz18_0 := blk_frozen BK1088.out 0; have hfz18_1 := blk_frozen BK1088.out 1; have hfz18_2 := blk_frozen BK1088.out 2; have hfz18_3 := blk_frozen BK1088.out 3) | (go_at_call 80; (with_reducible refine (boscagelaw18_Many.calls k a0_0 t1093 _ A5.out).mono ?_); rintro e w' ⟨rfl, ⟨nd, rfl⟩⟩; (try first | exact ⟨rfl, _, World.drewN_drewN _ _ _⟩ | exact ⟨rfl, _, Eq.trans (World.drewN_drewN _ _ _) (congrArg (World.drewN _) (Nat.add_assoc _ _ _))⟩))); go_upto_region 7 with (first | ((with_reducible refine gate_dst (N := 1) rfl ?_); refine box_event ?hg (N := 1) ?hd (cs := #[.int .u8 a0_0, .int .i64 a0_1, .int .i64 a0_2, .int .i64 a0_3]) (t := 78) ?hr ?_; (case hd => rfl); (case hg => rfl); (case hr => first | (go_simp; done) | (go_simp; rfl)); intro gb1088 hg w14 hbox hb; have n0_ := Aside0.mk (below_step (by repeat (first | (with_reducible first | exact HB.out | apply below_alloc | apply pw_below_drewN | apply below_drew1) | exact HB.out)) hb); have n1_ := Aside0.mk (hbox); have n2_ := Aside0.mk ((by rw [hg]; exact (below_size (by repeat (first | (with_reducible first | exact HB.out | apply below_alloc | apply pw_below_drewN | apply below_drew1) | exact HB.out))) : w.heap.size ≤ gb1088)); have n3_ := Aside0.mk ((by rw [hg]; exact (below_size (by repeat (first | (with_reducible first | exact HB.out | apply below_alloc | apply pw_below_drewN | apply below_drew1) | exact HB.out))) : w.heap.size ≤ gb1088)); clear HB; have HB := n0_; have BK1088 := n1_; have GW1088 := n2_; have GE1088 := n3_; clear n0_ n1_ n2_ n3_; clear hb hbox hg) | (go_at_call 70; (with_reducible refine (boscagelaw18_Awake.calls k  true _ A2.out).mono ?_); rintro e w15 ⟨rfl, hb⟩; have n0_ := Aside0.mk (blk_below (g := gb1088) (o := .cells #[.int .u8 a0_0, .int .i64 a0_1, .int .i64 a0_2, .int .i64 a0_3] 78 (0, 0)) (by (with_reducible repeat (first | refine blk_drewN ?_ _ | refine blk_drew ?_ | refine blk_alloc ?_ _)); exact BK1088.out) hb); have n1_ := Aside0.mk (below_step (by repeat (first | (with_reducible first | exact HB.out | apply below_alloc | apply pw_below_drewN | apply below_drew1 | refine below_set ?_ GE1088.out) | exact HB.out)) hb); clear BK1088; clear HB; have BK1088 := n0_; have HB := n1_; clear n0_ n1_; (try clear hb); (try clear hb2); (try clear hk); (try clear hi); have hcz16_0 : w15.cell? ⟨gb1088, 0, none⟩ = some (.int .u8 a0_0) := (blk_cell BK1088.out 0).trans rfl; have hcz16_1 : w15.cell? ⟨gb1088, 1, none⟩ = some (.int .i64 a0_1) := (blk_cell BK1088.out 1).trans rfl; have hcz16_2 : w15.cell? ⟨gb1088, 2, none⟩ = some (.int .i64 a0_2) := (blk_cell BK1088.out 2).trans rfl; have hcz16_3 : w15.cell? ⟨gb1088, 3, none⟩ = some (.int .i64 a0_3) := (blk_cell BK1088.out 3).trans rfl; have hfz16_0 := blk_frozen BK1088.out 0; have hfz16_1 := blk_frozen BK1088.out 1; have hfz16_2 := blk_frozen BK1088.out 2; have hfz16_3 := blk_frozen BK1088.out 3) | (go_at_call 79; (with_reducible refine (model_Op_Numbers.calls k a0_0 a0_1 a0_2 a0_3 t1090 _ A4.out).mono ?_); rintro e w17 ⟨v1091, rfl, ho0, hb⟩; have n0_ := Aside0.mk (Kd.R_lower ho0 (below_size (by repeat (first | (with_reducible first | exact HB.out | apply below_alloc | apply pw_below_drewN | apply below_drew1 | refine below_set ?_ GE1088.out) | exact HB.out)))); have n1_ := Aside0.mk (blk_below (g := gb1088) (o := .cells #[.int .u8 a0_0, .int .i64 a0_1, .int .i64 a0_2, .int .i64 a0_3] 78 (0, 0)) (by (with_reducible repeat (first | refine blk_drewN ?_ _ | refine blk_drew ?_ | refine blk_alloc ?_ _)); exact BK1088.out) hb); have n2_ := Aside0.mk (below_step (by repeat (first | (with_reducible first | exact HB.out | apply below_alloc | apply pw_below_drewN | apply below_drew1 | refine below_set ?_ GE1088.out) | exact HB.out)) hb); clear BK1088; clear HB; have HO1092 := n0_; have BK1088 := n1_; have HB := n2_; clear n0_ n1_ n2_; (try clear hb); (try clear hb2); (try clear hk); (try clear hi); (try clear ho0); have hcz18_0 : w17.cell? ⟨gb1088, 0, none⟩ = some (.int .u8 a0_0) := (blk_cell BK1088.out 0).trans rfl; have hcz18_1 : w17.cell? ⟨gb1088, 1, none⟩ = some (.int .i64 a0_1) := (blk_cell BK1088.out 1).trans rfl; have hcz18_2 : w17.cell? ⟨gb1088, 2, none⟩ = some (.int .i64 a0_2) := (blk_cell BK1088.out 2).trans rfl; have hcz18_3 : w17.cell? ⟨gb1088, 3, none⟩ = some (.int .i64 a0_3) := (blk_cell BK1088.out 3).trans rfl; have hfz18_0 := blk_frozen BK1088.out 0; have hfz18_1 := blk_frozen BK1088.out 1; have hfz18_2 := blk_frozen BK1088.out 2; have hfz18_3 := blk_frozen BK1088.out 3) | (go_at_call 80; (with_reducible refine (boscagelaw18_Many.calls k a0_0 t1093 _ A5.out).mono ?_); rintro e w' ⟨rfl, ⟨nd, rfl⟩⟩; (try first | exact ⟨rfl, _, World.drewN_drewN _ _ _⟩ | exact ⟨rfl, _, Eq.trans (World.drewN_drewN _ _ _) (congrArg (World.drewN _) (Nat.add_assoc _ _ _))⟩))))
      (try simp only [Act.put, List.setIfInBounds_toArray, List.set_cons_zero, List.set_cons_succ])
      go_cut [28] (fun v28 wc => ∃ (kq : Nat) (x28_12 : Bool), v28 = .bool x28_12 ∧ Aside0 (boscagelaw18_ModelNumbers.j0 kq t1090 t1093 x28_12 a0_0 a0_1 a0_2 a0_3 = some r) ∧ Aside0 (kq ≤ k) ∧ Aside0 (Kd.R (Kd.int .i64) 2 wc w.heap.size (fun _ => True) v1091 t1090) ∧ Aside0 (wc.heap[gb1088]? = some (.cells #[.int .u8 a0_0, .int .i64 a0_1, .int .i64 a0_2, .int .i64 a0_3] 78 (0, 0))) ∧ Aside0 (Below w.heap.size w wc))
      case first =>
        have H := HC13.out
        clear HC13
        by_cases c19 : (t1090.length : Int) = t1093
        · rw [if_pos c19] at H
          have c19b0 : ((t1090.length : Int) == t1093) = true := beq_iff_eq.mpr c19
          have c19b1 : ((t1090.length : Int) != t1093) = false := bne_eq_false_iff_eq.mpr c19
          clear c19
          (first | rw [c19b0] | (simp only [i64_w, i32_w]; rw [c19b0]) | skip)
          by_cases c20 : 0 < (t1090.length : Int)
          · rw [if_pos c20] at H
            have c20b0 : decide (0 < (t1090.length : Int)) = true := decide_eq_true c20
            have c20b1 : decide (0 < t1090.length) = true := decide_eq_true (by omega)
            clear c20
            have H' := Aside0.mk H
            clear H
            obtain ⟨Ao21, co21, eo21⟩ := Kd.R_slice HO1092.out
            subst eo21
            have p1094 : 0 ≤ (0 : Int) := (by omega)
            have q1094 : 0 < (t1090.length : Int) := of_decide_eq_true (by first | (with_reducible assumption) | assumption)
            obtain ⟨ad1094, e1094, hx1094_0⟩ := Kd.at_int (Kd.R_reads' HO1092.out).2.2 0 p1094 q1094
            cases e1094
            have qi1094 : (0 < t1090.length) = True := eq_true (by omega)
            (try rw [show ((0 : Int)).toNat = 0 from rfl] at hx1094_0)
            (try rw [Addr.add_zero'] at hx1094_0)
            replace p1094 := eq_true p1094
            replace q1094 := eq_true q1094
            have hcz22_0 : w17.cell? ⟨gb1088, 0, none⟩ = some (.int .u8 a0_0) := (blk_cell BK1088.out 0).trans rfl
            have hcz22_1 : w17.cell? ⟨gb1088, 1, none⟩ = some (.int .i64 a0_1) := (blk_cell BK1088.out 1).trans rfl
            have hcz22_2 : w17.cell? ⟨gb1088, 2, none⟩ = some (.int .i64 a0_2) := (blk_cell BK1088.out 2).trans rfl
            have hcz22_3 : w17.cell? ⟨gb1088, 3, none⟩ = some (.int .i64 a0_3) := (blk_cell BK1088.out 3).trans rfl
            have hfz22_0 := blk_frozen BK1088.out 0
            have hfz22_1 := blk_frozen BK1088.out 1
            have hfz22_2 := blk_frozen BK1088.out 2
            have hfz22_3 := blk_frozen BK1088.out 3
            go_wp2
            repeat (go_quiet (fail); try go_wp2)
            go_meet
            case rel => exact ⟨_, (((rd t1090 0) != a0_1)), (by first | rfl | (simp; done) | (simp [*]; done)), H', ⟨by first | omega | exact Nat.le_refl _⟩, ⟨by (with_reducible repeat (first | apply Kd.R_alloc | apply Kd.R_drewN | apply Kd.R_drew)); exact HO1092.out⟩, ⟨by (with_reducible repeat (first | refine blk_drewN ?_ _ | refine blk_drew ?_ | refine blk_alloc ?_ _)); exact BK1088.out⟩, ⟨by repeat (first | (with_reducible first | exact HB.out | apply below_alloc | apply pw_below_drewN | apply below_drew1 | refine below_set ?_ GE1088.out) | exact HB.out)⟩⟩
          · rw [if_neg c20] at H
            exact absurd H (by simp)
        · rw [if_neg c19] at H
          have c19b0 : ((t1090.length : Int) == t1093) = false := beq_eq_false_iff_ne.mpr c19
          have c19b1 : ((t1090.length : Int) != t1093) = true := bne_iff_ne.mpr c19
          (first | rw [c19b0] | (simp only [i64_w, i32_w]; rw [c19b0]) | skip)
          have H' := Aside0.mk H
          clear H
          obtain ⟨Ao23, co23, eo23⟩ := Kd.R_slice HO1092.out
          subst eo23
          go_wp2
          repeat (go_quiet (fail); try go_wp2)
          go_meet
          case rel => exact ⟨_, (true), (by first | rfl | (simp; done) | (simp [*]; done)), H', ⟨by first | omega | exact Nat.le_refl _⟩, ⟨by (with_reducible repeat (first | apply Kd.R_alloc | apply Kd.R_drewN | apply Kd.R_drew)); exact HO1092.out⟩, ⟨by (with_reducible repeat (first | refine blk_drewN ?_ _ | refine blk_drew ?_ | refine blk_alloc ?_ _)); exact BK1088.out⟩, ⟨by repeat (first | (with_reducible first | exact HB.out | apply below_alloc | apply pw_below_drewN | apply below_drew1 | refine below_set ?_ GE1088.out) | exact HB.out)⟩⟩
      case rest =>
        clear HC13
        try clear c1
        try clear p1
        try clear q1
        try clear hx1
        try clear qi1
        try clear c2
        try clear p2
        try clear c3
        try clear c6
        try clear c6b0
        try clear p10
        try clear q10
        try clear hx10
        try clear qi10
        try clear c19
        try clear c19b0
        try clear c19b1
        try clear c20
        try clear c20b0
        try clear c20b1
        try clear hcz11_0
        try clear hcz11_1
        try clear hcz11_2
        try clear hcz11_3
        try clear hcz16_0
        try clear hcz16_1
        try clear hcz16_2
        try clear hcz16_3
        try clear hcz18_0
        try clear hcz18_1
        try clear hcz18_2
        try clear hcz18_3
        try clear hcz22_0
        try clear hcz22_1
        try clear hcz22_2
        try clear hcz22_3
        try clear hcz9_0
        try clear hcz9_1
        try clear hcz9_2
        try clear hcz9_3
        try clear hfz11_0
        try clear hfz11_1
        try clear hfz11_2
        try clear hfz11_3
        try clear hfz16_0
        try clear hfz16_1
        try clear hfz16_2
        try clear hfz16_3
        try clear hfz18_0
        try clear hfz18_1
        try clear hfz18_2
        try clear hfz18_3
        try clear hfz22_0
        try clear hfz22_1
        try clear hfz22_2
        try clear hfz22_3
        try clear hfz9_0
        try clear hfz9_1
        try clear hfz9_2
        try clear hfz9_3
        try clear hx1094_0
        try clear p1094
        try clear q1094
        obtain ⟨kq, x28_12, rfl, HA, HJ12, HO_3, BK1088, HB⟩ := hcut
        cases kq with
        | zero => exact absurd HA.out (by simp [boscagelaw18_ModelNumbers.j0])
        | succ kj12 =>
          have H := HA.out
          clear HA
          simp only [boscagelaw18_ModelNumbers.j0] at H
          by_cases c24 : x28_12 = true
          · subst c24
            have H1 : (some false) = some r := by rw [if_pos rfl] at H; exact H
            clear H
            have H := H1
            clear H1
            obtain rfl := Option.some.inj H
            go_wp2
            repeat (go_quiet (fail); try go_wp2)
            go_ret
            exact ⟨by first | rfl | (simp [errW_none, errW_some] <;> rfl) | (simp [*, errW_none, errW_some] <;> rfl), by repeat (first | (with_reducible first | exact HB.out | apply below_alloc | apply pw_below_drewN | apply below_drew1 | refine below_set ?_ GE1088.out) | exact HB.out)⟩
          · replace c24 := Bool.eq_false_iff.mpr c24
            subst c24
            have H1 : (if t1093 = 2 then (if a0_0 = 1 then (if 1 < (t1090.length : Int) then (some ((rd t1090 1) == a0_3)) else (none)) else (if a0_0 = 2 then (if 1 < (t1090.length : Int) then (some ((rd t1090 1) == a0_3)) else (none)) else (if t1093 = 1 then (some true) else (if 1 < (t1090.length : Int) then (some ((rd t1090 1) == a0_2)) else (none))))) else (if t1093 = 1 then (some true) else (if 1 < (t1090.length : Int) then (some ((rd t1090 1) == a0_2)) else (none)))) = some r := by rw [if_neg (show ¬ (false = true) by decide)] at H; exact H
            clear H
            have H := H1
            clear H1
            by_cases c25 : t1093 = 2
            · rw [if_pos c25] at H
              have c25b0 : (t1093 == 2) = true := beq_iff_eq.mpr c25
              have c25b1 : (t1093 != 2) = false := bne_eq_false_iff_eq.mpr c25
              clear c25
              by_cases c26 : a0_0 = 1
              · rw [if_pos c26] at H
                have c26b0 : (a0_0 == 1) = true := beq_iff_eq.mpr c26
                have c26b1 : (a0_0 != 1) = false := bne_eq_false_iff_eq.mpr c26
                clear c26
                by_cases c27 : 1 < (t1090.length : Int)
                · rw [if_pos c27] at H
                  have c27b0 : decide (1 < (t1090.length : Int)) = true := decide_eq_true c27
                  have c27b1 : decide (1 < t1090.length) = true := decide_eq_true (by omega)
                  clear c27
                  obtain rfl := Option.some.inj H
                  have hcz28_0 : wc.cell? ⟨gb1088, 0, none⟩ = some (.int .u8 a0_0) := (blk_cell BK1088.out 0).trans rfl
                  have hcz28_1 : wc.cell? ⟨gb1088, 1, none⟩ = some (.int .i64 a0_1) := (blk_cell BK1088.out 1).trans rfl
                  have hcz28_2 : wc.cell? ⟨gb1088, 2, none⟩ = some (.int .i64 a0_2) := (blk_cell BK1088.out 2).trans rfl
                  have hcz28_3 : wc.cell? ⟨gb1088, 3, none⟩ = some (.int .i64 a0_3) := (blk_cell BK1088.out 3).trans rfl
                  have hfz28_0 := blk_frozen BK1088.out 0
                  have hfz28_1 := blk_frozen BK1088.out 1
                  have hfz28_2 := blk_frozen BK1088.out 2
                  have hfz28_3 := blk_frozen BK1088.out 3
                  obtain ⟨Ao29, co29, eo29⟩ := Kd.R_slice HO_3.out
                  subst eo29
                  have p1095 : 0 ≤ (1 : Int) := (by omega)
                  have q1095 : 1 < (t1090.length : Int) := of_decide_eq_true (by first | (with_reducible assumption) | assumption)
                  obtain ⟨ad1095, e1095, hx1095_0⟩ := Kd.at_int (Kd.R_reads' HO_3.out).2.2 1 p1095 q1095
                  cases e1095
                  (try simp only [show (1 : Int).toNat = 1 from rfl, Nat.reduceMul, Nat.reduceEqDiff, Go.Addr.add, ↓reduceIte] at hx1095_0)
                  have qi1095 : (1 < t1090.length) = True := eq_true (by omega)
                  (try rw [show ((1 : Int)).toNat = 1 from rfl] at hx1095_0)
                  replace p1095 := eq_true p1095
                  replace q1095 := eq_true q1095
                  go_wp2
                  repeat (go_quiet (fail); try go_wp2)
                  go_ret
                  exact ⟨by first | rfl | (simp [errW_none, errW_some] <;> rfl) | (simp [*, errW_none, errW_some] <;> rfl), by repeat (first | (with_reducible first | exact HB.out | apply below_alloc | apply pw_below_drewN | apply below_drew1 | refine below_set ?_ GE1088.out) | exact HB.out)⟩
                · rw [if_neg c27] at H
                  exact absurd H (by simp)
              · rw [if_neg c26] at H
                have c26b0 : (a0_0 == 1) = false := beq_eq_false_iff_ne.mpr c26
                have c26b1 : (a0_0 != 1) = true := bne_iff_ne.mpr c26
                by_cases c30 : a0_0 = 2
                · rw [if_pos c30] at H
                  have c30b0 : (a0_0 == 2) = true := beq_iff_eq.mpr c30
                  have c30b1 : (a0_0 != 2) = false := bne_eq_false_iff_eq.mpr c30
                  clear c30
                  by_cases c31 : 1 < (t1090.length : Int)
                  · rw [if_pos c31] at H
                    have c31b0 : decide (1 < (t1090.length : Int)) = true := decide_eq_true c31
                    have c31b1 : decide (1 < t1090.length) = true := decide_eq_true (by omega)
                    clear c31
                    obtain rfl := Option.some.inj H
                    have hcz32_0 : wc.cell? ⟨gb1088, 0, none⟩ = some (.int .u8 a0_0) := (blk_cell BK1088.out 0).trans rfl
                    have hcz32_1 : wc.cell? ⟨gb1088, 1, none⟩ = some (.int .i64 a0_1) := (blk_cell BK1088.out 1).trans rfl
                    have hcz32_2 : wc.cell? ⟨gb1088, 2, none⟩ = some (.int .i64 a0_2) := (blk_cell BK1088.out 2).trans rfl
                    have hcz32_3 : wc.cell? ⟨gb1088, 3, none⟩ = some (.int .i64 a0_3) := (blk_cell BK1088.out 3).trans rfl
                    have hfz32_0 := blk_frozen BK1088.out 0
                    have hfz32_1 := blk_frozen BK1088.out 1
                    have hfz32_2 := blk_frozen BK1088.out 2
                    have hfz32_3 := blk_frozen BK1088.out 3
                    obtain ⟨Ao33, co33, eo33⟩ := Kd.R_slice HO_3.out
                    subst eo33
                    have p1096 : 0 ≤ (1 : Int) := (by omega)
                    have q1096 : 1 < (t1090.length : Int) := of_decide_eq_true (by first | (with_reducible assumption) | assumption)
                    obtain ⟨ad1096, e1096, hx1096_0⟩ := Kd.at_int (Kd.R_reads' HO_3.out).2.2 1 p1096 q1096
                    cases e1096
                    (try simp only [show (1 : Int).toNat = 1 from rfl, Nat.reduceMul, Nat.reduceEqDiff, Go.Addr.add, ↓reduceIte] at hx1096_0)
                    have qi1096 : (1 < t1090.length) = True := eq_true (by omega)
                    (try rw [show ((1 : Int)).toNat = 1 from rfl] at hx1096_0)
                    replace p1096 := eq_true p1096
                    replace q1096 := eq_true q1096
                    go_wp2
                    repeat (go_quiet (fail); try go_wp2)
                    go_ret
                    exact ⟨by first | rfl | (simp [errW_none, errW_some] <;> rfl) | (simp [*, errW_none, errW_some] <;> rfl), by repeat (first | (with_reducible first | exact HB.out | apply below_alloc | apply pw_below_drewN | apply below_drew1 | refine below_set ?_ GE1088.out) | exact HB.out)⟩
                  · rw [if_neg c31] at H
                    exact absurd H (by simp)
                · rw [if_neg c30] at H
                  have c30b0 : (a0_0 == 2) = false := beq_eq_false_iff_ne.mpr c30
                  have c30b1 : (a0_0 != 2) = true := bne_iff_ne.mpr c30
                  by_cases c34 : t1093 = 1
                  · rw [if_pos c34] at H
                    have c34b0 : (t1093 == 1) = true := beq_iff_eq.mpr c34
                    have c34b1 : (t1093 != 1) = false := bne_eq_false_iff_eq.mpr c34
                    clear c34
                    obtain rfl := Option.some.inj H
                    have hcz35_0 : wc.cell? ⟨gb1088, 0, none⟩ = some (.int .u8 a0_0) := (blk_cell BK1088.out 0).trans rfl
                    have hcz35_1 : wc.cell? ⟨gb1088, 1, none⟩ = some (.int .i64 a0_1) := (blk_cell BK1088.out 1).trans rfl
                    have hcz35_2 : wc.cell? ⟨gb1088, 2, none⟩ = some (.int .i64 a0_2) := (blk_cell BK1088.out 2).trans rfl
                    have hcz35_3 : wc.cell? ⟨gb1088, 3, none⟩ = some (.int .i64 a0_3) := (blk_cell BK1088.out 3).trans rfl
                    have hfz35_0 := blk_frozen BK1088.out 0
                    have hfz35_1 := blk_frozen BK1088.out 1
                    have hfz35_2 := blk_frozen BK1088.out 2
                    have hfz35_3 := blk_frozen BK1088.out 3
                    go_wp2
                    repeat (go_quiet (fail); try go_wp2)
                    go_ret
                    exact ⟨by first | rfl | (simp [errW_none, errW_some] <;> rfl) | (simp [*, errW_none, errW_some] <;> rfl), by repeat (first | (with_reducible first | exact HB.out | apply below_alloc | apply pw_below_drewN | apply below_drew1 | refine below_set ?_ GE1088.out) | exact HB.out)⟩
                  · rw [if_neg c34] at H
                    have c34b0 : (t1093 == 1) = false := beq_eq_false_iff_ne.mpr c34
                    have c34b1 : (t1093 != 1) = true := bne_iff_ne.mpr c34
                    by_cases c36 : 1 < (t1090.length : Int)
                    · rw [if_pos c36] at H
                      have c36b0 : decide (1 < (t1090.length : Int)) = true := decide_eq_true c36
                      have c36b1 : decide (1 < t1090.length) = true := decide_eq_true (by omega)
                      clear c36
                      obtain rfl := Option.some.inj H
                      have hcz37_0 : wc.cell? ⟨gb1088, 0, none⟩ = some (.int .u8 a0_0) := (blk_cell BK1088.out 0).trans rfl
                      have hcz37_1 : wc.cell? ⟨gb1088, 1, none⟩ = some (.int .i64 a0_1) := (blk_cell BK1088.out 1).trans rfl
                      have hcz37_2 : wc.cell? ⟨gb1088, 2, none⟩ = some (.int .i64 a0_2) := (blk_cell BK1088.out 2).trans rfl
                      have hcz37_3 : wc.cell? ⟨gb1088, 3, none⟩ = some (.int .i64 a0_3) := (blk_cell BK1088.out 3).trans rfl
                      have hfz37_0 := blk_frozen BK1088.out 0
                      have hfz37_1 := blk_frozen BK1088.out 1
                      have hfz37_2 := blk_frozen BK1088.out 2
                      have hfz37_3 := blk_frozen BK1088.out 3
                      obtain ⟨Ao38, co38, eo38⟩ := Kd.R_slice HO_3.out
                      subst eo38
                      have p1097 : 0 ≤ (1 : Int) := (by omega)
                      have q1097 : 1 < (t1090.length : Int) := of_decide_eq_true (by first | (with_reducible assumption) | assumption)
                      obtain ⟨ad1097, e1097, hx1097_0⟩ := Kd.at_int (Kd.R_reads' HO_3.out).2.2 1 p1097 q1097
                      cases e1097
                      (try simp only [show (1 : Int).toNat = 1 from rfl, Nat.reduceMul, Nat.reduceEqDiff, Go.Addr.add, ↓reduceIte] at hx1097_0)
                      have qi1097 : (1 < t1090.length) = True := eq_true (by omega)
                      (try rw [show ((1 : Int)).toNat = 1 from rfl] at hx1097_0)
                      replace p1097 := eq_true p1097
                      replace q1097 := eq_true q1097
                      go_wp2
                      repeat (go_quiet (fail); try go_wp2)
                      go_ret
                      exact ⟨by first | rfl | (simp [errW_none, errW_some] <;> rfl) | (simp [*, errW_none, errW_some] <;> rfl), by repeat (first | (with_reducible first | exact HB.out | apply below_alloc | apply pw_below_drewN | apply below_drew1 | refine below_set ?_ GE1088.out) | exact HB.out)⟩
                    · rw [if_neg c36] at H
                      exact absurd H (by simp)
            · rw [if_neg c25] at H
              have c25b0 : (t1093 == 2) = false := beq_eq_false_iff_ne.mpr c25
              have c25b1 : (t1093 != 2) = true := bne_iff_ne.mpr c25
              by_cases c39 : t1093 = 1
              · rw [if_pos c39] at H
                have c39b0 : (t1093 == 1) = true := beq_iff_eq.mpr c39
                have c39b1 : (t1093 != 1) = false := bne_eq_false_iff_eq.mpr c39
                clear c39
                obtain rfl := Option.some.inj H
                go_wp2
                repeat (go_quiet (fail); try go_wp2)
                go_ret
                exact ⟨by first | rfl | (simp [errW_none, errW_some] <;> rfl) | (simp [*, errW_none, errW_some] <;> rfl), by repeat (first | (with_reducible first | exact HB.out | apply below_alloc | apply pw_below_drewN | apply below_drew1 | refine below_set ?_ GE1088.out) | exact HB.out)⟩
              · rw [if_neg c39] at H
                have c39b0 : (t1093 == 1) = false := beq_eq_false_iff_ne.mpr c39
                have c39b1 : (t1093 != 1) = true := bne_iff_ne.mpr c39
                by_cases c40 : 1 < (t1090.length : Int)
                · rw [if_pos c40] at H
                  have c40b0 : decide (1 < (t1090.length : Int)) = true := decide_eq_true c40
                  have c40b1 : decide (1 < t1090.length) = true := decide_eq_true (by omega)
                  clear c40
                  obtain rfl := Option.some.inj H
                  obtain ⟨Ao41, co41, eo41⟩ := Kd.R_slice HO_3.out
                  subst eo41
                  have p1098 : 0 ≤ (1 : Int) := (by omega)
                  have q1098 : 1 < (t1090.length : Int) := of_decide_eq_true (by first | (with_reducible assumption) | assumption)
                  obtain ⟨ad1098, e1098, hx1098_0⟩ := Kd.at_int (Kd.R_reads' HO_3.out).2.2 1 p1098 q1098
                  cases e1098
                  (try simp only [show (1 : Int).toNat = 1 from rfl, Nat.reduceMul, Nat.reduceEqDiff, Go.Addr.add, ↓reduceIte] at hx1098_0)
                  have qi1098 : (1 < t1090.length) = True := eq_true (by omega)
                  (try rw [show ((1 : Int)).toNat = 1 from rfl] at hx1098_0)
                  replace p1098 := eq_true p1098
                  replace q1098 := eq_true q1098
                  have hcz42_0 : wc.cell? ⟨gb1088, 0, none⟩ = some (.int .u8 a0_0) := (blk_cell BK1088.out 0).trans rfl
                  have hcz42_1 : wc.cell? ⟨gb1088, 1, none⟩ = some (.int .i64 a0_1) := (blk_cell BK1088.out 1).trans rfl
                  have hcz42_2 : wc.cell? ⟨gb1088, 2, none⟩ = some (.int .i64 a0_2) := (blk_cell BK1088.out 2).trans rfl
                  have hcz42_3 : wc.cell? ⟨gb1088, 3, none⟩ = some (.int .i64 a0_3) := (blk_cell BK1088.out 3).trans rfl
                  have hfz42_0 := blk_frozen BK1088.out 0
                  have hfz42_1 := blk_frozen BK1088.out 1
                  have hfz42_2 := blk_frozen BK1088.out 2
                  have hfz42_3 := blk_frozen BK1088.out 3
                  go_wp2
                  repeat (go_quiet (fail); try go_wp2)
                  go_ret
                  exact ⟨by first | rfl | (simp [errW_none, errW_some] <;> rfl) | (simp [*, errW_none, errW_some] <;> rfl), by repeat (first | (with_reducible first | exact HB.out | apply below_alloc | apply pw_below_drewN | apply below_drew1 | refine below_set ?_ GE1088.out) | exact HB.out)⟩
                · rw [if_neg c40] at H
                  exact absurd H (by simp)
  · replace c3 := Bool.eq_false_iff.mpr c3
    subst c3
    have H1 : (some false) = some r := by rw [if_neg (show ¬ (false = true) by decide)] at H; exact H
    clear H
    have H := H1
    clear H1
    obtain rfl := Option.some.inj H
    go_enter Try.func26, Try.ntmps26
    go_wp2_with (first | ((with_reducible refine gate_dst (N := 1) rfl ?_); refine box_event ?hg (N := 1) ?hd (cs := #[.int .u8 a0_0, .int .i64 a0_1, .int .i64 a0_2, .int .i64 a0_3]) (t := 78) ?hr ?_; (case hd => rfl); (case hg => rfl); (case hr => first | (go_simp; done) | (go_simp; rfl)); intro gb1088 hg w43 hbox hb; have n0_ := Aside0.mk (below_step (by repeat (first | (with_reducible first | exact HB.out | apply below_alloc | apply pw_below_drewN | apply below_drew1) | exact HB.out)) hb); have n1_ := Aside0.mk (hbox); have n2_ := Aside0.mk ((by rw [hg]; exact (below_size (by repeat (first | (with_reducible first | exact HB.out | apply below_alloc | apply pw_below_drewN | apply below_drew1) | exact HB.out))) : w.heap.size ≤ gb1088)); have n3_ := Aside0.mk ((by rw [hg]; exact (below_size (by repeat (first | (with_reducible first | exact HB.out | apply below_alloc | apply pw_below_drewN | apply below_drew1) | exact HB.out))) : w.heap.size ≤ gb1088)); clear HB; have HB := n0_; have BK1088 := n1_; have GW1088 := n2_; have GE1088 := n3_; clear n0_ n1_ n2_ n3_; clear hb hbox hg) | (go_at_call 70; (with_reducible refine (boscagelaw18_Awake.calls k  false _ A2.out).mono ?_); rintro e w44 ⟨rfl, hb⟩; have n0_ := Aside0.mk (blk_below (g := gb1088) (o := .cells #[.int .u8 a0_0, .int .i64 a0_1, .int .i64 a0_2, .int .i64 a0_3] 78 (0, 0)) (by (with_reducible repeat (first | refine blk_drewN ?_ _ | refine blk_drew ?_ | refine blk_alloc ?_ _)); exact BK1088.out) hb); have n1_ := Aside0.mk (below_step (by repeat (first | (with_reducible first | exact HB.out | apply below_alloc | apply pw_below_drewN | apply below_drew1 | refine below_set ?_ GE1088.out) | exact HB.out)) hb); clear BK1088; clear HB; have BK1088 := n0_; have HB := n1_; clear n0_ n1_; (try clear hb); (try clear hb2); (try clear hk); (try clear hi)))
    repeat (go_quiet (first | ((with_reducible refine gate_dst (N := 1) rfl ?_); refine box_event ?hg (N := 1) ?hd (cs := #[.int .u8 a0_0, .int .i64 a0_1, .int .i64 a0_2, .int .i64 a0_3]) (t := 78) ?hr ?_; (case hd => rfl); (case hg => rfl); (case hr => first | (go_simp; done) | (go_simp; rfl)); intro gb1088 hg w43 hbox hb; have n0_ := Aside0.mk (below_step (by repeat (first | (with_reducible first | exact HB.out | apply below_alloc | apply pw_below_drewN | apply below_drew1) | exact HB.out)) hb); have n1_ := Aside0.mk (hbox); have n2_ := Aside0.mk ((by rw [hg]; exact (below_size (by repeat (first | (with_reducible first | exact HB.out | apply below_alloc | apply pw_below_drewN | apply below_drew1) | exact HB.out))) : w.heap.size ≤ gb1088)); have n3_ := Aside0.mk ((by rw [hg]; exact (below_size (by repeat (first | (with_reducible first | exact HB.out | apply below_alloc | apply pw_below_drewN | apply below_drew1) | exact HB.out))) : w.heap.size ≤ gb1088)); clear HB; have HB := n0_; have BK1088 := n1_; have GW1088 := n2_; have GE1088 := n3_; clear n0_ n1_ n2_ n3_; clear hb hbox hg) | (go_at_call 70; (with_reducible refine (boscagelaw18_Awake.calls k  false _ A2.out).mono ?_); rintro e w44 ⟨rfl, hb⟩; have n0_ := Aside0.mk (blk_below (g := gb1088) (o := .cells #[.int .u8 a0_0, .int .i64 a0_1, .int .i64 a0_2, .int .i64 a0_3] 78 (0, 0)) (by (with_reducible repeat (first | refine blk_drewN ?_ _ | refine blk_drew ?_ | refine blk_alloc ?_ _)); exact BK1088.out) hb); have n1_ := Aside0.mk (below_step (by repeat (first | (with_reducible first | exact HB.out | apply below_alloc | apply pw_below_drewN | apply below_drew1 | refine below_set ?_ GE1088.out) | exact HB.out)) hb); clear BK1088; clear HB; have BK1088 := n0_; have HB := n1_; clear n0_ n1_; (try clear hb); (try clear hb2); (try clear hk); (try clear hi))); try go_wp2_with (first | ((with_reducible refine gate_dst (N := 1) rfl ?_); refine box_event ?hg (N := 1) ?hd (cs := #[.int .u8 a0_0, .int .i64 a0_1, .int .i64 a0_2, .int .i64 a0_3]) (t := 78) ?hr ?_; (case hd => rfl); (case hg => rfl); (case hr => first | (go_simp; done) | (go_simp; rfl)); intro gb1088 hg w43 hbox hb; have n0_ := Aside0.mk (below_step (by repeat (first | (with_reducible first | exact HB.out | apply below_alloc | apply pw_below_drewN | apply below_drew1) | exact HB.out)) hb); have n1_ := Aside0.mk (hbox); have n2_ := Aside0.mk ((by rw [hg]; exact (below_size (by repeat (first | (with_reducible first | exact HB.out | apply below_alloc | apply pw_below_drewN | apply below_drew1) | exact HB.out))) : w.heap.size ≤ gb1088)); have n3_ := Aside0.mk ((by rw [hg]; exact (below_size (by repeat (first | (with_reducible first | exact HB.out | apply below_alloc | apply pw_below_drewN | apply below_drew1) | exact HB.out))) : w.heap.size ≤ gb1088)); clear HB; have HB := n0_; have BK1088 := n1_; have GW1088 := n2_; have GE1088 := n3_; clear n0_ n1_ n2_ n3_; clear hb hbox hg) | (go_at_call 70; (with_reducible refine (boscagelaw18_Awake.calls k  false _ A2.out).mono ?_); rintro e w44 ⟨rfl, hb⟩; have n0_ := Aside0.mk (blk_below (g := gb1088) (o := .cells #[.int .u8 a0_0, .int .i64 a0_1, .int .i64 a0_2, .int .i64 a0_3] 78 (0, 0)) (by (with_reducible repeat (first | refine blk_drewN ?_ _ | refine blk_drew ?_ | refine blk_alloc ?_ _)); exact BK1088.out) hb); have n1_ := Aside0.mk (below_step (by repeat (first | (with_reducible first | exact HB.out | apply below_alloc | apply pw_below_drewN | apply below_drew1 | refine below_set ?_ GE1088.out) | exact HB.out)) hb); clear BK1088; clear HB; have BK1088 := n0_; have HB := n1_; clear n0_ n1_; (try clear hb); (try clear hb2); (try clear hk); (try clear hi))))
    go_ret
    exact ⟨by first | rfl | (simp [errW_none, errW_some] <;> rfl) | (simp [*, errW_none, errW_some] <;> rfl), by repeat (first | (with_reducible first | exact HB.out | apply below_alloc | apply pw_below_drewN | apply below_drew1 | refine below_set ?_ GE1088.out) | exact HB.out)⟩

end Go.Proofs.Ytkoiffkonjpoiaa.Q
