/- Go functions of the program as plain Lean functions, and for each the contract that the call comes to its answers; written by a turned print of this session. -/
import Derived.Test.YtkoiffkonjpoiaaQ0
namespace Go.Proofs.Ytkoiffkonjpoiaa.Q
open Go.RowKit Go.Proofs.YtkoiffkonjpoiaaW.PrintWords Go.Proofs.YtkoiffkonjpoiaaW.PrintLast Go.Proofs.YtkoiffkonjpoiaaW.PrintMore Go.Proofs.YtkoiffkonjpoiaaX
attribute [local go_sem] max2_int min2_int max_two min_two max_three min_three max_four min_four   -- for this text's walks alone
set_option linter.unusedVariables false
set_option linter.unusedSimpArgs false

/-! ### model_Op_Numbers: function 79 -/
mutual
def model_Op_Numbers.j0 : Nat → Int → Bool → Int → Int → Int → Int → Option (List Int)
  | 0, _, _, _, _, _, _ => none
  | k + 1, x4, x5, x1121000, x1121001, x1121002, x1121003 => if x5 = true then (some (([x1121001, x1121003] : List Int))) else (if x4 = 10 then (model_Op_Numbers.j1 k x4 (x4 == 10) x1121000 x1121001 x1121002 x1121003) else (model_Op_Numbers.j1 k x4 (x4 == 11) x1121000 x1121001 x1121002 x1121003))
def model_Op_Numbers.j1 : Nat → Int → Bool → Int → Int → Int → Int → Option (List Int)
  | 0, _, _, _, _, _, _ => none
  | k + 1, x4, x13, x1121000, x1121001, x1121002, x1121003 => if x13 = true then (some (([x1121001, x1121002] : List Int))) else (if x4 = 0 then (some (([x1121001] : List Int))) else (if x4 = 3 then (some (([x1121001] : List Int))) else (if x4 = 4 then (some (([x1121001] : List Int))) else (if x4 = 5 then (some (([x1121001] : List Int))) else (if x4 = 8 then (some (([x1121001] : List Int))) else (if x4 = 9 then (some (([x1121001] : List Int))) else (some ([] : List Int))))))))
end
def model_Op_Numbers.f (k : Nat) (a0_0 : Int) (a0_1 : Int) (a0_2 : Int) (a0_3 : Int) : Option (List Int) := if a0_0 = 1 then (model_Op_Numbers.j0 k a0_0 (a0_0 == 1) a0_0 a0_1 a0_2 a0_3) else (model_Op_Numbers.j0 k a0_0 (a0_0 == 2) a0_0 a0_1 a0_2 a0_3)
theorem model_Op_Numbers.mono_l : ∀ k, (∀ y0 y1 y2 y3 y4 y5, LeO (model_Op_Numbers.j0 k y0 y1 y2 y3 y4 y5) (model_Op_Numbers.j0 (k + 1) y0 y1 y2 y3 y4 y5)) ∧ (∀ y0 y1 y2 y3 y4 y5, LeO (model_Op_Numbers.j1 k y0 y1 y2 y3 y4 y5) (model_Op_Numbers.j1 (k + 1) y0 y1 y2 y3 y4 y5))
  | 0 => ⟨fun _ _ _ _ _ _ r h => by simp [model_Op_Numbers.j0] at h, fun _ _ _ _ _ _ r h => by simp [model_Op_Numbers.j1] at h⟩
  | k + 1 => by
    obtain ⟨ih0, ih1⟩ := model_Op_Numbers.mono_l k
    refine ⟨?_, ?_⟩
    · intro y0 y1 y2 y3 y4 y5
      unfold model_Op_Numbers.j0
      repeat' first
      | (with_reducible exact ih0 _ _ _ _ _ _)
      | (with_reducible exact ih1 _ _ _ _ _ _)
      | (with_reducible exact LeO.refl _)
      | (with_reducible exact LeO.none _)
      | (with_reducible refine LeO.ite ?_ ?_)
      | (with_reducible refine LeO.bind ?_ (fun _ => ?_))
      | exact ih0 _ _ _ _ _ _
      | exact ih1 _ _ _ _ _ _
      | exact LeO.none _
      | refine LeO.ite ?_ ?_
      | refine LeO.bind ?_ (fun _ => ?_)
    · intro y0 y1 y2 y3 y4 y5
      unfold model_Op_Numbers.j1
      repeat' first
      | (with_reducible exact ih0 _ _ _ _ _ _)
      | (with_reducible exact ih1 _ _ _ _ _ _)
      | (with_reducible exact LeO.refl _)
      | (with_reducible exact LeO.none _)
      | (with_reducible refine LeO.ite ?_ ?_)
      | (with_reducible refine LeO.bind ?_ (fun _ => ?_))
      | exact ih0 _ _ _ _ _ _
      | exact ih1 _ _ _ _ _ _
      | exact LeO.none _
      | refine LeO.ite ?_ ?_
      | refine LeO.bind ?_ (fun _ => ?_)
theorem model_Op_Numbers.mono : ∀ a0 a1 a2 a3 k, LeO (model_Op_Numbers.f k a0 a1 a2 a3) (model_Op_Numbers.f (k + 1) a0 a1 a2 a3) := by
  intro a0 a1 a2 a3 k
  obtain ⟨ih0, ih1⟩ := model_Op_Numbers.mono_l k
  unfold model_Op_Numbers.f
  repeat' first
      | (with_reducible exact ih0 _ _ _ _ _ _)
      | (with_reducible exact ih1 _ _ _ _ _ _)
      | (with_reducible exact LeO.refl _)
      | (with_reducible exact LeO.none _)
      | (with_reducible refine LeO.ite ?_ ?_)
      | (with_reducible refine LeO.bind ?_ (fun _ => ?_))
      | exact ih0 _ _ _ _ _ _
      | exact ih1 _ _ _ _ _ _
      | exact LeO.none _
      | refine LeO.ite ?_ ?_
      | refine LeO.bind ?_ (fun _ => ?_)
set_option maxHeartbeats 8000000 in
set_option maxRecDepth 100000 in
theorem model_Op_Numbers.calls (k : Nat) (a0_0 : Int) (a0_1 : Int) (a0_2 : Int) (a0_3 : Int) (r : List Int) (w : World) (h : model_Op_Numbers.f k a0_0 a0_1 a0_2 a0_3 = some r) :
    Calls Try.prog 79 #[.agg #[.int .u8 a0_0, .int .i64 a0_1, .int .i64 a0_2, .int .i64 a0_3]] w fun e w' => ∃ v0_ : Value, e = .returned (v0_) ∧ Kd.R (Kd.int .i64) 2 w' w.heap.size (fun _ => True) v0_ r ∧ Below w.heap.size w w' := by
  have hu78 := Try.underlying78
  have HB := Aside0.mk (Below.refl w.heap.size w)
  have H : (if a0_0 = 1 then (model_Op_Numbers.j0 k a0_0 (a0_0 == 1) a0_0 a0_1 a0_2 a0_3) else (model_Op_Numbers.j0 k a0_0 (a0_0 == 2) a0_0 a0_1 a0_2 a0_3)) = some r := h
  clear h
  have HC2 := Aside0.mk H
  clear H
  go_enter Try.func79, Try.ntmps79
  go_upto_if 5 with (first | ((with_reducible refine gate_dst (N := 1) rfl ?_); refine box_event ?hg (N := 1) ?hd (cs := #[.int .u8 a0_0, .int .i64 a0_1, .int .i64 a0_2, .int .i64 a0_3]) (t := 78) ?hr ?_; (case hd => rfl); (case hg => rfl); (case hr => first | (go_simp; done) | (go_simp; rfl)); intro gb1120 hg w3 hbox hb; have n0_ := Aside0.mk (below_step (by repeat (first | (with_reducible first | exact HB.out | apply below_alloc | apply pw_below_drewN | apply below_drew1) | exact HB.out)) hb); have n1_ := Aside0.mk (hbox); have n2_ := Aside0.mk ((by rw [hg]; exact (below_size (by repeat (first | (with_reducible first | exact HB.out | apply below_alloc | apply pw_below_drewN | apply below_drew1) | exact HB.out))) : w.heap.size ≤ gb1120)); have n3_ := Aside0.mk ((by rw [hg]; exact (below_size (by repeat (first | (with_reducible first | exact HB.out | apply below_alloc | apply pw_below_drewN | apply below_drew1) | exact HB.out))) : w.heap.size ≤ gb1120)); clear HB; have HB := n0_; have BK1120 := n1_; have GW1120 := n2_; have GE1120 := n3_; clear n0_ n1_ n2_ n3_; clear hb hbox hg; have hcz4_0 : w3.cell? ⟨gb1120, 0, none⟩ = some (.int .u8 a0_0) := (blk_cell BK1120.out 0).trans rfl; have hcz4_1 : w3.cell? ⟨gb1120, 1, none⟩ = some (.int .i64 a0_1) := (blk_cell BK1120.out 1).trans rfl; have hcz4_2 : w3.cell? ⟨gb1120, 2, none⟩ = some (.int .i64 a0_2) := (blk_cell BK1120.out 2).trans rfl; have hcz4_3 : w3.cell? ⟨gb1120, 3, none⟩ = some (.int .i64 a0_3) := (blk_cell BK1120.out 3).trans rfl; have hfz4_0 := blk_frozen BK1120.out 0; have hfz4_1 := blk_frozen BK1120.out 1; have hfz4_2 := blk_frozen BK1120.out 2; have hfz4_3 := blk_frozen BK1120.out 3))
  (try simp only [Act.put, List.setIfInBounds_toArray, List.set_cons_zero, List.set_cons_succ])
  go_cut [5] (fun v5 wc => ∃ (kq : Nat) (x5_1 : Bool), v5 = .bool x5_1 ∧ Aside0 (model_Op_Numbers.j0 kq a0_0 x5_1 a0_0 a0_1 a0_2 a0_3 = some r) ∧ Aside0 (kq ≤ k) ∧ Aside0 (wc.heap[gb1120]? = some (.cells #[.int .u8 a0_0, .int .i64 a0_1, .int .i64 a0_2, .int .i64 a0_3] 78 (0, 0))) ∧ Aside0 (Below w.heap.size w wc))
  case first =>
    have H := HC2.out
    clear HC2
    by_cases c5 : a0_0 = 1
    · rw [if_pos c5] at H
      have c5b0 : (a0_0 == 1) = true := beq_iff_eq.mpr c5
      have c5b1 : (a0_0 != 1) = false := bne_eq_false_iff_eq.mpr c5
      clear c5
      (first | rw [c5b0] | (simp only [i64_w, i32_w]; rw [c5b0]) | skip)
      have H' := Aside0.mk H
      clear H
      go_wp2
      go_meet
      case rel => exact ⟨_, ((a0_0 == 1)), (by first | rfl | (simp; done) | (simp [*]; done)), H', ⟨by first | omega | exact Nat.le_refl _⟩, ⟨by (with_reducible repeat (first | refine blk_drewN ?_ _ | refine blk_drew ?_ | refine blk_alloc ?_ _)); exact BK1120.out⟩, ⟨by repeat (first | (with_reducible first | exact HB.out | apply below_alloc | apply pw_below_drewN | apply below_drew1 | refine below_set ?_ GE1120.out) | exact HB.out)⟩⟩
    · rw [if_neg c5] at H
      have c5b0 : (a0_0 == 1) = false := beq_eq_false_iff_ne.mpr c5
      have c5b1 : (a0_0 != 1) = true := bne_iff_ne.mpr c5
      (first | rw [c5b0] | (simp only [i64_w, i32_w]; rw [c5b0]) | skip)
      have H' := Aside0.mk H
      clear H
      go_wp2
      go_meet
      case rel => exact ⟨_, ((a0_0 == 2)), (by first | rfl | (simp; done) | (simp [*]; done)), H', ⟨by first | omega | exact Nat.le_refl _⟩, ⟨by (with_reducible repeat (first | refine blk_drewN ?_ _ | refine blk_drew ?_ | refine blk_alloc ?_ _)); exact BK1120.out⟩, ⟨by repeat (first | (with_reducible first | exact HB.out | apply below_alloc | apply pw_below_drewN | apply below_drew1 | refine below_set ?_ GE1120.out) | exact HB.out)⟩⟩
  case rest =>
    clear HC2
    try clear p2
    try clear c5
    try clear c5b0
    try clear c5b1
    try clear hcz4_0
    try clear hcz4_1
    try clear hcz4_2
    try clear hcz4_3
    try clear hfz4_0
    try clear hfz4_1
    try clear hfz4_2
    try clear hfz4_3
    obtain ⟨kq, x5_1, rfl, HA, HJ1, BK1120, HB⟩ := hcut
    cases kq with
    | zero => exact absurd HA.out (by simp [model_Op_Numbers.j0])
    | succ kj1 =>
      have H := HA.out
      clear HA
      simp only [model_Op_Numbers.j0] at H
      by_cases c6 : x5_1 = true
      · subst c6
        have H1 : (some (([a0_1, a0_3] : List Int))) = some r := by rw [if_pos rfl] at H; exact H
        clear H
        have H := H1
        clear H1
        obtain ⟨y1121, hy1121⟩ : ∃ y_ : List Int, y_ = (([a0_1, a0_3] : List Int)) := ⟨_, rfl⟩
        replace H : (some y1121) = some r := by first | (rw [hy1121]; with_reducible exact H) | (have H2_ := (Option.bind_some _ _).symm.trans H; rw [hy1121]; with_reducible exact H2_) | (have H2_ := (Option.bind_some _ _).symm.trans H; with_reducible exact H2_) | with_reducible exact H | (rw [hy1121]; exact H) | exact H
        have Ny1121 := Aside0.mk hy1121
        clear hy1121
        obtain rfl := Option.some.inj H
        have hcz7_0 : wc.cell? ⟨gb1120, 0, none⟩ = some (.int .u8 a0_0) := (blk_cell BK1120.out 0).trans rfl
        have hcz7_1 : wc.cell? ⟨gb1120, 1, none⟩ = some (.int .i64 a0_1) := (blk_cell BK1120.out 1).trans rfl
        have hcz7_2 : wc.cell? ⟨gb1120, 2, none⟩ = some (.int .i64 a0_2) := (blk_cell BK1120.out 2).trans rfl
        have hcz7_3 : wc.cell? ⟨gb1120, 3, none⟩ = some (.int .i64 a0_3) := (blk_cell BK1120.out 3).trans rfl
        have hfz7_0 := blk_frozen BK1120.out 0
        have hfz7_1 := blk_frozen BK1120.out 1
        have hfz7_2 := blk_frozen BK1120.out 2
        have hfz7_3 := blk_frozen BK1120.out 3
        go_wp2_with (first | ((with_reducible refine gate_dst (N := 12) rfl ?_); refine Kd.R_lit (Kd.int .i64) _ 2 ?hg (N := 12) ?hd (xs := ([a0_1, a0_3] : List Int)) (inner := [.int .i64 a0_1, .int .i64 a0_3]) (ok := fun _ => True) (okp := fun _ => True) ?hr ?hp (fun _ hk => hk) trivial (Below.refl _ _) (Nat.le_refl _) (by simp) ?_; (case hd => rfl); (case hg => rfl); (case hr => first | (go_simp; done) | (go_simp; rfl)); (case hp => exact (Reps.one (show Kd.M (Kd.int .i64) _ _ _ a0_1 [.int .i64 a0_1] from rfl) (Reps.one (show Kd.M (Kd.int .i64) _ _ _ a0_3 [.int .i64 a0_3] from rfl) (Reps.none _ _)))); intro v1122 w8 ho9 hb hg_ hnew_; clear hg_ hnew_; (first | rw [← Ny1121.out] at ho9 | (simp only [Int.reduceToNat] at ho9; rw [← Ny1121.out] at ho9)); have n0_ := Aside0.mk (Kd.R_lower ho9 (below_size (by repeat (first | (with_reducible first | exact HB.out | apply below_alloc | apply pw_below_drewN | apply below_drew1 | refine below_set ?_ GE1120.out) | exact HB.out)))); have n1_ := Aside0.mk (blk_below (g := gb1120) (o := .cells #[.int .u8 a0_0, .int .i64 a0_1, .int .i64 a0_2, .int .i64 a0_3] 78 (0, 0)) (by (with_reducible repeat (first | refine blk_drewN ?_ _ | refine blk_drew ?_ | refine blk_alloc ?_ _)); exact BK1120.out) hb); have n2_ := Aside0.mk (below_step (by repeat (first | (with_reducible first | exact HB.out | apply below_alloc | apply pw_below_drewN | apply below_drew1 | refine below_set ?_ GE1120.out) | exact HB.out)) hb); clear BK1120; clear HB; have HO1123 := n0_; have BK1120 := n1_; have HB := n2_; clear n0_ n1_ n2_; clear hb ho9))
        go_ret
        exact ⟨_, by first | rfl | (simp [errW_none, errW_some] <;> rfl) | (simp [*, errW_none, errW_some] <;> rfl), by (with_reducible repeat (first | apply Kd.R_alloc | apply Kd.R_drewN | apply Kd.R_drew)); exact HO1123.out, by repeat (first | (with_reducible first | exact HB.out | apply below_alloc | apply pw_below_drewN | apply below_drew1 | refine below_set ?_ GE1120.out) | exact HB.out)⟩
      · replace c6 := Bool.eq_false_iff.mpr c6
        subst c6
        have H1 : (if a0_0 = 10 then (model_Op_Numbers.j1 kj1 a0_0 (a0_0 == 10) a0_0 a0_1 a0_2 a0_3) else (model_Op_Numbers.j1 kj1 a0_0 (a0_0 == 11) a0_0 a0_1 a0_2 a0_3)) = some r := by rw [if_neg (show ¬ (false = true) by decide)] at H; exact H
        clear H
        have H := H1
        clear H1
        have HC10 := Aside0.mk H
        clear H
        go_upto_if 13 with (fail)
        go_cut [13] (fun v13 wc => ∃ (kq : Nat) (x13_9 : Bool), v13 = .bool x13_9 ∧ Aside0 (model_Op_Numbers.j1 kq a0_0 x13_9 a0_0 a0_1 a0_2 a0_3 = some r) ∧ Aside0 (kq ≤ kj1) ∧ Aside0 (wc.heap[gb1120]? = some (.cells #[.int .u8 a0_0, .int .i64 a0_1, .int .i64 a0_2, .int .i64 a0_3] 78 (0, 0))) ∧ Aside0 (Below w.heap.size w wc))
        case first =>
          have H := HC10.out
          clear HC10
          by_cases c11 : a0_0 = 10
          · rw [if_pos c11] at H
            have c11b0 : (a0_0 == 10) = true := beq_iff_eq.mpr c11
            have c11b1 : (a0_0 != 10) = false := bne_eq_false_iff_eq.mpr c11
            clear c11
            (first | rw [c11b0] | (simp only [i64_w, i32_w]; rw [c11b0]) | skip)
            have H' := Aside0.mk H
            clear H
            go_wp2
            go_meet
            case rel => exact ⟨_, ((a0_0 == 10)), (by first | rfl | (simp; done) | (simp [*]; done)), H', ⟨by have := HJ1.out; first | omega | exact Nat.le_refl _⟩, ⟨by (with_reducible repeat (first | refine blk_drewN ?_ _ | refine blk_drew ?_ | refine blk_alloc ?_ _)); exact BK1120.out⟩, ⟨by repeat (first | (with_reducible first | exact HB.out | apply below_alloc | apply pw_below_drewN | apply below_drew1 | refine below_set ?_ GE1120.out) | exact HB.out)⟩⟩
          · rw [if_neg c11] at H
            have c11b0 : (a0_0 == 10) = false := beq_eq_false_iff_ne.mpr c11
            have c11b1 : (a0_0 != 10) = true := bne_iff_ne.mpr c11
            (first | rw [c11b0] | (simp only [i64_w, i32_w]; rw [c11b0]) | skip)
            have H' := Aside0.mk H
            clear H
            go_wp2
            go_meet
            case rel => exact ⟨_, ((a0_0 == 11)), (by first | rfl | (simp; done) | (simp [*]; done)), H', ⟨by have := HJ1.out; first | omega | exact Nat.le_refl _⟩, ⟨by (with_reducible repeat (first | refine blk_drewN ?_ _ | refine blk_drew ?_ | refine blk_alloc ?_ _)); exact BK1120.out⟩, ⟨by repeat (first | (with_reducible first | exact HB.out | apply below_alloc | apply pw_below_drewN | apply below_drew1 | refine below_set ?_ GE1120.out) | exact HB.out)⟩⟩
        case rest =>
          clear HC10
          try clear c1
          try clear p2
          try clear c5
          try clear c5b0
          try clear c5b1
          try clear c6
          try clear c7
          try clear c11
          try clear c11b0
          try clear c11b1
          try clear hcz4_0
          try clear hcz4_1
          try clear hcz4_2
          try clear hcz4_3
          try clear hcz7_0
          try clear hcz7_1
          try clear hcz7_2
          try clear hcz7_3
          try clear hfz4_0
          try clear hfz4_1
          try clear hfz4_2
          try clear hfz4_3
          try clear hfz7_0
          try clear hfz7_1
          try clear hfz7_2
          try clear hfz7_3
          try clear p2
          obtain ⟨kq, x13_9, rfl, HA, HJ9, BK1120, HB⟩ := hcut
          cases kq with
          | zero => exact absurd HA.out (by simp [model_Op_Numbers.j1])
          | succ kj9 =>
            have H := HA.out
            clear HA
            simp only [model_Op_Numbers.j1] at H
            by_cases c12 : x13_9 = true
            · subst c12
              have H1 : (some (([a0_1, a0_2] : List Int))) = some r := by rw [if_pos rfl] at H; exact H
              clear H
              have H := H1
              clear H1
              obtain ⟨y1124, hy1124⟩ : ∃ y_ : List Int, y_ = (([a0_1, a0_2] : List Int)) := ⟨_, rfl⟩
              replace H : (some y1124) = some r := by first | (rw [hy1124]; with_reducible exact H) | (have H2_ := (Option.bind_some _ _).symm.trans H; rw [hy1124]; with_reducible exact H2_) | (have H2_ := (Option.bind_some _ _).symm.trans H; with_reducible exact H2_) | with_reducible exact H | (rw [hy1124]; exact H) | exact H
              have Ny1124 := Aside0.mk hy1124
              clear hy1124
              obtain rfl := Option.some.inj H
              have hcz13_0 : wc.cell? ⟨gb1120, 0, none⟩ = some (.int .u8 a0_0) := (blk_cell BK1120.out 0).trans rfl
              have hcz13_1 : wc.cell? ⟨gb1120, 1, none⟩ = some (.int .i64 a0_1) := (blk_cell BK1120.out 1).trans rfl
              have hcz13_2 : wc.cell? ⟨gb1120, 2, none⟩ = some (.int .i64 a0_2) := (blk_cell BK1120.out 2).trans rfl
              have hcz13_3 : wc.cell? ⟨gb1120, 3, none⟩ = some (.int .i64 a0_3) := (blk_cell BK1120.out 3).trans rfl
              have hfz13_0 := blk_frozen BK1120.out 0
              have hfz13_1 := blk_frozen BK1120.out 1
              have hfz13_2 := blk_frozen BK1120.out 2
              have hfz13_3 := blk_frozen BK1120.out 3
              go_wp2_with (first | ((with_reducible refine gate_dst (N := 20) rfl ?_); refine Kd.R_lit (Kd.int .i64) _ 2 ?hg (N := 20) ?hd (xs := ([a0_1, a0_2] : List Int)) (inner := [.int .i64 a0_1, .int .i64 a0_2]) (ok := fun _ => True) (okp := fun _ => True) ?hr ?hp (fun _ hk => hk) trivial (Below.refl _ _) (Nat.le_refl _) (by simp) ?_; (case hd => rfl); (case hg => rfl); (case hr => first | (go_simp; done) | (go_simp; rfl)); (case hp => exact (Reps.one (show Kd.M (Kd.int .i64) _ _ _ a0_1 [.int .i64 a0_1] from rfl) (Reps.one (show Kd.M (Kd.int .i64) _ _ _ a0_2 [.int .i64 a0_2] from rfl) (Reps.none _ _)))); intro v1125 w14 ho15 hb hg_ hnew_; clear hg_ hnew_; (first | rw [← Ny1124.out] at ho15 | (simp only [Int.reduceToNat] at ho15; rw [← Ny1124.out] at ho15)); have n0_ := Aside0.mk (Kd.R_lower ho15 (below_size (by repeat (first | (with_reducible first | exact HB.out | apply below_alloc | apply pw_below_drewN | apply below_drew1 | refine below_set ?_ GE1120.out) | exact HB.out)))); have n1_ := Aside0.mk (blk_below (g := gb1120) (o := .cells #[.int .u8 a0_0, .int .i64 a0_1, .int .i64 a0_2, .int .i64 a0_3] 78 (0, 0)) (by (with_reducible repeat (first | refine blk_drewN ?_ _ | refine blk_drew ?_ | refine blk_alloc ?_ _)); exact BK1120.out) hb); have n2_ := Aside0.mk (below_step (by repeat (first | (with_reducible first | exact HB.out | apply below_alloc | apply pw_below_drewN | apply below_drew1 | refine below_set ?_ GE1120.out) | exact HB.out)) hb); clear BK1120; clear HB; have HO1126 := n0_; have BK1120 := n1_; have HB := n2_; clear n0_ n1_ n2_; clear hb ho15))
              go_ret
              exact ⟨_, by first | rfl | (simp [errW_none, errW_some] <;> rfl) | (simp [*, errW_none, errW_some] <;> rfl), by (with_reducible repeat (first | apply Kd.R_alloc | apply Kd.R_drewN | apply Kd.R_drew)); exact HO1126.out, by repeat (first | (with_reducible first | exact HB.out | apply below_alloc | apply pw_below_drewN | apply below_drew1 | refine below_set ?_ GE1120.out) | exact HB.out)⟩
            · replace c12 := Bool.eq_false_iff.mpr c12
              subst c12
              have H1 : (if a0_0 = 0 then (some (([a0_1] : List Int))) else (if a0_0 = 3 then (some (([a0_1] : List Int))) else (if a0_0 = 4 then (some (([a0_1] : List Int))) else (if a0_0 = 5 then (some (([a0_1] : List Int))) else (if a0_0 = 8 then (some (([a0_1] : List Int))) else (if a0_0 = 9 then (some (([a0_1] : List Int))) else (some ([] : List Int)))))))) = some r := by rw [if_neg (show ¬ (false = true) by decide)] at H; exact H
              clear H
              have H := H1
              clear H1
              by_cases c16 : a0_0 = 0
              · rw [if_pos c16] at H
                have c16b0 : (a0_0 == 0) = true := beq_iff_eq.mpr c16
                have c16b1 : (a0_0 != 0) = false := bne_eq_false_iff_eq.mpr c16
                clear c16
                obtain ⟨y1127, hy1127⟩ : ∃ y_ : List Int, y_ = (([a0_1] : List Int)) := ⟨_, rfl⟩
                replace H : (some y1127) = some r := by first | (rw [hy1127]; with_reducible exact H) | (have H2_ := (Option.bind_some _ _).symm.trans H; rw [hy1127]; with_reducible exact H2_) | (have H2_ := (Option.bind_some _ _).symm.trans H; with_reducible exact H2_) | with_reducible exact H | (rw [hy1127]; exact H) | exact H
                have Ny1127 := Aside0.mk hy1127
                clear hy1127
                obtain rfl := Option.some.inj H
                have hcz17_0 : wc.cell? ⟨gb1120, 0, none⟩ = some (.int .u8 a0_0) := (blk_cell BK1120.out 0).trans rfl
                have hcz17_1 : wc.cell? ⟨gb1120, 1, none⟩ = some (.int .i64 a0_1) := (blk_cell BK1120.out 1).trans rfl
                have hcz17_2 : wc.cell? ⟨gb1120, 2, none⟩ = some (.int .i64 a0_2) := (blk_cell BK1120.out 2).trans rfl
                have hcz17_3 : wc.cell? ⟨gb1120, 3, none⟩ = some (.int .i64 a0_3) := (blk_cell BK1120.out 3).trans rfl
                have hfz17_0 := blk_frozen BK1120.out 0
                have hfz17_1 := blk_frozen BK1120.out 1
                have hfz17_2 := blk_frozen BK1120.out 2
                have hfz17_3 := blk_frozen BK1120.out 3
                go_wp2_with (first | ((with_reducible refine gate_dst (N := 30) rfl ?_); refine Kd.R_lit (Kd.int .i64) _ 2 ?hg (N := 30) ?hd (xs := ([a0_1] : List Int)) (inner := [.int .i64 a0_1]) (ok := fun _ => True) (okp := fun _ => True) ?hr ?hp (fun _ hk => hk) trivial (Below.refl _ _) (Nat.le_refl _) (by simp) ?_; (case hd => rfl); (case hg => rfl); (case hr => first | (go_simp; done) | (go_simp; rfl)); (case hp => exact (Reps.one (show Kd.M (Kd.int .i64) _ _ _ a0_1 [.int .i64 a0_1] from rfl) (Reps.none _ _))); intro v1128 w18 ho19 hb hg_ hnew_; clear hg_ hnew_; (first | rw [← Ny1127.out] at ho19 | (simp only [Int.reduceToNat] at ho19; rw [← Ny1127.out] at ho19)); have n0_ := Aside0.mk (Kd.R_lower ho19 (below_size (by repeat (first | (with_reducible first | exact HB.out | apply below_alloc | apply pw_below_drewN | apply below_drew1 | refine below_set ?_ GE1120.out) | exact HB.out)))); have n1_ := Aside0.mk (blk_below (g := gb1120) (o := .cells #[.int .u8 a0_0, .int .i64 a0_1, .int .i64 a0_2, .int .i64 a0_3] 78 (0, 0)) (by (with_reducible repeat (first | refine blk_drewN ?_ _ | refine blk_drew ?_ | refine blk_alloc ?_ _)); exact BK1120.out) hb); have n2_ := Aside0.mk (below_step (by repeat (first | (with_reducible first | exact HB.out | apply below_alloc | apply pw_below_drewN | apply below_drew1 | refine below_set ?_ GE1120.out) | exact HB.out)) hb); clear BK1120; clear HB; have HO1129 := n0_; have BK1120 := n1_; have HB := n2_; clear n0_ n1_ n2_; clear hb ho19))
                go_ret
                exact ⟨_, by first | rfl | (simp [errW_none, errW_some] <;> rfl) | (simp [*, errW_none, errW_some] <;> rfl), by (with_reducible repeat (first | apply Kd.R_alloc | apply Kd.R_drewN | apply Kd.R_drew)); exact HO1129.out, by repeat (first | (with_reducible first | exact HB.out | apply below_alloc | apply pw_below_drewN | apply below_drew1 | refine below_set ?_ GE1120.out) | exact HB.out)⟩
              · rw [if_neg c16] at H
                have c16b0 : (a0_0 == 0) = false := beq_eq_false_iff_ne.mpr c16
                have c16b1 : (a0_0 != 0) = true := bne_iff_ne.mpr c16
                by_cases c20 : a0_0 = 3
                · rw [if_pos c20] at H
                  have c20b0 : (a0_0 == 3) = true := beq_iff_eq.mpr c20
                  have c20b1 : (a0_0 != 3) = false := bne_eq_false_iff_eq.mpr c20
                  clear c20
                  obtain ⟨y1130, hy1130⟩ : ∃ y_ : List Int, y_ = (([a0_1] : List Int)) := ⟨_, rfl⟩
                  replace H : (some y1130) = some r := by first | (rw [hy1130]; with_reducible exact H) | (have H2_ := (Option.bind_some _ _).symm.trans H; rw [hy1130]; with_reducible exact H2_) | (have H2_ := (Option.bind_some _ _).symm.trans H; with_reducible exact H2_) | with_reducible exact H | (rw [hy1130]; exact H) | exact H
                  have Ny1130 := Aside0.mk hy1130
                  clear hy1130
                  obtain rfl := Option.some.inj H
                  have hcz21_0 : wc.cell? ⟨gb1120, 0, none⟩ = some (.int .u8 a0_0) := (blk_cell BK1120.out 0).trans rfl
                  have hcz21_1 : wc.cell? ⟨gb1120, 1, none⟩ = some (.int .i64 a0_1) := (blk_cell BK1120.out 1).trans rfl
                  have hcz21_2 : wc.cell? ⟨gb1120, 2, none⟩ = some (.int .i64 a0_2) := (blk_cell BK1120.out 2).trans rfl
                  have hcz21_3 : wc.cell? ⟨gb1120, 3, none⟩ = some (.int .i64 a0_3) := (blk_cell BK1120.out 3).trans rfl
                  have hfz21_0 := blk_frozen BK1120.out 0
                  have hfz21_1 := blk_frozen BK1120.out 1
                  have hfz21_2 := blk_frozen BK1120.out 2
                  have hfz21_3 := blk_frozen BK1120.out 3
                  go_wp2_with (first | ((with_reducible refine gate_dst (N := 30) rfl ?_); refine Kd.R_lit (Kd.int .i64) _ 2 ?hg (N := 30) ?hd (xs := ([a0_1] : List Int)) (inner := [.int .i64 a0_1]) (ok := fun _ => True) (okp := fun _ => True) ?hr ?hp (fun _ hk => hk) trivial (Below.refl _ _) (Nat.le_refl _) (by simp) ?_; (case hd => rfl); (case hg => rfl); (case hr => first | (go_simp; done) | (go_simp; rfl)); (case hp => exact (Reps.one (show Kd.M (Kd.int .i64) _ _ _ a0_1 [.int .i64 a0_1] from rfl) (Reps.none _ _))); intro v1131 w22 ho23 hb hg_ hnew_; clear hg_ hnew_; (first | rw [← Ny1130.out] at ho23 | (simp only [Int.reduceToNat] at ho23; rw [← Ny1130.out] at ho23)); have n0_ := Aside0.mk (Kd.R_lower ho23 (below_size (by repeat (first | (with_reducible first | exact HB.out | apply below_alloc | apply pw_below_drewN | apply below_drew1 | refine below_set ?_ GE1120.out) | exact HB.out)))); have n1_ := Aside0.mk (blk_below (g := gb1120) (o := .cells #[.int .u8 a0_0, .int .i64 a0_1, .int .i64 a0_2, .int .i64 a0_3] 78 (0, 0)) (by (with_reducible repeat (first | refine blk_drewN ?_ _ | refine blk_drew ?_ | refine blk_alloc ?_ _)); exact BK1120.out) hb); have n2_ := Aside0.mk (below_step (by repeat (first | (with_reducible first | exact HB.out | apply below_alloc | apply pw_below_drewN | apply below_drew1 | refine below_set ?_ GE1120.out) | exact HB.out)) hb); clear BK1120; clear HB; have HO1132 := n0_; have BK1120 := n1_; have HB := n2_; clear n0_ n1_ n2_; clear hb ho23))
                  go_ret
                  exact ⟨_, by first | rfl | (simp [errW_none, errW_some] <;> rfl) | (simp [*, errW_none, errW_some] <;> rfl), by (with_reducible repeat (first | apply Kd.R_alloc | apply Kd.R_drewN | apply Kd.R_drew)); exact HO1132.out, by repeat (first | (with_reducible first | exact HB.out | apply below_alloc | apply pw_below_drewN | apply below_drew1 | refine below_set ?_ GE1120.out) | exact HB.out)⟩
                · rw [if_neg c20] at H
                  have c20b0 : (a0_0 == 3) = false := beq_eq_false_iff_ne.mpr c20
                  have c20b1 : (a0_0 != 3) = true := bne_iff_ne.mpr c20
                  by_cases c24 : a0_0 = 4
                  · rw [if_pos c24] at H
                    have c24b0 : (a0_0 == 4) = true := beq_iff_eq.mpr c24
                    have c24b1 : (a0_0 != 4) = false := bne_eq_false_iff_eq.mpr c24
                    clear c24
                    obtain ⟨y1133, hy1133⟩ : ∃ y_ : List Int, y_ = (([a0_1] : List Int)) := ⟨_, rfl⟩
                    replace H : (some y1133) = some r := by first | (rw [hy1133]; with_reducible exact H) | (have H2_ := (Option.bind_some _ _).symm.trans H; rw [hy1133]; with_reducible exact H2_) | (have H2_ := (Option.bind_some _ _).symm.trans H; with_reducible exact H2_) | with_reducible exact H | (rw [hy1133]; exact H) | exact H
                    have Ny1133 := Aside0.mk hy1133
                    clear hy1133
                    obtain rfl := Option.some.inj H
                    have hcz25_0 : wc.cell? ⟨gb1120, 0, none⟩ = some (.int .u8 a0_0) := (blk_cell BK1120.out 0).trans rfl
                    have hcz25_1 : wc.cell? ⟨gb1120, 1, none⟩ = some (.int .i64 a0_1) := (blk_cell BK1120.out 1).trans rfl
                    have hcz25_2 : wc.cell? ⟨gb1120, 2, none⟩ = some (.int .i64 a0_2) := (blk_cell BK1120.out 2).trans rfl
                    have hcz25_3 : wc.cell? ⟨gb1120, 3, none⟩ = some (.int .i64 a0_3) := (blk_cell BK1120.out 3).trans rfl
                    have hfz25_0 := blk_frozen BK1120.out 0
                    have hfz25_1 := blk_frozen BK1120.out 1
                    have hfz25_2 := blk_frozen BK1120.out 2
                    have hfz25_3 := blk_frozen BK1120.out 3
                    go_wp2_with (first | ((with_reducible refine gate_dst (N := 30) rfl ?_); refine Kd.R_lit (Kd.int .i64) _ 2 ?hg (N := 30) ?hd (xs := ([a0_1] : List Int)) (inner := [.int .i64 a0_1]) (ok := fun _ => True) (okp := fun _ => True) ?hr ?hp (fun _ hk => hk) trivial (Below.refl _ _) (Nat.le_refl _) (by simp) ?_; (case hd => rfl); (case hg => rfl); (case hr => first | (go_simp; done) | (go_simp; rfl)); (case hp => exact (Reps.one (show Kd.M (Kd.int .i64) _ _ _ a0_1 [.int .i64 a0_1] from rfl) (Reps.none _ _))); intro v1134 w26 ho27 hb hg_ hnew_; clear hg_ hnew_; (first | rw [← Ny1133.out] at ho27 | (simp only [Int.reduceToNat] at ho27; rw [← Ny1133.out] at ho27)); have n0_ := Aside0.mk (Kd.R_lower ho27 (below_size (by repeat (first | (with_reducible first | exact HB.out | apply below_alloc | apply pw_below_drewN | apply below_drew1 | refine below_set ?_ GE1120.out) | exact HB.out)))); have n1_ := Aside0.mk (blk_below (g := gb1120) (o := .cells #[.int .u8 a0_0, .int .i64 a0_1, .int .i64 a0_2, .int .i64 a0_3] 78 (0, 0)) (by (with_reducible repeat (first | refine blk_drewN ?_ _ | refine blk_drew ?_ | refine blk_alloc ?_ _)); exact BK1120.out) hb); have n2_ := Aside0.mk (below_step (by repeat (first | (with_reducible first | exact HB.out | apply below_alloc | apply pw_below_drewN | apply below_drew1 | refine below_set ?_ GE1120.out) | exact HB.out)) hb); clear BK1120; clear HB; have HO1135 := n0_; have BK1120 := n1_; have HB := n2_; clear n0_ n1_ n2_; clear hb ho27))
                    go_ret
                    exact ⟨_, by first | rfl | (simp [errW_none, errW_some] <;> rfl) | (simp [*, errW_none, errW_some] <;> rfl), by (with_reducible repeat (first | apply Kd.R_alloc | apply Kd.R_drewN | apply Kd.R_drew)); exact HO1135.out, by repeat (first | (with_reducible first | exact HB.out | apply below_alloc | apply pw_below_drewN | apply below_drew1 | refine below_set ?_ GE1120.out) | exact HB.out)⟩
                  · rw [if_neg c24] at H
                    have c24b0 : (a0_0 == 4) = false := beq_eq_false_iff_ne.mpr c24
                    have c24b1 : (a0_0 != 4) = true := bne_iff_ne.mpr c24
                    by_cases c28 : a0_0 = 5
                    · rw [if_pos c28] at H
                      have c28b0 : (a0_0 == 5) = true := beq_iff_eq.mpr c28
                      have c28b1 : (a0_0 != 5) = false := bne_eq_false_iff_eq.mpr c28
                      clear c28
                      obtain ⟨y1136, hy1136⟩ : ∃ y_ : List Int, y_ = (([a0_1] : List Int)) := ⟨_, rfl⟩
                      replace H : (some y1136) = some r := by first | (rw [hy1136]; with_reducible exact H) | (have H2_ := (Option.bind_some _ _).symm.trans H; rw [hy1136]; with_reducible exact H2_) | (have H2_ := (Option.bind_some _ _).symm.trans H; with_reducible exact H2_) | with_reducible exact H | (rw [hy1136]; exact H) | exact H
                      have Ny1136 := Aside0.mk hy1136
                      clear hy1136
                      obtain rfl := Option.some.inj H
                      have hcz29_0 : wc.cell? ⟨gb1120, 0, none⟩ = some (.int .u8 a0_0) := (blk_cell BK1120.out 0).trans rfl
                      have hcz29_1 : wc.cell? ⟨gb1120, 1, none⟩ = some (.int .i64 a0_1) := (blk_cell BK1120.out 1).trans rfl
                      have hcz29_2 : wc.cell? ⟨gb1120, 2, none⟩ = some (.int .i64 a0_2) := (blk_cell BK1120.out 2).trans rfl
                      have hcz29_3 : wc.cell? ⟨gb1120, 3, none⟩ = some (.int .i64 a0_3) := (blk_cell BK1120.out 3).trans rfl
                      have hfz29_0 := blk_frozen BK1120.out 0
                      have hfz29_1 := blk_frozen BK1120.out 1
                      have hfz29_2 := blk_frozen BK1120.out 2
                      have hfz29_3 := blk_frozen BK1120.out 3
                      go_wp2_with (first | ((with_reducible refine gate_dst (N := 30) rfl ?_); refine Kd.R_lit (Kd.int .i64) _ 2 ?hg (N := 30) ?hd (xs := ([a0_1] : List Int)) (inner := [.int .i64 a0_1]) (ok := fun _ => True) (okp := fun _ => True) ?hr ?hp (fun _ hk => hk) trivial (Below.refl _ _) (Nat.le_refl _) (by simp) ?_; (case hd => rfl); (case hg => rfl); (case hr => first | (go_simp; done) | (go_simp; rfl)); (case hp => exact (Reps.one (show Kd.M (Kd.int .i64) _ _ _ a0_1 [.int .i64 a0_1] from rfl) (Reps.none _ _))); intro v1137 w30 ho31 hb hg_ hnew_; clear hg_ hnew_; (first | rw [← Ny1136.out] at ho31 | (simp only [Int.reduceToNat] at ho31; rw [← Ny1136.out] at ho31)); have n0_ := Aside0.mk (Kd.R_lower ho31 (below_size (by repeat (first | (with_reducible first | exact HB.out | apply below_alloc | apply pw_below_drewN | apply below_drew1 | refine below_set ?_ GE1120.out) | exact HB.out)))); have n1_ := Aside0.mk (blk_below (g := gb1120) (o := .cells #[.int .u8 a0_0, .int .i64 a0_1, .int .i64 a0_2, .int .i64 a0_3] 78 (0, 0)) (by (with_reducible repeat (first | refine blk_drewN ?_ _ | refine blk_drew ?_ | refine blk_alloc ?_ _)); exact BK1120.out) hb); have n2_ := Aside0.mk (below_step (by repeat (first | (with_reducible first | exact HB.out | apply below_alloc | apply pw_below_drewN | apply below_drew1 | refine below_set ?_ GE1120.out) | exact HB.out)) hb); clear BK1120; clear HB; have HO1138 := n0_; have BK1120 := n1_; have HB := n2_; clear n0_ n1_ n2_; clear hb ho31))
                      go_ret
                      exact ⟨_, by first | rfl | (simp [errW_none, errW_some] <;> rfl) | (simp [*, errW_none, errW_some] <;> rfl), by (with_reducible repeat (first | apply Kd.R_alloc | apply Kd.R_drewN | apply Kd.R_drew)); exact HO1138.out, by repeat (first | (with_reducible first | exact HB.out | apply below_alloc | apply pw_below_drewN | apply below_drew1 | refine below_set ?_ GE1120.out) | exact HB.out)⟩
                    · rw [if_neg c28] at H
                      have c28b0 : (a0_0 == 5) = false := beq_eq_false_iff_ne.mpr c28
                      have c28b1 : (a0_0 != 5) = true := bne_iff_ne.mpr c28
                      by_cases c32 : a0_0 = 8
                      · rw [if_pos c32] at H
                        have c32b0 : (a0_0 == 8) = true := beq_iff_eq.mpr c32
                        have c32b1 : (a0_0 != 8) = false := bne_eq_false_iff_eq.mpr c32
                        clear c32
                        obtain ⟨y1139, hy1139⟩ : ∃ y_ : List Int, y_ = (([a0_1] : List Int)) := ⟨_, rfl⟩
                        replace H : (some y1139) = some r := by first | (rw [hy1139]; with_reducible exact H) | (have H2_ := (Option.bind_some _ _).symm.trans H; rw [hy1139]; with_reducible exact H2_) | (have H2_ := (Option.bind_some _ _).symm.trans H; with_reducible exact H2_) | with_reducible exact H | (rw [hy1139]; exact H) | exact H
                        have Ny1139 := Aside0.mk hy1139
                        clear hy1139
                        obtain rfl := Option.some.inj H
                        have hcz33_0 : wc.cell? ⟨gb1120, 0, none⟩ = some (.int .u8 a0_0) := (blk_cell BK1120.out 0).trans rfl
                        have hcz33_1 : wc.cell? ⟨gb1120, 1, none⟩ = some (.int .i64 a0_1) := (blk_cell BK1120.out 1).trans rfl
                        have hcz33_2 : wc.cell? ⟨gb1120, 2, none⟩ = some (.int .i64 a0_2) := (blk_cell BK1120.out 2).trans rfl
                        have hcz33_3 : wc.cell? ⟨gb1120, 3, none⟩ = some (.int .i64 a0_3) := (blk_cell BK1120.out 3).trans rfl
                        have hfz33_0 := blk_frozen BK1120.out 0
                        have hfz33_1 := blk_frozen BK1120.out 1
                        have hfz33_2 := blk_frozen BK1120.out 2
                        have hfz33_3 := blk_frozen BK1120.out 3
                        go_wp2_with (first | ((with_reducible refine gate_dst (N := 30) rfl ?_); refine Kd.R_lit (Kd.int .i64) _ 2 ?hg (N := 30) ?hd (xs := ([a0_1] : List Int)) (inner := [.int .i64 a0_1]) (ok := fun _ => True) (okp := fun _ => True) ?hr ?hp (fun _ hk => hk) trivial (Below.refl _ _) (Nat.le_refl _) (by simp) ?_; (case hd => rfl); (case hg => rfl); (case hr => first | (go_simp; done) | (go_simp; rfl)); (case hp => exact (Reps.one (show Kd.M (Kd.int .i64) _ _ _ a0_1 [.int .i64 a0_1] from rfl) (Reps.none _ _))); intro v1140 w34 ho35 hb hg_ hnew_; clear hg_ hnew_; (first | rw [← Ny1139.out] at ho35 | (simp only [Int.reduceToNat] at ho35; rw [← Ny1139.out] at ho35)); have n0_ := Aside0.mk (Kd.R_lower ho35 (below_size (by repeat (first | (with_reducible first | exact HB.out | apply below_alloc | apply pw_below_drewN | apply below_drew1 | refine below_set ?_ GE1120.out) | exact HB.out)))); have n1_ := Aside0.mk (blk_below (g := gb1120) (o := .cells #[.int .u8 a0_0, .int .i64 a0_1, .int .i64 a0_2, .int .i64 a0_3] 78 (0, 0)) (by (with_reducible repeat (first | refine blk_drewN ?_ _ | refine blk_drew ?_ | refine blk_alloc ?_ _)); exact BK1120.out) hb); have n2_ := Aside0.mk (below_step (by repeat (first | (with_reducible first | exact HB.out | apply below_alloc | apply pw_below_drewN | apply below_drew1 | refine below_set ?_ GE1120.out) | exact HB.out)) hb); clear BK1120; clear HB; have HO1141 := n0_; have BK1120 := n1_; have HB := n2_; clear n0_ n1_ n2_; clear hb ho35))
                        go_ret
                        exact ⟨_, by first | rfl | (simp [errW_none, errW_some] <;> rfl) | (simp [*, errW_none, errW_some] <;> rfl), by (with_reducible repeat (first | apply Kd.R_alloc | apply Kd.R_drewN | apply Kd.R_drew)); exact HO1141.out, by repeat (first | (with_reducible first | exact HB.out | apply below_alloc | apply pw_below_drewN | apply below_drew1 | refine below_set ?_ GE1120.out) | exact HB.out)⟩
                      · rw [if_neg c32] at H
                        have c32b0 : (a0_0 == 8) = false := beq_eq_false_iff_ne.mpr c32
                        have c32b1 : (a0_0 != 8) = true := bne_iff_ne.mpr c32
                        by_cases c36 : a0_0 = 9
                        · rw [if_pos c36] at H
                          have c36b0 : (a0_0 == 9) = true := beq_iff_eq.mpr c36
                          have c36b1 : (a0_0 != 9) = false := bne_eq_false_iff_eq.mpr c36
                          clear c36
                          obtain ⟨y1142, hy1142⟩ : ∃ y_ : List Int, y_ = (([a0_1] : List Int)) := ⟨_, rfl⟩
                          replace H : (some y1142) = some r := by first | (rw [hy1142]; with_reducible exact H) | (have H2_ := (Option.bind_some _ _).symm.trans H; rw [hy1142]; with_reducible exact H2_) | (have H2_ := (Option.bind_some _ _).symm.trans H; with_reducible exact H2_) | with_reducible exact H | (rw [hy1142]; exact H) | exact H
                          have Ny1142 := Aside0.mk hy1142
                          clear hy1142
                          obtain rfl := Option.some.inj H
                          have hcz37_0 : wc.cell? ⟨gb1120, 0, none⟩ = some (.int .u8 a0_0) := (blk_cell BK1120.out 0).trans rfl
                          have hcz37_1 : wc.cell? ⟨gb1120, 1, none⟩ = some (.int .i64 a0_1) := (blk_cell BK1120.out 1).trans rfl
                          have hcz37_2 : wc.cell? ⟨gb1120, 2, none⟩ = some (.int .i64 a0_2) := (blk_cell BK1120.out 2).trans rfl
                          have hcz37_3 : wc.cell? ⟨gb1120, 3, none⟩ = some (.int .i64 a0_3) := (blk_cell BK1120.out 3).trans rfl
                          have hfz37_0 := blk_frozen BK1120.out 0
                          have hfz37_1 := blk_frozen BK1120.out 1
                          have hfz37_2 := blk_frozen BK1120.out 2
                          have hfz37_3 := blk_frozen BK1120.out 3
                          go_wp2_with (first | ((with_reducible refine gate_dst (N := 30) rfl ?_); refine Kd.R_lit (Kd.int .i64) _ 2 ?hg (N := 30) ?hd (xs := ([a0_1] : List Int)) (inner := [.int .i64 a0_1]) (ok := fun _ => True) (okp := fun _ => True) ?hr ?hp (fun _ hk => hk) trivial (Below.refl _ _) (Nat.le_refl _) (by simp) ?_; (case hd => rfl); (case hg => rfl); (case hr => first | (go_simp; done) | (go_simp; rfl)); (case hp => exact (Reps.one (show Kd.M (Kd.int .i64) _ _ _ a0_1 [.int .i64 a0_1] from rfl) (Reps.none _ _))); intro v1143 w38 ho39 hb hg_ hnew_; clear hg_ hnew_; (first | rw [← Ny1142.out] at ho39 | (simp only [Int.reduceToNat] at ho39; rw [← Ny1142.out] at ho39)); have n0_ := Aside0.mk (Kd.R_lower ho39 (below_size (by repeat (first | (with_reducible first | exact HB.out | apply below_alloc | apply pw_below_drewN | apply below_drew1 | refine below_set ?_ GE1120.out) | exact HB.out)))); have n1_ := Aside0.mk (blk_below (g := gb1120) (o := .cells #[.int .u8 a0_0, .int .i64 a0_1, .int .i64 a0_2, .int .i64 a0_3] 78 (0, 0)) (by (with_reducible repeat (first | refine blk_drewN ?_ _ | refine blk_drew ?_ | refine blk_alloc ?_ _)); exact BK1120.out) hb); have n2_ := Aside0.mk (below_step (by repeat (first | (with_reducible first | exact HB.out | apply below_alloc | apply pw_below_drewN | apply below_drew1 | refine below_set ?_ GE1120.out) | exact HB.out)) hb); clear BK1120; clear HB; have HO1144 := n0_; have BK1120 := n1_; have HB := n2_; clear n0_ n1_ n2_; clear hb ho39))
                          go_ret
                          exact ⟨_, by first | rfl | (simp [errW_none, errW_some] <;> rfl) | (simp [*, errW_none, errW_some] <;> rfl), by (with_reducible repeat (first | apply Kd.R_alloc | apply Kd.R_drewN | apply Kd.R_drew)); exact HO1144.out, by repeat (first | (with_reducible first | exact HB.out | apply below_alloc | apply pw_below_drewN | apply below_drew1 | refine below_set ?_ GE1120.out) | exact HB.out)⟩
                        · rw [if_neg c36] at H
                          have c36b0 : (a0_0 == 9) = false := beq_eq_false_iff_ne.mpr c36
                          have c36b1 : (a0_0 != 9) = true := bne_iff_ne.mpr c36
                          obtain rfl := Option.some.inj H
                          go_wp2
                          go_ret
                          exact ⟨_, by first | rfl | (simp [errW_none, errW_some] <;> rfl) | (simp [*, errW_none, errW_some] <;> rfl), by first | exact Kd.R_nil _ _ _ _ _ | exact Kd.N_nil _ _ _ _ _ | exact Kd.V_nil _ _ _ _ _ | exact Kd.Q_nil _ _ _ _ _ | exact Kd.S_nil _ _ _ _ _, by repeat (first | (with_reducible first | exact HB.out | apply below_alloc | apply pw_below_drewN | apply below_drew1 | refine below_set ?_ GE1120.out) | exact HB.out)⟩

end Go.Proofs.Ytkoiffkonjpoiaa.Q
