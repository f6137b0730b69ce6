/- Go functions of the program as plain Lean functions, and for each the contract that the call comes to its answers; written by a turned print of this session. -/
import Derived.Test.YtkoiffkonjpoiaaQ0
import Derived.Test.YtkoiffkonjpoiaaQA4
namespace Go.Proofs.Ytkoiffkonjpoiaa.Q
open Go.RowKit Go.Proofs.YtkoiffkonjpoiaaW.PrintWords Go.Proofs.YtkoiffkonjpoiaaW.PrintLast Go.Proofs.YtkoiffkonjpoiaaW.PrintMore Go.Proofs.YtkoiffkonjpoiaaX
attribute [local go_sem] max2_int min2_int max_two min_two max_three min_three max_four min_four   -- for this text's walks alone
set_option linter.unusedVariables false
set_option linter.unusedSimpArgs false

/-! ### model_Op_Numbers: function 79 -/
mutual
def model_Op_Numbers.j0 : Nat → Int → Bool → Int → Int → Int → Int → Option (List Int)
  | 0, _, _, _, _, _, _ => none
  | k + 1, x4, x5, x1064000, x1064001, x1064002, x1064003 => if x5 = true then (some (([x1064001, x1064003] : List Int))) else (if x4 = 10 then (model_Op_Numbers.j1 k x4 (x4 == 10) x1064000 x1064001 x1064002 x1064003) else (model_Op_Numbers.j1 k x4 (x4 == 11) x1064000 x1064001 x1064002 x1064003))
def model_Op_Numbers.j1 : Nat → Int → Bool → Int → Int → Int → Int → Option (List Int)
  | 0, _, _, _, _, _, _ => none
  | k + 1, x4, x13, x1064000, x1064001, x1064002, x1064003 => if x13 = true then (some (([x1064001, x1064002] : List Int))) else (if x4 = 0 then (some (([x1064001] : List Int))) else (if x4 = 3 then (some (([x1064001] : List Int))) else (if x4 = 4 then (some (([x1064001] : List Int))) else (if x4 = 5 then (some (([x1064001] : List Int))) else (if x4 = 8 then (some (([x1064001] : List Int))) else (if x4 = 9 then (some (([x1064001] : List Int))) else (some ([] : List Int))))))))
end
def model_Op_Numbers.f (k : Nat) (a0_0 : Int) (a0_1 : Int) (a0_2 : Int) (a0_3 : Int) : Option (List Int) := if a0_0 = 1 then (model_Op_Numbers.j0 k a0_0 (a0_0 == 1) a0_0 a0_1 a0_2 a0_3) else (model_Op_Numbers.j0 k a0_0 (a0_0 == 2) a0_0 a0_1 a0_2 a0_3)
theorem model_Op_Numbers.mono_l : ∀ k, (∀ y0 y1 y2 y3 y4 y5, LeO (model_Op_Numbers.j0 k y0 y1 y2 y3 y4 y5) (model_Op_Numbers.j0 (k + 1) y0 y1 y2 y3 y4 y5)) ∧ (∀ y0 y1 y2 y3 y4 y5, LeO (model_Op_Numbers.j1 k y0 y1 y2 y3 y4 y5) (model_Op_Numbers.j1 (k + 1) y0 y1 y2 y3 y4 y5))
  | 0 => ⟨fun _ _ _ _ _ _ r h => by simp [model_Op_Numbers.j0] at h, fun _ _ _ _ _ _ r h => by simp [model_Op_Numbers.j1] at h⟩
  | k + 1 => by
    obtain ⟨ih0, ih1⟩ := model_Op_Numbers.mono_l k
    refine ⟨?_, ?_⟩
    · intro y0 y1 y2 y3 y4 y5
      unfold model_Op_Numbers.j0
      repeat' first
      | (with_reducible exact ih0 _ _ _ _ _ _)
      | (with_reducible exact ih1 _ _ _ _ _ _)
      | (with_reducible exact LeO.refl _)
      | (with_reducible exact LeO.none _)
      | (with_reducible refine LeO.ite ?_ ?_)
      | (with_reducible refine LeO.bind ?_ (fun _ => ?_))
      | exact ih0 _ _ _ _ _ _
      | exact ih1 _ _ _ _ _ _
      | exact LeO.none _
      | refine LeO.ite ?_ ?_
      | refine LeO.bind ?_ (fun _ => ?_)
    · intro y0 y1 y2 y3 y4 y5
      unfold model_Op_Numbers.j1
      repeat' first
      | (with_reducible exact ih0 _ _ _ _ _ _)
      | (with_reducible exact ih1 _ _ _ _ _ _)
      | (with_reducible exact LeO.refl _)
      | (with_reducible exact LeO.none _)
      | (with_reducible refine LeO.ite ?_ ?_)
      | (with_reducible refine LeO.bind ?_ (fun _ => ?_))
      | exact ih0 _ _ _ _ _ _
      | exact ih1 _ _ _ _ _ _
      | exact LeO.none _
      | refine LeO.ite ?_ ?_
      | refine LeO.bind ?_ (fun _ => ?_)
theorem model_Op_Numbers.mono : ∀ a0 a1 a2 a3 k, LeO (model_Op_Numbers.f k a0 a1 a2 a3) (model_Op_Numbers.f (k + 1) a0 a1 a2 a3) := by
  intro a0 a1 a2 a3 k
  obtain ⟨ih0, ih1⟩ := model_Op_Numbers.mono_l k
  unfold model_Op_Numbers.f
  repeat' first
      | (with_reducible exact ih0 _ _ _ _ _ _)
      | (with_reducible exact ih1 _ _ _ _ _ _)
      | (with_reducible exact LeO.refl _)
      | (with_reducible exact LeO.none _)
      | (with_reducible refine LeO.ite ?_ ?_)
      | (with_reducible refine LeO.bind ?_ (fun _ => ?_))
      | exact ih0 _ _ _ _ _ _
      | exact ih1 _ _ _ _ _ _
      | exact LeO.none _
      | refine LeO.ite ?_ ?_
      | refine LeO.bind ?_ (fun _ => ?_)
set_option maxHeartbeats 8000000 in
set_option maxRecDepth 100000 in
theorem model_Op_Numbers.calls (k : Nat) (a0_0 : Int) (a0_1 : Int) (a0_2 : Int) (a0_3 : Int) (r : List Int) (w : World) (h : model_Op_Numbers.f k a0_0 a0_1 a0_2 a0_3 = some r) :
    Calls Try.prog 79 #[.agg #[.int .u8 a0_0, .int .i64 a0_1, .int .i64 a0_2, .int .i64 a0_3]] w fun e w' => ∃ v0_ : Value, e = .returned (v0_) ∧ Kd.R (Kd.int .i64) 2 w' w.heap.size (fun _ => True) v0_ r ∧ Below w.heap.size w w' := by
  have hu78 := Try.underlying78
  have HB := Aside0.mk (Below.refl w.heap.size w)
  have H : (if a0_0 = 1 then (model_Op_Numbers.j0 k a0_0 (a0_0 == 1) a0_0 a0_1 a0_2 a0_3) else (model_Op_Numbers.j0 k a0_0 (a0_0 == 2) a0_0 a0_1 a0_2 a0_3)) = some r := h
  clear h
  have HC2 := Aside0.mk H
  clear H
  go_enter Try.func79, Try.ntmps79
  go_upto_if 5 with (first | ((with_reducible refine gate_dst (N := 1) rfl ?_); refine box_event ?hg (N := 1) ?hd (cs := #[.int .u8 a0_0, .int .i64 a0_1, .int .i64 a0_2, .int .i64 a0_3]) (t := 78) ?hr ?_; (case hd => rfl); (case hg => rfl); (case hr => first | (go_simp; done) | (go_simp; rfl)); intro gb1063 hg w3 hbox hb; have n0_ := Aside0.mk (below_step (by repeat (first | (with_reducible first | exact HB.out | apply below_alloc | apply pw_below_drewN | apply below_drew1) | exact HB.out)) hb); have n1_ := Aside0.mk (hbox); have n2_ := Aside0.mk ((by rw [hg]; exact (below_size (by repeat (first | (with_reducible first | exact HB.out | apply below_alloc | apply pw_below_drewN | apply below_drew1) | exact HB.out))) : w.heap.size ≤ gb1063)); have n3_ := Aside0.mk ((by rw [hg]; exact (below_size (by repeat (first | (with_reducible first | exact HB.out | apply below_alloc | apply pw_below_drewN | apply below_drew1) | exact HB.out))) : w.heap.size ≤ gb1063)); clear HB; have HB := n0_; have BK1063 := n1_; have GW1063 := n2_; have GE1063 := n3_; clear n0_ n1_ n2_ n3_; clear hb hbox hg; have hcz4_0 : w3.cell? ⟨gb1063, 0, none⟩ = some (.int .u8 a0_0) := (blk_cell BK1063.out 0).trans rfl; have hcz4_1 : w3.cell? ⟨gb1063, 1, none⟩ = some (.int .i64 a0_1) := (blk_cell BK1063.out 1).trans rfl; have hcz4_2 : w3.cell? ⟨gb1063, 2, none⟩ = some (.int .i64 a0_2) := (blk_cell BK1063.out 2).trans rfl; have hcz4_3 : w3.cell? ⟨gb1063, 3, none⟩ = some (.int .i64 a0_3) := (blk_cell BK1063.out 3).trans rfl; have hfz4_0 := blk_frozen BK1063.out 0; have hfz4_1 := blk_frozen BK1063.out 1; have hfz4_2 := blk_frozen BK1063.out 2; have hfz4_3 := blk_frozen BK1063.out 3))
  (try simp only [Act.put, List.setIfInBounds_toArray, List.set_cons_zero, List.set_cons_succ])
  go_cut [5] (fun v5 wc => ∃ (kq : Nat) (x5_1 : Bool), v5 = .bool x5_1 ∧ Aside0 (model_Op_Numbers.j0 kq a0_0 x5_1 a0_0 a0_1 a0_2 a0_3 = some r) ∧ Aside0 (kq ≤ k) ∧ Aside0 (wc.heap[gb1063]? = some (.cells #[.int .u8 a0_0, .int .i64 a0_1, .int .i64 a0_2, .int .i64 a0_3] 78 (0, 0))) ∧ Aside0 (Below w.heap.size w wc))
  case first =>
    have H := HC2.out
    clear HC2
    by_cases c5 : a0_0 = 1
    · rw [if_pos c5] at H
      have c5b0 : (a0_0 == 1) = true := beq_iff_eq.mpr c5
      have c5b1 : (a0_0 != 1) = false := bne_eq_false_iff_eq.mpr c5
      clear c5
      (first | rw [c5b0] | (simp only [i64_w, i32_w]; rw [c5b0]) | skip)
      have H' := Aside0.mk H
      clear H
      go_wp2
      go_meet
      case rel => exact ⟨_, ((a0_0 == 1)), (by first | rfl | (simp; done) | (simp [*]; done)), H', ⟨by first | omega | exact Nat.le_refl _⟩, ⟨by (with_reducible repeat (first | refine blk_drewN ?_ _ | refine blk_drew ?_ | refine blk_alloc ?_ _)); exact BK1063.out⟩, ⟨by repeat (first | (with_reducible first | exact HB.out | apply below_alloc | apply pw_below_drewN | apply below_drew1 | refine below_set ?_ GE1063.out) | exact HB.out)⟩⟩
    · rw [if_neg c5] at H
      have c5b0 : (a0_0 == 1) = false := beq_eq_false_iff_ne.mpr c5
      have c5b1 : (a0_0 != 1) = true := bne_iff_ne.mpr c5
      (first | rw [c5b0] | (simp only [i64_w, i32_w]; rw [c5b0]) | skip)
      have H' := Aside0.mk H
      clear H
      go_wp2
      go_meet
      case rel => exact ⟨_, ((a0_0 == 2)), (by first | rfl | (simp; done) | (simp [*]; done)), H', ⟨by first | omega | exact Nat.le_refl _⟩, ⟨by (with_reducible repeat (first | refine blk_drewN ?_ _ | refine blk_drew ?_ | refine blk_alloc ?_ _)); exact BK1063.out⟩, ⟨by repeat (first | (with_reducible first | exact HB.out | apply below_alloc | apply pw_below_drewN | apply below_drew1 | refine below_set ?_ GE1063.out) | exact HB.out)⟩⟩
  case rest =>
    clear HC2
    try clear p2
    try clear c5
    try clear c5b0
    try clear c5b1
    try clear hcz4_0
    try clear hcz4_1
    try clear hcz4_2
    try clear hcz4_3
    try clear hfz4_0
    try clear hfz4_1
    try clear hfz4_2
    try clear hfz4_3
    obtain ⟨kq, x5_1, rfl, HA, HJ1, BK1063, HB⟩ := hcut
    cases kq with
    | zero => exact absurd HA.out (by simp [model_Op_Numbers.j0])
    | succ kj1 =>
      have H := HA.out
      clear HA
      simp only [model_Op_Numbers.j0] at H
      by_cases c6 : x5_1 = true
      · subst c6
        have H1 : (some (([a0_1, a0_3] : List Int))) = some r := by rw [if_pos rfl] at H; exact H
        clear H
        have H := H1
        clear H1
        obtain ⟨y1064, hy1064⟩ : ∃ y_ : List Int, y_ = (([a0_1, a0_3] : List Int)) := ⟨_, rfl⟩
        replace H : (some y1064) = some r := by first | (rw [hy1064]; with_reducible exact H) | (have H2_ := (Option.bind_some _ _).symm.trans H; rw [hy1064]; with_reducible exact H2_) | (have H2_ := (Option.bind_some _ _).symm.trans H; with_reducible exact H2_) | with_reducible exact H | (rw [hy1064]; exact H) | exact H
        have Ny1064 := Aside0.mk hy1064
        clear hy1064
        obtain rfl := Option.some.inj H
        have hcz7_0 : wc.cell? ⟨gb1063, 0, none⟩ = some (.int .u8 a0_0) := (blk_cell BK1063.out 0).trans rfl
        have hcz7_1 : wc.cell? ⟨gb1063, 1, none⟩ = some (.int .i64 a0_1) := (blk_cell BK1063.out 1).trans rfl
        have hcz7_2 : wc.cell? ⟨gb1063, 2, none⟩ = some (.int .i64 a0_2) := (blk_cell BK1063.out 2).trans rfl
        have hcz7_3 : wc.cell? ⟨gb1063, 3, none⟩ = some (.int .i64 a0_3) := (blk_cell BK1063.out 3).trans rfl
        have hfz7_0 := blk_frozen BK1063.out 0
        have hfz7_1 := blk_frozen BK1063.out 1
        have hfz7_2 := blk_frozen BK1063.out 2
        have hfz7_3 := blk_frozen BK1063.out 3
        go_wp2_with (first | ((with_reducible refine gate_dst (N := 12) rfl ?_); refine Kd.R_lit (Kd.int .i64) _ 2 ?hg (N := 12) ?hd (xs := ([a0_1, a0_3] : List Int)) (inner := [.int .i64 a0_1, .int .i64 a0_3]) (ok := fun _ => True) (okp := fun _ => True) ?hr ?hp (fun _ hk => hk) trivial (Below.refl _ _) (Nat.le_refl _) (by simp) ?_; (case hd => rfl); (case hg => rfl); (case hr => first | (go_simp; done) | (go_simp; rfl)); (case hp => exact (Reps.one (show Kd.M (Kd.int .i64) _ _ _ a0_1 [.int .i64 a0_1] from rfl) (Reps.one (show Kd.M (Kd.int .i64) _ _ _ a0_3 [.int .i64 a0_3] from rfl) (Reps.none _ _)))); intro v1065 w8 ho9 hb hg_ hnew_; clear hg_ hnew_; (first | rw [← Ny1064.out] at ho9 | (simp only [Int.reduceToNat] at ho9; rw [← Ny1064.out] at ho9)); have n0_ := Aside0.mk (Kd.R_lower ho9 (below_size (by repeat (first | (with_reducible first | exact HB.out | apply below_alloc | apply pw_below_drewN | apply below_drew1 | refine below_set ?_ GE1063.out) | exact HB.out)))); have n1_ := Aside0.mk (blk_below (g := gb1063) (o := .cells #[.int .u8 a0_0, .int .i64 a0_1, .int .i64 a0_2, .int .i64 a0_3] 78 (0, 0)) (by (with_reducible repeat (first | refine blk_drewN ?_ _ | refine blk_drew ?_ | refine blk_alloc ?_ _)); exact BK1063.out) hb); have n2_ := Aside0.mk (below_step (by repeat (first | (with_reducible first | exact HB.out | apply below_alloc | apply pw_below_drewN | apply below_drew1 | refine below_set ?_ GE1063.out) | exact HB.out)) hb); clear BK1063; clear HB; have HO1066 := n0_; have BK1063 := n1_; have HB := n2_; clear n0_ n1_ n2_; clear hb ho9))
        go_ret
        exact ⟨_, by first | rfl | (simp [errW_none, errW_some] <;> rfl) | (simp [*, errW_none, errW_some] <;> rfl), by (with_reducible repeat (first | apply Kd.R_alloc | apply Kd.R_drewN | apply Kd.R_drew)); exact HO1066.out, by repeat (first | (with_reducible first | exact HB.out | apply below_alloc | apply pw_below_drewN | apply below_drew1 | refine below_set ?_ GE1063.out) | exact HB.out)⟩
      · replace c6 := Bool.eq_false_iff.mpr c6
        subst c6
        have H1 : (if a0_0 = 10 then (model_Op_Numbers.j1 kj1 a0_0 (a0_0 == 10) a0_0 a0_1 a0_2 a0_3) else (model_Op_Numbers.j1 kj1 a0_0 (a0_0 == 11) a0_0 a0_1 a0_2 a0_3)) = some r := by rw [if_neg (show ¬ (false = true) by decide)] at H; exact H
        clear H
        have H := H1
        clear H1
        have HC10 := Aside0.mk H
        clear H
        go_upto_if 13 with (fail)
        go_cut [13] (fun v13 wc => ∃ (kq : Nat) (x13_9 : Bool), v13 = .bool x13_9 ∧ Aside0 (model_Op_Numbers.j1 kq a0_0 x13_9 a0_0 a0_1 a0_2 a0_3 = some r) ∧ Aside0 (kq ≤ kj1) ∧ Aside0 (wc.heap[gb1063]? = some (.cells #[.int .u8 a0_0, .int .i64 a0_1, .int .i64 a0_2, .int .i64 a0_3] 78 (0, 0))) ∧ Aside0 (Below w.heap.size w wc))
        case first =>
          have H := HC10.out
          clear HC10
          by_cases c11 : a0_0 = 10
          · rw [if_pos c11] at H
            have c11b0 : (a0_0 == 10) = true := beq_iff_eq.mpr c11
            have c11b1 : (a0_0 != 10) = false := bne_eq_false_iff_eq.mpr c11
            clear c11
            (first | rw [c11b0] | (simp only [i64_w, i32_w]; rw [c11b0]) | skip)
            have H' := Aside0.mk H
            clear H
            go_wp2
            go_meet
            case rel => exact ⟨_, ((a0_0 == 10)), (by first | rfl | (simp; done) | (simp [*]; done)), H', ⟨by have := HJ1.out; first | omega | exact Nat.le_refl _⟩, ⟨by (with_reducible repeat (first | refine blk_drewN ?_ _ | refine blk_drew ?_ | refine blk_alloc ?_ _)); exact BK1063.out⟩, ⟨by repeat (first | (with_reducible first | exact HB.out | apply below_alloc | apply pw_below_drewN | apply below_drew1 | refine below_set ?_ GE1063.out) | exact HB.out)⟩⟩
          · rw [if_neg c11] at H
            have c11b0 : (a0_0 == 10) = false := beq_eq_false_iff_ne.mpr c11
            have c11b1 : (a0_0 != 10) = true := bne_iff_ne.mpr c11
            (first | rw [c11b0] | (simp only [i64_w, i32_w]; rw [c11b0]) | skip)
            have H' := Aside0.mk H
            clear H
            go_wp2
            go_meet
            case rel => exact ⟨_, ((a0_0 == 11)), (by first | rfl | (simp; done) | (simp [*]; done)), H', ⟨by have := HJ1.out; first | omega | exact Nat.le_refl _⟩, ⟨by (with_reducible repeat (first | refine blk_drewN ?_ _ | refine blk_drew ?_ | refine blk_alloc ?_ _)); exact BK1063.out⟩, ⟨by repeat (first | (with_reducible first | exact HB.out | apply below_alloc | apply pw_below_drewN | apply below_drew1 | refine below_set ?_ GE1063.out) | exact HB.out)⟩⟩
        case rest =>
          clear HC10
          try clear c1
          try clear p2
          try clear c5
          try clear c5b0
          try clear c5b1
          try clear c6
          try clear c7
          try clear c11
          try clear c11b0
          try clear c11b1
          try clear hcz4_0
          try clear hcz4_1
          try clear hcz4_2
          try clear hcz4_3
          try clear hcz7_0
          try clear hcz7_1
          try clear hcz7_2
          try clear hcz7_3
          try clear hfz4_0
          try clear hfz4_1
          try clear hfz4_2
          try clear hfz4_3
          try clear hfz7_0
          try clear hfz7_1
          try clear hfz7_2
          try clear hfz7_3
          try clear p2
          obtain ⟨kq, x13_9, rfl, HA, HJ9, BK1063, HB⟩ := hcut
          cases kq with
          | zero => exact absurd HA.out (by simp [model_Op_Numbers.j1])
          | succ kj9 =>
            have H := HA.out
            clear HA
            simp only [model_Op_Numbers.j1] at H
            by_cases c12 : x13_9 = true
            · subst c12
              have H1 : (some (([a0_1, a0_2] : List Int))) = some r := by rw [if_pos rfl] at H; exact H
              clear H
              have H := H1
              clear H1
              obtain ⟨y1067, hy1067⟩ : ∃ y_ : List Int, y_ = (([a0_1, a0_2] : List Int)) := ⟨_, rfl⟩
              replace H : (some y1067) = some r := by first | (rw [hy1067]; with_reducible exact H) | (have H2_ := (Option.bind_some _ _).symm.trans H; rw [hy1067]; with_reducible exact H2_) | (have H2_ := (Option.bind_some _ _).symm.trans H; with_reducible exact H2_) | with_reducible exact H | (rw [hy1067]; exact H) | exact H
              have Ny1067 := Aside0.mk hy1067
              clear hy1067
              obtain rfl := Option.some.inj H
              have hcz13_0 : wc.cell? ⟨gb1063, 0, none⟩ = some (.int .u8 a0_0) := (blk_cell BK1063.out 0).trans rfl
              have hcz13_1 : wc.cell? ⟨gb1063, 1, none⟩ = some (.int .i64 a0_1) := (blk_cell BK1063.out 1).trans rfl
              have hcz13_2 : wc.cell? ⟨gb1063, 2, none⟩ = some (.int .i64 a0_2) := (blk_cell BK1063.out 2).trans rfl
              have hcz13_3 : wc.cell? ⟨gb1063, 3, none⟩ = some (.int .i64 a0_3) := (blk_cell BK1063.out 3).trans rfl
              have hfz13_0 := blk_frozen BK1063.out 0
              have hfz13_1 := blk_frozen BK1063.out 1
              have hfz13_2 := blk_frozen BK1063.out 2
              have hfz13_3 := blk_frozen BK1063.out 3
              go_wp2_with (first | ((with_reducible refine gate_dst (N := 20) rfl ?_); refine Kd.R_lit (Kd.int .i64) _ 2 ?hg (N := 20) ?hd (xs := ([a0_1, a0_2] : List Int)) (inner := [.int .i64 a0_1, .int .i64 a0_2]) (ok := fun _ => True) (okp := fun _ => True) ?hr ?hp (fun _ hk => hk) trivial (Below.refl _ _) (Nat.le_refl _) (by simp) ?_; (case hd => rfl); (case hg => rfl); (case hr => first | (go_simp; done) | (go_simp; rfl)); (case hp => exact (Reps.one (show Kd.M (Kd.int .i64) _ _ _ a0_1 [.int .i64 a0_1] from rfl) (Reps.one (show Kd.M (Kd.int .i64) _ _ _ a0_2 [.int .i64 a0_2] from rfl) (Reps.none _ _)))); intro v1068 w14 ho15 hb hg_ hnew_; clear hg_ hnew_; (first | rw [← Ny1067.out] at ho15 | (simp only [Int.reduceToNat] at ho15; rw [← Ny1067.out] at ho15)); have n0_ := Aside0.mk (Kd.R_lower ho15 (below_size (by repeat (first | (with_reducible first | exact HB.out | apply below_alloc | apply pw_below_drewN | apply below_drew1 | refine below_set ?_ GE1063.out) | exact HB.out)))); have n1_ := Aside0.mk (blk_below (g := gb1063) (o := .cells #[.int .u8 a0_0, .int .i64 a0_1, .int .i64 a0_2, .int .i64 a0_3] 78 (0, 0)) (by (with_reducible repeat (first | refine blk_drewN ?_ _ | refine blk_drew ?_ | refine blk_alloc ?_ _)); exact BK1063.out) hb); have n2_ := Aside0.mk (below_step (by repeat (first | (with_reducible first | exact HB.out | apply below_alloc | apply pw_below_drewN | apply below_drew1 | refine below_set ?_ GE1063.out) | exact HB.out)) hb); clear BK1063; clear HB; have HO1069 := n0_; have BK1063 := n1_; have HB := n2_; clear n0_ n1_ n2_; clear hb ho15))
              go_ret
              exact ⟨_, by first | rfl | (simp [errW_none, errW_some] <;> rfl) | (simp [*, errW_none, errW_some] <;> rfl), by (with_reducible repeat (first | apply Kd.R_alloc | apply Kd.R_drewN | apply Kd.R_drew)); exact HO1069.out, by repeat (first | (with_reducible first | exact HB.out | apply below_alloc | apply pw_below_drewN | apply below_drew1 | refine below_set ?_ GE1063.out) | exact HB.out)⟩
            · replace c12 := Bool.eq_false_iff.mpr c12
              subst c12
              have H1 : (if a0_0 = 0 then (some (([a0_1] : List Int))) else (if a0_0 = 3 then (some (([a0_1] : List Int))) else (if a0_0 = 4 then (some (([a0_1] : List Int))) else (if a0_0 = 5 then (some (([a0_1] : List Int))) else (if a0_0 = 8 then (some (([a0_1] : List Int))) else (if a0_0 = 9 then (some (([a0_1] : List Int))) else (some ([] : List Int)))))))) = some r := by rw [if_neg (show ¬ (false = true) by decide)] at H; exact H
              clear H
              have H := H1
              clear H1
              by_cases c16 : a0_0 = 0
              · rw [if_pos c16] at H
                have c16b0 : (a0_0 == 0) = true := beq_iff_eq.mpr c16
                have c16b1 : (a0_0 != 0) = false := bne_eq_false_iff_eq.mpr c16
                clear c16
                obtain ⟨y1070, hy1070⟩ : ∃ y_ : List Int, y_ = (([a0_1] : List Int)) := ⟨_, rfl⟩
                replace H : (some y1070) = some r := by first | (rw [hy1070]; with_reducible exact H) | (have H2_ := (Option.bind_some _ _).symm.trans H; rw [hy1070]; with_reducible exact H2_) | (have H2_ := (Option.bind_some _ _).symm.trans H; with_reducible exact H2_) | with_reducible exact H | (rw [hy1070]; exact H) | exact H
                have Ny1070 := Aside0.mk hy1070
                clear hy1070
                obtain rfl := Option.some.inj H
                have hcz17_0 : wc.cell? ⟨gb1063, 0, none⟩ = some (.int .u8 a0_0) := (blk_cell BK1063.out 0).trans rfl
                have hcz17_1 : wc.cell? ⟨gb1063, 1, none⟩ = some (.int .i64 a0_1) := (blk_cell BK1063.out 1).trans rfl
                have hcz17_2 : wc.cell? ⟨gb1063, 2, none⟩ = some (.int .i64 a0_2) := (blk_cell BK1063.out 2).trans rfl
                have hcz17_3 : wc.cell? ⟨gb1063, 3, none⟩ = some (.int .i64 a0_3) := (blk_cell BK1063.out 3).trans rfl
                have hfz17_0 := blk_frozen BK1063.out 0
                have hfz17_1 := blk_frozen BK1063.out 1
                have hfz17_2 := blk_frozen BK1063.out 2
                have hfz17_3 := blk_frozen BK1063.out 3
                go_wp2_with (first | ((with_reducible refine gate_dst (N := 30) rfl ?_); refine Kd.R_lit (Kd.int .i64) _ 2 ?hg (N := 30) ?hd (xs := ([a0_1] : List Int)) (inner := [.int .i64 a0_1]) (ok := fun _ => True) (okp := fun _ => True) ?hr ?hp (fun _ hk => hk) trivial (Below.refl _ _) (Nat.le_refl _) (by simp) ?_; (case hd => rfl); (case hg => rfl); (case hr => first | (go_simp; done) | (go_simp; rfl)); (case hp => exact (Reps.one (show Kd.M (Kd.int .i64) _ _ _ a0_1 [.int .i64 a0_1] from rfl) (Reps.none _ _))); intro v1071 w18 ho19 hb hg_ hnew_; clear hg_ hnew_; (first | rw [← Ny1070.out] at ho19 | (simp only [Int.reduceToNat] at ho19; rw [← Ny1070.out] at ho19)); have n0_ := Aside0.mk (Kd.R_lower ho19 (below_size (by repeat (first | (with_reducible first | exact HB.out | apply below_alloc | apply pw_below_drewN | apply below_drew1 | refine below_set ?_ GE1063.out) | exact HB.out)))); have n1_ := Aside0.mk (blk_below (g := gb1063) (o := .cells #[.int .u8 a0_0, .int .i64 a0_1, .int .i64 a0_2, .int .i64 a0_3] 78 (0, 0)) (by (with_reducible repeat (first | refine blk_drewN ?_ _ | refine blk_drew ?_ | refine blk_alloc ?_ _)); exact BK1063.out) hb); have n2_ := Aside0.mk (below_step (by repeat (first | (with_reducible first | exact HB.out | apply below_alloc | apply pw_below_drewN | apply below_drew1 | refine below_set ?_ GE1063.out) | exact HB.out)) hb); clear BK1063; clear HB; have HO1072 := n0_; have BK1063 := n1_; have HB := n2_; clear n0_ n1_ n2_; clear hb ho19))
                go_ret
                exact ⟨_, by first | rfl | (simp [errW_none, errW_some] <;> rfl) | (simp [*, errW_none, errW_some] <;> rfl), by (with_reducible repeat (first | apply Kd.R_alloc | apply Kd.R_drewN | apply Kd.R_drew)); exact HO1072.out, by repeat (first | (with_reducible first | exact HB.out | apply below_alloc | apply pw_below_drewN | apply below_drew1 | refine below_set ?_ GE1063.out) | exact HB.out)⟩
              · rw [if_neg c16] at H
                have c16b0 : (a0_0 == 0) = false := beq_eq_false_iff_ne.mpr c16
                have c16b1 : (a0_0 != 0) = true := bne_iff_ne.mpr c16
                by_cases c20 : a0_0 = 3
                · rw [if_pos c20] at H
                  have c20b0 : (a0_0 == 3) = true := beq_iff_eq.mpr c20
                  have c20b1 : (a0_0 != 3) = false := bne_eq_false_iff_eq.mpr c20
                  clear c20
                  obtain ⟨y1073, hy1073⟩ : ∃ y_ : List Int, y_ = (([a0_1] : List Int)) := ⟨_, rfl⟩
                  replace H : (some y1073) = some r := by first | (rw [hy1073]; with_reducible exact H) | (have H2_ := (Option.bind_some _ _).symm.trans H; rw [hy1073]; with_reducible exact H2_) | (have H2_ := (Option.bind_some _ _).symm.trans H; with_reducible exact H2_) | with_reducible exact H | (rw [hy1073]; exact H) | exact H
                  have Ny1073 := Aside0.mk hy1073
                  clear hy1073
                  obtain rfl := Option.some.inj H
                  have hcz21_0 : wc.cell? ⟨gb1063, 0, none⟩ = some (.int .u8 a0_0) := (blk_cell BK1063.out 0).trans rfl
                  have hcz21_1 : wc.cell? ⟨gb1063, 1, none⟩ = some (.int .i64 a0_1) := (blk_cell BK1063.out 1).trans rfl
                  have hcz21_2 : wc.cell? ⟨gb1063, 2, none⟩ = some (.int .i64 a0_2) := (blk_cell BK1063.out 2).trans rfl
                  have hcz21_3 : wc.cell? ⟨gb1063, 3, none⟩ = some (.int .i64 a0_3) := (blk_cell BK1063.out 3).trans rfl
                  have hfz21_0 := blk_frozen BK1063.out 0
                  have hfz21_1 := blk_frozen BK1063.out 1
                  have hfz21_2 := blk_frozen BK1063.out 2
                  have hfz21_3 := blk_frozen BK1063.out 3
                  go_wp2_with (first | ((with_reducible refine gate_dst (N := 30) rfl ?_); refine Kd.R_lit (Kd.int .i64) _ 2 ?hg (N := 30) ?hd (xs := ([a0_1] : List Int)) (inner := [.int .i64 a0_1]) (ok := fun _ => True) (okp := fun _ => True) ?hr ?hp (fun _ hk => hk) trivial (Below.refl _ _) (Nat.le_refl _) (by simp) ?_; (case hd => rfl); (case hg => rfl); (case hr => first | (go_simp; done) | (go_simp; rfl)); (case hp => exact (Reps.one (show Kd.M (Kd.int .i64) _ _ _ a0_1 [.int .i64 a0_1] from rfl) (Reps.none _ _))); intro v1074 w22 ho23 hb hg_ hnew_; clear hg_ hnew_; (first | rw [← Ny1073.out] at ho23 | (simp only [Int.reduceToNat] at ho23; rw [← Ny1073.out] at ho23)); have n0_ := Aside0.mk (Kd.R_lower ho23 (below_size (by repeat (first | (with_reducible first | exact HB.out | apply below_alloc | apply pw_below_drewN | apply below_drew1 | refine below_set ?_ GE1063.out) | exact HB.out)))); have n1_ := Aside0.mk (blk_below (g := gb1063) (o := .cells #[.int .u8 a0_0, .int .i64 a0_1, .int .i64 a0_2, .int .i64 a0_3] 78 (0, 0)) (by (with_reducible repeat (first | refine blk_drewN ?_ _ | refine blk_drew ?_ | refine blk_alloc ?_ _)); exact BK1063.out) hb); have n2_ := Aside0.mk (below_step (by repeat (first | (with_reducible first | exact HB.out | apply below_alloc | apply pw_below_drewN | apply below_drew1 | refine below_set ?_ GE1063.out) | exact HB.out)) hb); clear BK1063; clear HB; have HO1075 := n0_; have BK1063 := n1_; have HB := n2_; clear n0_ n1_ n2_; clear hb ho23))
                  go_ret
                  exact ⟨_, by first | rfl | (simp [errW_none, errW_some] <;> rfl) | (simp [*, errW_none, errW_some] <;> rfl), by (with_reducible repeat (first | apply Kd.R_alloc | apply Kd.R_drewN | apply Kd.R_drew)); exact HO1075.out, by repeat (first | (with_reducible first | exact HB.out | apply below_alloc | apply pw_below_drewN | apply below_drew1 | refine below_set ?_ GE1063.out) | exact HB.out)⟩
                · rw [if_neg c20] at H
                  have c20b0 : (a0_0 == 3) = false := beq_eq_false_iff_ne.mpr c20
                  have c20b1 : (a0_0 != 3) = true := bne_iff_ne.mpr c20
                  by_cases c24 : a0_0 = 4
                  · rw [if_pos c24] at H
                    have c24b0 : (a0_0 == 4) = true := beq_iff_eq.mpr c24
                    have c24b1 : (a0_0 != 4) = false := bne_eq_false_iff_eq.mpr c24
                    clear c24
                    obtain ⟨y1076, hy1076⟩ : ∃ y_ : List Int, y_ = (([a0_1] : List Int)) := ⟨_, rfl⟩
                    replace H : (some y1076) = some r := by first | (rw [hy1076]; with_reducible exact H) | (have H2_ := (Option.bind_some _ _).symm.trans H; rw [hy1076]; with_reducible exact H2_) | (have H2_ := (Option.bind_some _ _).symm.trans H; with_reducible exact H2_) | with_reducible exact H | (rw [hy1076]; exact H) | exact H
                    have Ny1076 := Aside0.mk hy1076
                    clear hy1076
                    obtain rfl := Option.some.inj H
                    have hcz25_0 : wc.cell? ⟨gb1063, 0, none⟩ = some (.int .u8 a0_0) := (blk_cell BK1063.out 0).trans rfl
                    have hcz25_1 : wc.cell? ⟨gb1063, 1, none⟩ = some (.int .i64 a0_1) := (blk_cell BK1063.out 1).trans rfl
                    have hcz25_2 : wc.cell? ⟨gb1063, 2, none⟩ = some (.int .i64 a0_2) := (blk_cell BK1063.out 2).trans rfl
                    have hcz25_3 : wc.cell? ⟨gb1063, 3, none⟩ = some (.int .i64 a0_3) := (blk_cell BK1063.out 3).trans rfl
                    have hfz25_0 := blk_frozen BK1063.out 0
                    have hfz25_1 := blk_frozen BK1063.out 1
                    have hfz25_2 := blk_frozen BK1063.out 2
                    have hfz25_3 := blk_frozen BK1063.out 3
                    go_wp2_with (first | ((with_reducible refine gate_dst (N := 30) rfl ?_); refine Kd.R_lit (Kd.int .i64) _ 2 ?hg (N := 30) ?hd (xs := ([a0_1] : List Int)) (inner := [.int .i64 a0_1]) (ok := fun _ => True) (okp := fun _ => True) ?hr ?hp (fun _ hk => hk) trivial (Below.refl _ _) (Nat.le_refl _) (by simp) ?_; (case hd => rfl); (case hg => rfl); (case hr => first | (go_simp; done) | (go_simp; rfl)); (case hp => exact (Reps.one (show Kd.M (Kd.int .i64) _ _ _ a0_1 [.int .i64 a0_1] from rfl) (Reps.none _ _))); intro v1077 w26 ho27 hb hg_ hnew_; clear hg_ hnew_; (first | rw [← Ny1076.out] at ho27 | (simp only [Int.reduceToNat] at ho27; rw [← Ny1076.out] at ho27)); have n0_ := Aside0.mk (Kd.R_lower ho27 (below_size (by repeat (first | (with_reducible first | exact HB.out | apply below_alloc | apply pw_below_drewN | apply below_drew1 | refine below_set ?_ GE1063.out) | exact HB.out)))); have n1_ := Aside0.mk (blk_below (g := gb1063) (o := .cells #[.int .u8 a0_0, .int .i64 a0_1, .int .i64 a0_2, .int .i64 a0_3] 78 (0, 0)) (by (with_reducible repeat (first | refine blk_drewN ?_ _ | refine blk_drew ?_ | refine blk_alloc ?_ _)); exact BK1063.out) hb); have n2_ := Aside0.mk (below_step (by repeat (first | (with_reducible first | exact HB.out | apply below_alloc | apply pw_below_drewN | apply below_drew1 | refine below_set ?_ GE1063.out) | exact HB.out)) hb); clear BK1063; clear HB; have HO1078 := n0_; have BK1063 := n1_; have HB := n2_; clear n0_ n1_ n2_; clear hb ho27))
                    go_ret
                    exact ⟨_, by first | rfl | (simp [errW_none, errW_some] <;> rfl) | (simp [*, errW_none, errW_some] <;> rfl), by (with_reducible repeat (first | apply Kd.R_alloc | apply Kd.R_drewN | apply Kd.R_drew)); exact HO1078.out, by repeat (first | (with_reducible first | exact HB.out | apply below_alloc | apply pw_below_drewN | apply below_drew1 | refine below_set ?_ GE1063.out) | exact HB.out)⟩
                  · rw [if_neg c24] at H
                    have c24b0 : (a0_0 == 4) = false := beq_eq_false_iff_ne.mpr c24
                    have c24b1 : (a0_0 != 4) = true := bne_iff_ne.mpr c24
                    by_cases c28 : a0_0 = 5
                    · rw [if_pos c28] at H
                      have c28b0 : (a0_0 == 5) = true := beq_iff_eq.mpr c28
                      have c28b1 : (a0_0 != 5) = false := bne_eq_false_iff_eq.mpr c28
                      clear c28
                      obtain ⟨y1079, hy1079⟩ : ∃ y_ : List Int, y_ = (([a0_1] : List Int)) := ⟨_, rfl⟩
                      replace H : (some y1079) = some r := by first | (rw [hy1079]; with_reducible exact H) | (have H2_ := (Option.bind_some _ _).symm.trans H; rw [hy1079]; with_reducible exact H2_) | (have H2_ := (Option.bind_some _ _).symm.trans H; with_reducible exact H2_) | with_reducible exact H | (rw [hy1079]; exact H) | exact H
                      have Ny1079 := Aside0.mk hy1079
                      clear hy1079
                      obtain rfl := Option.some.inj H
                      have hcz29_0 : wc.cell? ⟨gb1063, 0, none⟩ = some (.int .u8 a0_0) := (blk_cell BK1063.out 0).trans rfl
                      have hcz29_1 : wc.cell? ⟨gb1063, 1, none⟩ = some (.int .i64 a0_1) := (blk_cell BK1063.out 1).trans rfl
                      have hcz29_2 : wc.cell? ⟨gb1063, 2, none⟩ = some (.int .i64 a0_2) := (blk_cell BK1063.out 2).trans rfl
                      have hcz29_3 : wc.cell? ⟨gb1063, 3, none⟩ = some (.int .i64 a0_3) := (blk_cell BK1063.out 3).trans rfl
                      have hfz29_0 := blk_frozen BK1063.out 0
                      have hfz29_1 := blk_frozen BK1063.out 1
                      have hfz29_2 := blk_frozen BK1063.out 2
                      have hfz29_3 := blk_frozen BK1063.out 3
                      go_wp2_with (first | ((with_reducible refine gate_dst (N := 30) rfl ?_); refine Kd.R_lit (Kd.int .i64) _ 2 ?hg (N := 30) ?hd (xs := ([a0_1] : List Int)) (inner := [.int .i64 a0_1]) (ok := fun _ => True) (okp := fun _ => True) ?hr ?hp (fun _ hk => hk) trivial (Below.refl _ _) (Nat.le_refl _) (by simp) ?_; (case hd => rfl); (case hg => rfl); (case hr => first | (go_simp; done) | (go_simp; rfl)); (case hp => exact (Reps.one (show Kd.M (Kd.int .i64) _ _ _ a0_1 [.int .i64 a0_1] from rfl) (Reps.none _ _))); intro v1080 w30 ho31 hb hg_ hnew_; clear hg_ hnew_; (first | rw [← Ny1079.out] at ho31 | (simp only [Int.reduceToNat] at ho31; rw [← Ny1079.out] at ho31)); have n0_ := Aside0.mk (Kd.R_lower ho31 (below_size (by repeat (first | (with_reducible first | exact HB.out | apply below_alloc | apply pw_below_drewN | apply below_drew1 | refine below_set ?_ GE1063.out) | exact HB.out)))); have n1_ := Aside0.mk (blk_below (g := gb1063) (o := .cells #[.int .u8 a0_0, .int .i64 a0_1, .int .i64 a0_2, .int .i64 a0_3] 78 (0, 0)) (by (with_reducible repeat (first | refine blk_drewN ?_ _ | refine blk_drew ?_ | refine blk_alloc ?_ _)); exact BK1063.out) hb); have n2_ := Aside0.mk (below_step (by repeat (first | (with_reducible first | exact HB.out | apply below_alloc | apply pw_below_drewN | apply below_drew1 | refine below_set ?_ GE1063.out) | exact HB.out)) hb); clear BK1063; clear HB; have HO1081 := n0_; have BK1063 := n1_; have HB := n2_; clear n0_ n1_ n2_; clear hb ho31))
                      go_ret
                      exact ⟨_, by first | rfl | (simp [errW_none, errW_some] <;> rfl) | (simp [*, errW_none, errW_some] <;> rfl), by (with_reducible repeat (first | apply Kd.R_alloc | apply Kd.R_drewN | apply Kd.R_drew)); exact HO1081.out, by repeat (first | (with_reducible first | exact HB.out | apply below_alloc | apply pw_below_drewN | apply below_drew1 | refine below_set ?_ GE1063.out) | exact HB.out)⟩
                    · rw [if_neg c28] at H
                      have c28b0 : (a0_0 == 5) = false := beq_eq_false_iff_ne.mpr c28
                      have c28b1 : (a0_0 != 5) = true := bne_iff_ne.mpr c28
                      by_cases c32 : a0_0 = 8
                      · rw [if_pos c32] at H
                        have c32b0 : (a0_0 == 8) = true := beq_iff_eq.mpr c32
                        have c32b1 : (a0_0 != 8) = false := bne_eq_false_iff_eq.mpr c32
                        clear c32
                        obtain ⟨y1082, hy1082⟩ : ∃ y_ : List Int, y_ = (([a0_1] : List Int)) := ⟨_, rfl⟩
                        replace H : (some y1082) = some r := by first | (rw [hy1082]; with_reducible exact H) | (have H2_ := (Option.bind_some _ _).symm.trans H; rw [hy1082]; with_reducible exact H2_) | (have H2_ := (Option.bind_some _ _).symm.trans H; with_reducible exact H2_) | with_reducible exact H | (rw [hy1082]; exact H) | exact H
                        have Ny1082 := Aside0.mk hy1082
                        clear hy1082
                        obtain rfl := Option.some.inj H
                        have hcz33_0 : wc.cell? ⟨gb1063, 0, none⟩ = some (.int .u8 a0_0) := (blk_cell BK1063.out 0).trans rfl
                        have hcz33_1 : wc.cell? ⟨gb1063, 1, none⟩ = some (.int .i64 a0_1) := (blk_cell BK1063.out 1).trans rfl
                        have hcz33_2 : wc.cell? ⟨gb1063, 2, none⟩ = some (.int .i64 a0_2) := (blk_cell BK1063.out 2).trans rfl
                        have hcz33_3 : wc.cell? ⟨gb1063, 3, none⟩ = some (.int .i64 a0_3) := (blk_cell BK1063.out 3).trans rfl
                        have hfz33_0 := blk_frozen BK1063.out 0
                        have hfz33_1 := blk_frozen BK1063.out 1
                        have hfz33_2 := blk_frozen BK1063.out 2
                        have hfz33_3 := blk_frozen BK1063.out 3
                        go_wp2_with (first | ((with_reducible refine gate_dst (N := 30) rfl ?_); refine Kd.R_lit (Kd.int .i64) _ 2 ?hg (N := 30) ?hd (xs := ([a0_1] : List Int)) (inner := [.int .i64 a0_1]) (ok := fun _ => True) (okp := fun _ => True) ?hr ?hp (fun _ hk => hk) trivial (Below.refl _ _) (Nat.le_refl _) (by simp) ?_; (case hd => rfl); (case hg => rfl); (case hr => first | (go_simp; done) | (go_simp; rfl)); (case hp => exact (Reps.one (show Kd.M (Kd.int .i64) _ _ _ a0_1 [.int .i64 a0_1] from rfl) (Reps.none _ _))); intro v1083 w34 ho35 hb hg_ hnew_; clear hg_ hnew_; (first | rw [← Ny1082.out] at ho35 | (simp only [Int.reduceToNat] at ho35; rw [← Ny1082.out] at ho35)); have n0_ := Aside0.mk (Kd.R_lower ho35 (below_size (by repeat (first | (with_reducible first | exact HB.out | apply below_alloc | apply pw_below_drewN | apply below_drew1 | refine below_set ?_ GE1063.out) | exact HB.out)))); have n1_ := Aside0.mk (blk_below (g := gb1063) (o := .cells #[.int .u8 a0_0, .int .i64 a0_1, .int .i64 a0_2, .int .i64 a0_3] 78 (0, 0)) (by (with_reducible repeat (first | refine blk_drewN ?_ _ | refine blk_drew ?_ | refine blk_alloc ?_ _)); exact BK1063.out) hb); have n2_ := Aside0.mk (below_step (by repeat (first | (with_reducible first | exact HB.out | apply below_alloc | apply pw_below_drewN | apply below_drew1 | refine below_set ?_ GE1063.out) | exact HB.out)) hb); clear BK1063; clear HB; have HO1084 := n0_; have BK1063 := n1_; have HB := n2_; clear n0_ n1_ n2_; clear hb ho35))
                        go_ret
                        exact ⟨_, by first | rfl | (simp [errW_none, errW_some] <;> rfl) | (simp [*, errW_none, errW_some] <;> rfl), by (with_reducible repeat (first | apply Kd.R_alloc | apply Kd.R_drewN | apply Kd.R_drew)); exact HO1084.out, by repeat (first | (with_reducible first | exact HB.out | apply below_alloc | apply pw_below_drewN | apply below_drew1 | refine below_set ?_ GE1063.out) | exact HB.out)⟩
                      · rw [if_neg c32] at H
                        have c32b0 : (a0_0 == 8) = false := beq_eq_false_iff_ne.mpr c32
                        have c32b1 : (a0_0 != 8) = true := bne_iff_ne.mpr c32
                        by_cases c36 : a0_0 = 9
                        · rw [if_pos c36] at H
                          have c36b0 : (a0_0 == 9) = true := beq_iff_eq.mpr c36
                          have c36b1 : (a0_0 != 9) = false := bne_eq_false_iff_eq.mpr c36
                          clear c36
                          obtain ⟨y1085, hy1085⟩ : ∃ y_ : List Int, y_ = (([a0_1] : List Int)) := ⟨_, rfl⟩
                          replace H : (some y1085) = some r := by first | (rw [hy1085]; with_reducible exact H) | (have H2_ := (Option.bind_some _ _).symm.trans H; rw [hy1085]; with_reducible exact H2_) | (have H2_ := (Option.bind_some _ _).symm.trans H; with_reducible exact H2_) | with_reducible exact H | (rw [hy1085]; exact H) | exact H
                          have Ny1085 := Aside0.mk hy1085
                          clear hy1085
                          obtain rfl := Option.some.inj H
                          have hcz37_0 : wc.cell? ⟨gb1063, 0, none⟩ = some (.int .u8 a0_0) := (blk_cell BK1063.out 0).trans rfl
                          have hcz37_1 : wc.cell? ⟨gb1063, 1, none⟩ = some (.int .i64 a0_1) := (blk_cell BK1063.out 1).trans rfl
                          have hcz37_2 : wc.cell? ⟨gb1063, 2, none⟩ = some (.int .i64 a0_2) := (blk_cell BK1063.out 2).trans rfl
                          have hcz37_3 : wc.cell? ⟨gb1063, 3, none⟩ = some (.int .i64 a0_3) := (blk_cell BK1063.out 3).trans rfl
                          have hfz37_0 := blk_frozen BK1063.out 0
                          have hfz37_1 := blk_frozen BK1063.out 1
                          have hfz37_2 := blk_frozen BK1063.out 2
                          have hfz37_3 := blk_frozen BK1063.out 3
                          go_wp2_with (first | ((with_reducible refine gate_dst (N := 30) rfl ?_); refine Kd.R_lit (Kd.int .i64) _ 2 ?hg (N := 30) ?hd (xs := ([a0_1] : List Int)) (inner := [.int .i64 a0_1]) (ok := fun _ => True) (okp := fun _ => True) ?hr ?hp (fun _ hk => hk) trivial (Below.refl _ _) (Nat.le_refl _) (by simp) ?_; (case hd => rfl); (case hg => rfl); (case hr => first | (go_simp; done) | (go_simp; rfl)); (case hp => exact (Reps.one (show Kd.M (Kd.int .i64) _ _ _ a0_1 [.int .i64 a0_1] from rfl) (Reps.none _ _))); intro v1086 w38 ho39 hb hg_ hnew_; clear hg_ hnew_; (first | rw [← Ny1085.out] at ho39 | (simp only [Int.reduceToNat] at ho39; rw [← Ny1085.out] at ho39)); have n0_ := Aside0.mk (Kd.R_lower ho39 (below_size (by repeat (first | (with_reducible first | exact HB.out | apply below_alloc | apply pw_below_drewN | apply below_drew1 | refine below_set ?_ GE1063.out) | exact HB.out)))); have n1_ := Aside0.mk (blk_below (g := gb1063) (o := .cells #[.int .u8 a0_0, .int .i64 a0_1, .int .i64 a0_2, .int .i64 a0_3] 78 (0, 0)) (by (with_reducible repeat (first | refine blk_drewN ?_ _ | refine blk_drew ?_ | refine blk_alloc ?_ _)); exact BK1063.out) hb); have n2_ := Aside0.mk (below_step (by repeat (first | (with_reducible first | exact HB.out | apply below_alloc | apply pw_below_drewN | apply below_drew1 | refine below_set ?_ GE1063.out) | exact HB.out)) hb); clear BK1063; clear HB; have HO1087 := n0_; have BK1063 := n1_; have HB := n2_; clear n0_ n1_ n2_; clear hb ho39))
                          go_ret
                          exact ⟨_, by first | rfl | (simp [errW_none, errW_some] <;> rfl) | (simp [*, errW_none, errW_some] <;> rfl), by (with_reducible repeat (first | apply Kd.R_alloc | apply Kd.R_drewN | apply Kd.R_drew)); exact HO1087.out, by repeat (first | (with_reducible first | exact HB.out | apply below_alloc | apply pw_below_drewN | apply below_drew1 | refine below_set ?_ GE1063.out) | exact HB.out)⟩
                        · rw [if_neg c36] at H
                          have c36b0 : (a0_0 == 9) = false := beq_eq_false_iff_ne.mpr c36
                          have c36b1 : (a0_0 != 9) = true := bne_iff_ne.mpr c36
                          obtain rfl := Option.some.inj H
                          go_wp2
                          go_ret
                          exact ⟨_, by first | rfl | (simp [errW_none, errW_some] <;> rfl) | (simp [*, errW_none, errW_some] <;> rfl), by first | exact Kd.R_nil _ _ _ _ _ | exact Kd.N_nil _ _ _ _ _ | exact Kd.V_nil _ _ _ _ _ | exact Kd.Q_nil _ _ _ _ _ | exact Kd.S_nil _ _ _ _ _, by repeat (first | (with_reducible first | exact HB.out | apply below_alloc | apply pw_below_drewN | apply below_drew1 | refine below_set ?_ GE1063.out) | exact HB.out)⟩

/-! ### boscagelaw18_Many: function 80 -/
mutual
def boscagelaw18_Many.j0 : Nat → Int → Bool → Option (Int)
  | 0, _, _ => none
  | k + 1, x3, x4 => if x4 = true then (some 0) else (if x3 = 0 then (boscagelaw18_Many.j1 k x3 (x3 == 0)) else (if x3 = 3 then (boscagelaw18_Many.j1 k x3 (x3 == 3)) else (if x3 = 4 then (boscagelaw18_Many.j1 k x3 (x3 == 4)) else (if x3 = 5 then (boscagelaw18_Many.j1 k x3 (x3 == 5)) else (if x3 = 8 then (boscagelaw18_Many.j1 k x3 (x3 == 8)) else (boscagelaw18_Many.j1 k x3 (x3 == 9)))))))
def boscagelaw18_Many.j1 : Nat → Int → Bool → Option (Int)
  | 0, _, _ => none
  | k + 1, x3, x7 => if x7 = true then (some 1) else (if x3 = 1 then (some 2) else (if x3 = 2 then (some 2) else (if x3 = 10 then (some 2) else (if x3 = 11 then (some 2) else (some (-1))))))
end
def boscagelaw18_Many.f (k : Nat) (a0 : Int) : Option (Int) := if a0 = 6 then (boscagelaw18_Many.j0 k a0 (a0 == 6)) else (boscagelaw18_Many.j0 k a0 (a0 == 7))
theorem boscagelaw18_Many.mono_l : ∀ k, (∀ y0 y1, LeO (boscagelaw18_Many.j0 k y0 y1) (boscagelaw18_Many.j0 (k + 1) y0 y1)) ∧ (∀ y0 y1, LeO (boscagelaw18_Many.j1 k y0 y1) (boscagelaw18_Many.j1 (k + 1) y0 y1))
  | 0 => ⟨fun _ _ r h => by simp [boscagelaw18_Many.j0] at h, fun _ _ r h => by simp [boscagelaw18_Many.j1] at h⟩
  | k + 1 => by
    obtain ⟨ih0, ih1⟩ := boscagelaw18_Many.mono_l k
    refine ⟨?_, ?_⟩
    · intro y0 y1
      unfold boscagelaw18_Many.j0
      repeat' first
      | (with_reducible exact ih0 _ _)
      | (with_reducible exact ih1 _ _)
      | (with_reducible exact LeO.refl _)
      | (with_reducible exact LeO.none _)
      | (with_reducible refine LeO.ite ?_ ?_)
      | (with_reducible refine LeO.bind ?_ (fun _ => ?_))
      | exact ih0 _ _
      | exact ih1 _ _
      | exact LeO.none _
      | refine LeO.ite ?_ ?_
      | refine LeO.bind ?_ (fun _ => ?_)
    · intro y0 y1
      unfold boscagelaw18_Many.j1
      repeat' first
      | (with_reducible exact ih0 _ _)
      | (with_reducible exact ih1 _ _)
      | (with_reducible exact LeO.refl _)
      | (with_reducible exact LeO.none _)
      | (with_reducible refine LeO.ite ?_ ?_)
      | (with_reducible refine LeO.bind ?_ (fun _ => ?_))
      | exact ih0 _ _
      | exact ih1 _ _
      | exact LeO.none _
      | refine LeO.ite ?_ ?_
      | refine LeO.bind ?_ (fun _ => ?_)
theorem boscagelaw18_Many.mono : ∀ a0 k, LeO (boscagelaw18_Many.f k a0) (boscagelaw18_Many.f (k + 1) a0) := by
  intro a0 k
  obtain ⟨ih0, ih1⟩ := boscagelaw18_Many.mono_l k
  unfold boscagelaw18_Many.f
  repeat' first
      | (with_reducible exact ih0 _ _)
      | (with_reducible exact ih1 _ _)
      | (with_reducible exact LeO.refl _)
      | (with_reducible exact LeO.none _)
      | (with_reducible refine LeO.ite ?_ ?_)
      | (with_reducible refine LeO.bind ?_ (fun _ => ?_))
      | exact ih0 _ _
      | exact ih1 _ _
      | exact LeO.none _
      | refine LeO.ite ?_ ?_
      | refine LeO.bind ?_ (fun _ => ?_)
set_option maxHeartbeats 8000000 in
set_option maxRecDepth 100000 in
theorem boscagelaw18_Many.calls (k : Nat) (a0 : Int) (r : Int) (w : World) (h : boscagelaw18_Many.f k a0 = some r) :
    Calls Try.prog 80 #[.int .u8 a0] w fun e w' => e = .returned (.int .i64 r) ∧ Drawn0 w w' := by
  have H : (if a0 = 6 then (boscagelaw18_Many.j0 k a0 (a0 == 6)) else (boscagelaw18_Many.j0 k a0 (a0 == 7))) = some r := h
  clear h
  have HC2 := Aside0.mk H
  clear H
  go_enter Try.func80, Try.ntmps80
  go_upto_if 4 with (fail)
  go_cut [4] (fun v4 wc => ∃ (kq : Nat) (x4_1 : Bool), v4 = .bool x4_1 ∧ Aside0 (boscagelaw18_Many.j0 kq a0 x4_1 = some r) ∧ Aside0 (kq ≤ k) ∧ Drawn0 w wc)
  case first =>
    have H := HC2.out
    clear HC2
    by_cases c3 : a0 = 6
    · rw [if_pos c3] at H
      have c3b0 : (a0 == 6) = true := beq_iff_eq.mpr c3
      have c3b1 : (a0 != 6) = false := bne_eq_false_iff_eq.mpr c3
      clear c3
      (first | rw [c3b0] | (simp only [i64_w, i32_w]; rw [c3b0]) | skip)
      have H' := Aside0.mk H
      clear H
      go_wp2
      go_meet
      case rel => exact ⟨_, ((a0 == 6)), (by first | rfl | (simp; done) | (simp [*]; done)), H', ⟨by first | omega | exact Nat.le_refl _⟩, by repeat (first | exact Drawn0.refl _ | apply Drawn0.step)⟩
    · rw [if_neg c3] at H
      have c3b0 : (a0 == 6) = false := beq_eq_false_iff_ne.mpr c3
      have c3b1 : (a0 != 6) = true := bne_iff_ne.mpr c3
      (first | rw [c3b0] | (simp only [i64_w, i32_w]; rw [c3b0]) | skip)
      have H' := Aside0.mk H
      clear H
      go_wp2
      go_meet
      case rel => exact ⟨_, ((a0 == 7)), (by first | rfl | (simp; done) | (simp [*]; done)), H', ⟨by first | omega | exact Nat.le_refl _⟩, by repeat (first | exact Drawn0.refl _ | apply Drawn0.step)⟩
  case rest =>
    clear HC2
    try clear p2
    try clear c3
    try clear c3b0
    try clear c3b1
    obtain ⟨kq, x4_1, rfl, HA, HJ1, ⟨mc1, rfl⟩⟩ := hcut
    cases kq with
    | zero => exact absurd HA.out (by simp [boscagelaw18_Many.j0])
    | succ kj1 =>
      have H := HA.out
      clear HA
      simp only [boscagelaw18_Many.j0] at H
      by_cases c4 : x4_1 = true
      · subst c4
        have H1 : (some 0) = some r := by rw [if_pos rfl] at H; exact H
        clear H
        have H := H1
        clear H1
        obtain rfl := Option.some.inj H
        go_wp2
        go_ret
        exact ⟨by first | rfl | (simp; done) | (simp [*]; done), by repeat (first | exact Drawn0.refl _ | apply Drawn0.step)⟩
      · replace c4 := Bool.eq_false_iff.mpr c4
        subst c4
        have H1 : (if a0 = 0 then (boscagelaw18_Many.j1 kj1 a0 (a0 == 0)) else (if a0 = 3 then (boscagelaw18_Many.j1 kj1 a0 (a0 == 3)) else (if a0 = 4 then (boscagelaw18_Many.j1 kj1 a0 (a0 == 4)) else (if a0 = 5 then (boscagelaw18_Many.j1 kj1 a0 (a0 == 5)) else (if a0 = 8 then (boscagelaw18_Many.j1 kj1 a0 (a0 == 8)) else (boscagelaw18_Many.j1 kj1 a0 (a0 == 9))))))) = some r := by rw [if_neg (show ¬ (false = true) by decide)] at H; exact H
        clear H
        have H := H1
        clear H1
        have HC5 := Aside0.mk H
        clear H
        go_upto_if 7 with (fail)
        go_cut [7] (fun v7 wc => ∃ (kq : Nat) (x7_4 : Bool), v7 = .bool x7_4 ∧ Aside0 (boscagelaw18_Many.j1 kq a0 x7_4 = some r) ∧ Aside0 (kq ≤ kj1) ∧ Drawn0 w wc)
        case first =>
          have H := HC5.out
          clear HC5
          by_cases c6 : a0 = 0
          · rw [if_pos c6] at H
            have c6b0 : (a0 == 0) = true := beq_iff_eq.mpr c6
            have c6b1 : (a0 != 0) = false := bne_eq_false_iff_eq.mpr c6
            clear c6
            (first | rw [c6b0] | (simp only [i64_w, i32_w]; rw [c6b0]) | skip)
            have H' := Aside0.mk H
            clear H
            go_wp2
            go_meet
            case rel => exact ⟨_, ((a0 == 0)), (by first | rfl | (simp; done) | (simp [*]; done)), H', ⟨by have := HJ1.out; first | omega | exact Nat.le_refl _⟩, by repeat (first | exact Drawn0.refl _ | apply Drawn0.step)⟩
          · rw [if_neg c6] at H
            have c6b0 : (a0 == 0) = false := beq_eq_false_iff_ne.mpr c6
            have c6b1 : (a0 != 0) = true := bne_iff_ne.mpr c6
            (first | rw [c6b0] | (simp only [i64_w, i32_w]; rw [c6b0]) | skip)
            by_cases c7 : a0 = 3
            · rw [if_pos c7] at H
              have c7b0 : (a0 == 3) = true := beq_iff_eq.mpr c7
              have c7b1 : (a0 != 3) = false := bne_eq_false_iff_eq.mpr c7
              clear c7
              have H' := Aside0.mk H
              clear H
              go_wp2
              go_meet
              case rel => exact ⟨_, ((a0 == 3)), (by first | rfl | (simp; done) | (simp [*]; done)), H', ⟨by have := HJ1.out; first | omega | exact Nat.le_refl _⟩, by repeat (first | exact Drawn0.refl _ | apply Drawn0.step)⟩
            · rw [if_neg c7] at H
              have c7b0 : (a0 == 3) = false := beq_eq_false_iff_ne.mpr c7
              have c7b1 : (a0 != 3) = true := bne_iff_ne.mpr c7
              by_cases c8 : a0 = 4
              · rw [if_pos c8] at H
                have c8b0 : (a0 == 4) = true := beq_iff_eq.mpr c8
                have c8b1 : (a0 != 4) = false := bne_eq_false_iff_eq.mpr c8
                clear c8
                have H' := Aside0.mk H
                clear H
                go_wp2
                go_meet
                case rel => exact ⟨_, ((a0 == 4)), (by first | rfl | (simp; done) | (simp [*]; done)), H', ⟨by have := HJ1.out; first | omega | exact Nat.le_refl _⟩, by repeat (first | exact Drawn0.refl _ | apply Drawn0.step)⟩
              · rw [if_neg c8] at H
                have c8b0 : (a0 == 4) = false := beq_eq_false_iff_ne.mpr c8
                have c8b1 : (a0 != 4) = true := bne_iff_ne.mpr c8
                by_cases c9 : a0 = 5
                · rw [if_pos c9] at H
                  have c9b0 : (a0 == 5) = true := beq_iff_eq.mpr c9
                  have c9b1 : (a0 != 5) = false := bne_eq_false_iff_eq.mpr c9
                  clear c9
                  have H' := Aside0.mk H
                  clear H
                  go_wp2
                  go_meet
                  case rel => exact ⟨_, ((a0 == 5)), (by first | rfl | (simp; done) | (simp [*]; done)), H', ⟨by have := HJ1.out; first | omega | exact Nat.le_refl _⟩, by repeat (first | exact Drawn0.refl _ | apply Drawn0.step)⟩
                · rw [if_neg c9] at H
                  have c9b0 : (a0 == 5) = false := beq_eq_false_iff_ne.mpr c9
                  have c9b1 : (a0 != 5) = true := bne_iff_ne.mpr c9
                  by_cases c10 : a0 = 8
                  · rw [if_pos c10] at H
                    have c10b0 : (a0 == 8) = true := beq_iff_eq.mpr c10
                    have c10b1 : (a0 != 8) = false := bne_eq_false_iff_eq.mpr c10
                    clear c10
                    have H' := Aside0.mk H
                    clear H
                    go_wp2
                    go_meet
                    case rel => exact ⟨_, ((a0 == 8)), (by first | rfl | (simp; done) | (simp [*]; done)), H', ⟨by have := HJ1.out; first | omega | exact Nat.le_refl _⟩, by repeat (first | exact Drawn0.refl _ | apply Drawn0.step)⟩
                  · rw [if_neg c10] at H
                    have c10b0 : (a0 == 8) = false := beq_eq_false_iff_ne.mpr c10
                    have c10b1 : (a0 != 8) = true := bne_iff_ne.mpr c10
                    have H' := Aside0.mk H
                    clear H
                    go_wp2
                    go_meet
                    case rel => exact ⟨_, ((a0 == 9)), (by first | rfl | (simp; done) | (simp [*]; done)), H', ⟨by have := HJ1.out; first | omega | exact Nat.le_refl _⟩, by repeat (first | exact Drawn0.refl _ | apply Drawn0.step)⟩
        case rest =>
          clear HC5
          try clear c1
          try clear p2
          try clear c3
          try clear c3b0
          try clear c3b1
          try clear c4
          try clear c6
          try clear c6b0
          try clear c6b1
          try clear c7
          try clear c7b0
          try clear c7b1
          try clear c8
          try clear c8b0
          try clear c8b1
          try clear c9
          try clear c9b0
          try clear c9b1
          try clear c10
          try clear c10b0
          try clear c10b1
          try clear p2
          obtain ⟨kq, x7_4, rfl, HA, HJ4, ⟨mc4, rfl⟩⟩ := hcut
          cases kq with
          | zero => exact absurd HA.out (by simp [boscagelaw18_Many.j1])
          | succ kj4 =>
            have H := HA.out
            clear HA
            simp only [boscagelaw18_Many.j1] at H
            by_cases c11 : x7_4 = true
            · subst c11
              have H1 : (some 1) = some r := by rw [if_pos rfl] at H; exact H
              clear H
              have H := H1
              clear H1
              obtain rfl := Option.some.inj H
              go_wp2
              go_ret
              exact ⟨by first | rfl | (simp; done) | (simp [*]; done), by repeat (first | exact Drawn0.refl _ | apply Drawn0.step)⟩
            · replace c11 := Bool.eq_false_iff.mpr c11
              subst c11
              have H1 : (if a0 = 1 then (some 2) else (if a0 = 2 then (some 2) else (if a0 = 10 then (some 2) else (if a0 = 11 then (some 2) else (some (-1)))))) = some r := by rw [if_neg (show ¬ (false = true) by decide)] at H; exact H
              clear H
              have H := H1
              clear H1
              by_cases c12 : a0 = 1
              · rw [if_pos c12] at H
                have c12b0 : (a0 == 1) = true := beq_iff_eq.mpr c12
                have c12b1 : (a0 != 1) = false := bne_eq_false_iff_eq.mpr c12
                clear c12
                obtain rfl := Option.some.inj H
                go_wp2
                go_ret
                exact ⟨by first | rfl | (simp; done) | (simp [*]; done), by repeat (first | exact Drawn0.refl _ | apply Drawn0.step)⟩
              · rw [if_neg c12] at H
                have c12b0 : (a0 == 1) = false := beq_eq_false_iff_ne.mpr c12
                have c12b1 : (a0 != 1) = true := bne_iff_ne.mpr c12
                by_cases c13 : a0 = 2
                · rw [if_pos c13] at H
                  have c13b0 : (a0 == 2) = true := beq_iff_eq.mpr c13
                  have c13b1 : (a0 != 2) = false := bne_eq_false_iff_eq.mpr c13
                  clear c13
                  obtain rfl := Option.some.inj H
                  go_wp2
                  go_ret
                  exact ⟨by first | rfl | (simp; done) | (simp [*]; done), by repeat (first | exact Drawn0.refl _ | apply Drawn0.step)⟩
                · rw [if_neg c13] at H
                  have c13b0 : (a0 == 2) = false := beq_eq_false_iff_ne.mpr c13
                  have c13b1 : (a0 != 2) = true := bne_iff_ne.mpr c13
                  by_cases c14 : a0 = 10
                  · rw [if_pos c14] at H
                    have c14b0 : (a0 == 10) = true := beq_iff_eq.mpr c14
                    have c14b1 : (a0 != 10) = false := bne_eq_false_iff_eq.mpr c14
                    clear c14
                    obtain rfl := Option.some.inj H
                    go_wp2
                    go_ret
                    exact ⟨by first | rfl | (simp; done) | (simp [*]; done), by repeat (first | exact Drawn0.refl _ | apply Drawn0.step)⟩
                  · rw [if_neg c14] at H
                    have c14b0 : (a0 == 10) = false := beq_eq_false_iff_ne.mpr c14
                    have c14b1 : (a0 != 10) = true := bne_iff_ne.mpr c14
                    by_cases c15 : a0 = 11
                    · rw [if_pos c15] at H
                      have c15b0 : (a0 == 11) = true := beq_iff_eq.mpr c15
                      have c15b1 : (a0 != 11) = false := bne_eq_false_iff_eq.mpr c15
                      clear c15
                      obtain rfl := Option.some.inj H
                      go_wp2
                      go_ret
                      exact ⟨by first | rfl | (simp; done) | (simp [*]; done), by repeat (first | exact Drawn0.refl _ | apply Drawn0.step)⟩
                    · rw [if_neg c15] at H
                      have c15b0 : (a0 == 11) = false := beq_eq_false_iff_ne.mpr c15
                      have c15b1 : (a0 != 11) = true := bne_iff_ne.mpr c15
                      obtain rfl := Option.some.inj H
                      go_wp2
                      go_ret
                      exact ⟨by first | rfl | (simp; done) | (simp [*]; done), by repeat (first | exact Drawn0.refl _ | apply Drawn0.step)⟩

/-! ### model_Same: function 81 -/
def model_Same.f (k : Nat) (a0_0 : Int) (a0_1 : Bool) (a0_2 : Int) (a0_3 : Int) (l0_4 : List (S40)) (a0_5 : Bool) (a1_0 : Int) (a1_1 : Bool) (a1_2 : Int) (a1_3 : Int) (l1_4 : List (S40)) (a1_5 : Bool) : Option (Bool) := if a0_0 = a1_0 then (if (a0_1 == a1_1) = true then (if a0_2 = a1_2 then (if a0_3 = a1_3 then ((leaf_Pair_115.f k l0_4 l1_4).bind fun t1103 => (some t1103)) else (some false)) else (some false)) else (some false)) else (some false)
theorem model_Same.mono : ∀ a0 a1 a2 a3 a4 a5 a6 a7 a8 a9 a10 a11 k, LeO (model_Same.f k a0 a1 a2 a3 a4 a5 a6 a7 a8 a9 a10 a11) (model_Same.f (k + 1) a0 a1 a2 a3 a4 a5 a6 a7 a8 a9 a10 a11) := by
  intro a0 a1 a2 a3 a4 a5 a6 a7 a8 a9 a10 a11 k
  unfold model_Same.f
  repeat' first
      | (with_reducible exact leaf_Pair_115.mono _ _ _)
      | (with_reducible exact LeO.refl _)
      | (with_reducible exact LeO.none _)
      | (with_reducible refine LeO.ite ?_ ?_)
      | (with_reducible refine LeO.bind ?_ (fun _ => ?_))
      | exact leaf_Pair_115.mono _ _ _
      | exact LeO.none _
      | refine LeO.ite ?_ ?_
      | refine LeO.bind ?_ (fun _ => ?_)
set_option maxHeartbeats 8000000 in
set_option maxRecDepth 100000 in
theorem model_Same.calls (k : Nat) (a0_0 : Int) (a0_1 : Bool) (a0_2 : Int) (a0_3 : Int) (A0_4 : Option Addr) (c0_4 : Nat) (l0_4 : List (S40)) (a0_5 : Bool) (a1_0 : Int) (a1_1 : Bool) (a1_2 : Int) (a1_3 : Int) (A1_4 : Option Addr) (c1_4 : Nat) (l1_4 : List (S40)) (a1_5 : Bool) (r : Bool) (w : World) (hr0_4 : Kd.C k40 w A0_4 l0_4.length l0_4) (hc0_4 : l0_4.length ≤ c0_4) (hr1_4 : Kd.C k40 w A1_4 l1_4.length l1_4) (hc1_4 : l1_4.length ≤ c1_4) (h : model_Same.f k a0_0 a0_1 a0_2 a0_3 l0_4 a0_5 a1_0 a1_1 a1_2 a1_3 l1_4 a1_5 = some r) :
    Calls Try.prog 81 #[.agg #[.int .i64 a0_0, .bool a0_1, .int .i64 a0_2, .int .i64 a0_3, .slice A0_4 l0_4.length c0_4, .bool a0_5], .agg #[.int .i64 a1_0, .bool a1_1, .int .i64 a1_2, .int .i64 a1_3, .slice A1_4 l1_4.length c1_4, .bool a1_5]] w fun e w' => e = .returned (.bool r) ∧ Below w.heap.size w w' := by
  have hu84 := Try.underlying84
  have HR0_4 := Aside0.mk hr0_4
  have HC0_4 := Aside0.mk hc0_4
  clear hr0_4 hc0_4
  have HR1_4 := Aside0.mk hr1_4
  have HC1_4 := Aside0.mk hc1_4
  clear hr1_4 hc1_4
  have HB := Aside0.mk (Below.refl w.heap.size w)
  have H : (if a0_0 = a1_0 then (if (a0_1 == a1_1) = true then (if a0_2 = a1_2 then (if a0_3 = a1_3 then ((leaf_Pair_115.f k l0_4 l1_4).bind fun t1103 => (some t1103)) else (some false)) else (some false)) else (some false)) else (some false)) = some r := h
  clear h
  by_cases c3 : a0_0 = a1_0
  · rw [if_pos c3] at H
    have c3b0 : (a0_0 == a1_0) = true := beq_iff_eq.mpr c3
    have c3b1 : (a0_0 != a1_0) = false := bne_eq_false_iff_eq.mpr c3
    clear c3
    by_cases c4 : (a0_1 == a1_1) = true
    · rw [if_pos c4] at H
      have c4b0 : (a0_1 == a1_1) = true := c4
      (try (have c4b1 : decide (a0_1 = a1_1) = true := by simpa using c4))
      (try (have c4b2 : (a0_1 == a1_1) = true := by simpa using c4))
      clear c4
      by_cases c5 : a0_2 = a1_2
      · rw [if_pos c5] at H
        have c5b0 : (a0_2 == a1_2) = true := beq_iff_eq.mpr c5
        have c5b1 : (a0_2 != a1_2) = false := bne_eq_false_iff_eq.mpr c5
        clear c5
        by_cases c6 : a0_3 = a1_3
        · rw [if_pos c6] at H
          have c6b0 : (a0_3 == a1_3) = true := beq_iff_eq.mpr c6
          have c6b1 : (a0_3 != a1_3) = false := bne_eq_false_iff_eq.mpr c6
          clear c6
          replace H := Option.bind_eq_some_iff.mp H
          obtain ⟨t1103, A70, H⟩ := H
          replace H : (some t1103) = some r := H
          have A7 := Aside0.mk A70
          clear A70
          obtain rfl := Option.some.inj H
          go_enter Try.func81, Try.ntmps81
          go_wp2_with (first | ((with_reducible refine gate_dst (N := 2) rfl ?_); refine box_event ?hg (N := 2) ?hd (cs := #[.int .i64 a0_0, .bool a0_1, .int .i64 a0_2, .int .i64 a0_3, .slice A0_4 l0_4.length c0_4, .bool a0_5]) (t := 84) ?hr ?_; (case hd => rfl); (case hg => rfl); (case hr => first | (go_simp; done) | (go_simp; rfl)); intro gb1101 hg w8 hbox hb; have n0_ := Aside0.mk (below_step (by repeat (first | (with_reducible first | exact HB.out | apply below_alloc | apply pw_below_drewN | apply below_drew1) | exact HB.out)) hb); have n1_ := Aside0.mk (hbox); have n2_ := Aside0.mk ((by rw [hg]; exact (below_size (by repeat (first | (with_reducible first | exact HB.out | apply below_alloc | apply pw_below_drewN | apply below_drew1) | exact HB.out))) : w.heap.size ≤ gb1101)); have n3_ := Aside0.mk ((by rw [hg]; exact (below_size (by repeat (first | (with_reducible first | exact HB.out | apply below_alloc | apply pw_below_drewN | apply below_drew1) | exact HB.out))) : w.heap.size ≤ gb1101)); clear HB; have HB := n0_; have BK1101 := n1_; have GW1101 := n2_; have GE1101 := n3_; clear n0_ n1_ n2_ n3_; clear hb hbox hg) | ((with_reducible refine gate_dst (N := 3) rfl ?_); refine box_event ?hg (N := 3) ?hd (cs := #[.int .i64 a1_0, .bool a1_1, .int .i64 a1_2, .int .i64 a1_3, .slice A1_4 l1_4.length c1_4, .bool a1_5]) (t := 84) ?hr ?_; (case hd => rfl); (case hg => rfl); (case hr => first | (go_simp; done) | (go_simp; rfl)); intro gb1102 hg w9 hbox hb; have n0_ := Aside0.mk (blk_below (g := gb1101) (o := .cells #[.int .i64 a0_0, .bool a0_1, .int .i64 a0_2, .int .i64 a0_3, .slice A0_4 l0_4.length c0_4, .bool a0_5] 84 (0, 0)) (by (with_reducible repeat (first | refine blk_drewN ?_ _ | refine blk_drew ?_ | refine blk_alloc ?_ _)); exact BK1101.out) hb); have n1_ := Aside0.mk (below_step (by repeat (first | (with_reducible first | exact HB.out | apply below_alloc | apply pw_below_drewN | apply below_drew1 | refine below_set ?_ GE1101.out) | exact HB.out)) hb); have n2_ := Aside0.mk (hbox); have n3_ := Aside0.mk ((by rw [hg]; exact (below_size (by repeat (first | (with_reducible first | exact HB.out | apply below_alloc | apply pw_below_drewN | apply below_drew1 | refine below_set ?_ GE1101.out) | exact HB.out))) : w.heap.size ≤ gb1102)); have n4_ := Aside0.mk ((by rw [hg]; exact (below_size (by repeat (first | (with_reducible first | exact HB.out | apply below_alloc | apply pw_below_drewN | apply below_drew1 | refine below_set ?_ GE1101.out) | exact HB.out))) : w.heap.size ≤ gb1102)); have n5_ := Aside0.mk ((by rw [hg]; exact Nat.ne_of_lt (blk_lt (g := gb1101) (o := .cells #[.int .i64 a0_0, .bool a0_1, .int .i64 a0_2, .int .i64 a0_3, .slice A0_4 l0_4.length c0_4, .bool a0_5] 84 (0, 0)) (by (with_reducible repeat (first | refine blk_drewN ?_ _ | refine blk_drew ?_ | refine blk_alloc ?_ _)); exact BK1101.out)) : gb1101 ≠ gb1102)); have n6_ := Aside0.mk ((by rw [hg]; exact Nat.ne_of_gt (blk_lt (g := gb1101) (o := .cells #[.int .i64 a0_0, .bool a0_1, .int .i64 a0_2, .int .i64 a0_3, .slice A0_4 l0_4.length c0_4, .bool a0_5] 84 (0, 0)) (by (with_reducible repeat (first | refine blk_drewN ?_ _ | refine blk_drew ?_ | refine blk_alloc ?_ _)); exact BK1101.out)) : gb1102 ≠ gb1101)); clear BK1101; clear HB; have BK1101 := n0_; have HB := n1_; have BK1102 := n2_; have GW1102 := n3_; have GE1102 := n4_; have NB1101_1102 := n5_; have NB1102_1101 := n6_; clear n0_ n1_ n2_ n3_ n4_ n5_ n6_; clear hb hbox hg; have hnb10 := NB1101_1102.out; have hnc10 := NB1102_1101.out; have hcz11_0 : w9.cell? ⟨gb1101, 0, none⟩ = some (.int .i64 a0_0) := (blk_cell BK1101.out 0).trans rfl; have hcz11_1 : w9.cell? ⟨gb1101, 1, none⟩ = some (.bool a0_1) := (blk_cell BK1101.out 1).trans rfl; have hcz11_2 : w9.cell? ⟨gb1101, 2, none⟩ = some (.int .i64 a0_2) := (blk_cell BK1101.out 2).trans rfl; have hcz11_3 : w9.cell? ⟨gb1101, 3, none⟩ = some (.int .i64 a0_3) := (blk_cell BK1101.out 3).trans rfl; have hcz11_4 : w9.cell? ⟨gb1101, 4, none⟩ = some (.slice A0_4 l0_4.length c0_4) := (blk_cell BK1101.out 4).trans rfl; have hcz11_5 : w9.cell? ⟨gb1101, 5, none⟩ = some (.bool a0_5) := (blk_cell BK1101.out 5).trans rfl; have hfz11_0 := blk_frozen BK1101.out 0; have hfz11_1 := blk_frozen BK1101.out 1; have hfz11_2 := blk_frozen BK1101.out 2; have hfz11_3 := blk_frozen BK1101.out 3; have hfz11_4 := blk_frozen BK1101.out 4; have hfz11_5 := blk_frozen BK1101.out 5; have hcz12_0 : w9.cell? ⟨gb1102, 0, none⟩ = some (.int .i64 a1_0) := (blk_cell BK1102.out 0).trans rfl; have hcz12_1 : w9.cell? ⟨gb1102, 1, none⟩ = some (.bool a1_1) := (blk_cell BK1102.out 1).trans rfl; have hcz12_2 : w9.cell? ⟨gb1102, 2, none⟩ = some (.int .i64 a1_2) := (blk_cell BK1102.out 2).trans rfl; have hcz12_3 : w9.cell? ⟨gb1102, 3, none⟩ = some (.int .i64 a1_3) := (blk_cell BK1102.out 3).trans rfl; have hcz12_4 : w9.cell? ⟨gb1102, 4, none⟩ = some (.slice A1_4 l1_4.length c1_4) := (blk_cell BK1102.out 4).trans rfl; have hcz12_5 : w9.cell? ⟨gb1102, 5, none⟩ = some (.bool a1_5) := (blk_cell BK1102.out 5).trans rfl; have hfz12_0 := blk_frozen BK1102.out 0; have hfz12_1 := blk_frozen BK1102.out 1; have hfz12_2 := blk_frozen BK1102.out 2; have hfz12_3 := blk_frozen BK1102.out 3; have hfz12_4 := blk_frozen BK1102.out 4; have hfz12_5 := blk_frozen BK1102.out 5) | (go_at_call 115; (with_reducible refine (leaf_Pair_115.calls k _ _ l0_4 _ _ l1_4 t1103 _ ?side1 ?side2 ?side3 ?side4 A7.out).mono ?_); (case side1 => repeat (first | exact (Kd.C_below HR0_4.out HB.out) | (with_reducible refine Kd.C_alloc ?_ _) | (with_reducible refine Kd.C_drewN ?_ _) | (with_reducible refine Kd.C_drew ?_))); (case side2 => exact HC0_4.out); (case side3 => repeat (first | exact (Kd.C_below HR1_4.out HB.out) | (with_reducible refine Kd.C_alloc ?_ _) | (with_reducible refine Kd.C_drewN ?_ _) | (with_reducible refine Kd.C_drew ?_))); (case side4 => exact HC1_4.out); rintro e w' ⟨rfl, ⟨nd, rfl⟩⟩))
          go_ret
          exact ⟨by first | rfl | (simp [errW_none, errW_some] <;> rfl) | (simp [*, errW_none, errW_some] <;> rfl), by repeat (first | (with_reducible first | exact HB.out | apply below_alloc | apply pw_below_drewN | apply below_drew1 | refine below_set ?_ GE1101.out | refine below_set ?_ GE1102.out) | exact HB.out)⟩
        · rw [if_neg c6] at H
          have c6b0 : (a0_3 == a1_3) = false := beq_eq_false_iff_ne.mpr c6
          have c6b1 : (a0_3 != a1_3) = true := bne_iff_ne.mpr c6
          obtain rfl := Option.some.inj H
          go_enter Try.func81, Try.ntmps81
          go_wp2_with (first | ((with_reducible refine gate_dst (N := 2) rfl ?_); refine box_event ?hg (N := 2) ?hd (cs := #[.int .i64 a0_0, .bool a0_1, .int .i64 a0_2, .int .i64 a0_3, .slice A0_4 l0_4.length c0_4, .bool a0_5]) (t := 84) ?hr ?_; (case hd => rfl); (case hg => rfl); (case hr => first | (go_simp; done) | (go_simp; rfl)); intro gb1101 hg w13 hbox hb; have n0_ := Aside0.mk (below_step (by repeat (first | (with_reducible first | exact HB.out | apply below_alloc | apply pw_below_drewN | apply below_drew1) | exact HB.out)) hb); have n1_ := Aside0.mk (hbox); have n2_ := Aside0.mk ((by rw [hg]; exact (below_size (by repeat (first | (with_reducible first | exact HB.out | apply below_alloc | apply pw_below_drewN | apply below_drew1) | exact HB.out))) : w.heap.size ≤ gb1101)); have n3_ := Aside0.mk ((by rw [hg]; exact (below_size (by repeat (first | (with_reducible first | exact HB.out | apply below_alloc | apply pw_below_drewN | apply below_drew1) | exact HB.out))) : w.heap.size ≤ gb1101)); clear HB; have HB := n0_; have BK1101 := n1_; have GW1101 := n2_; have GE1101 := n3_; clear n0_ n1_ n2_ n3_; clear hb hbox hg) | ((with_reducible refine gate_dst (N := 3) rfl ?_); refine box_event ?hg (N := 3) ?hd (cs := #[.int .i64 a1_0, .bool a1_1, .int .i64 a1_2, .int .i64 a1_3, .slice A1_4 l1_4.length c1_4, .bool a1_5]) (t := 84) ?hr ?_; (case hd => rfl); (case hg => rfl); (case hr => first | (go_simp; done) | (go_simp; rfl)); intro gb1102 hg w14 hbox hb; have n0_ := Aside0.mk (blk_below (g := gb1101) (o := .cells #[.int .i64 a0_0, .bool a0_1, .int .i64 a0_2, .int .i64 a0_3, .slice A0_4 l0_4.length c0_4, .bool a0_5] 84 (0, 0)) (by (with_reducible repeat (first | refine blk_drewN ?_ _ | refine blk_drew ?_ | refine blk_alloc ?_ _)); exact BK1101.out) hb); have n1_ := Aside0.mk (below_step (by repeat (first | (with_reducible first | exact HB.out | apply below_alloc | apply pw_below_drewN | apply below_drew1 | refine below_set ?_ GE1101.out) | exact HB.out)) hb); have n2_ := Aside0.mk (hbox); have n3_ := Aside0.mk ((by rw [hg]; exact (below_size (by repeat (first | (with_reducible first | exact HB.out | apply below_alloc | apply pw_below_drewN | apply below_drew1 | refine below_set ?_ GE1101.out) | exact HB.out))) : w.heap.size ≤ gb1102)); have n4_ := Aside0.mk ((by rw [hg]; exact (below_size (by repeat (first | (with_reducible first | exact HB.out | apply below_alloc | apply pw_below_drewN | apply below_drew1 | refine below_set ?_ GE1101.out) | exact HB.out))) : w.heap.size ≤ gb1102)); have n5_ := Aside0.mk ((by rw [hg]; exact Nat.ne_of_lt (blk_lt (g := gb1101) (o := .cells #[.int .i64 a0_0, .bool a0_1, .int .i64 a0_2, .int .i64 a0_3, .slice A0_4 l0_4.length c0_4, .bool a0_5] 84 (0, 0)) (by (with_reducible repeat (first | refine blk_drewN ?_ _ | refine blk_drew ?_ | refine blk_alloc ?_ _)); exact BK1101.out)) : gb1101 ≠ gb1102)); have n6_ := Aside0.mk ((by rw [hg]; exact Nat.ne_of_gt (blk_lt (g := gb1101) (o := .cells #[.int .i64 a0_0, .bool a0_1, .int .i64 a0_2, .int .i64 a0_3, .slice A0_4 l0_4.length c0_4, .bool a0_5] 84 (0, 0)) (by (with_reducible repeat (first | refine blk_drewN ?_ _ | refine blk_drew ?_ | refine blk_alloc ?_ _)); exact BK1101.out)) : gb1102 ≠ gb1101)); clear BK1101; clear HB; have BK1101 := n0_; have HB := n1_; have BK1102 := n2_; have GW1102 := n3_; have GE1102 := n4_; have NB1101_1102 := n5_; have NB1102_1101 := n6_; clear n0_ n1_ n2_ n3_ n4_ n5_ n6_; clear hb hbox hg; have hnb15 := NB1101_1102.out; have hnc15 := NB1102_1101.out; have hcz16_0 : w14.cell? ⟨gb1101, 0, none⟩ = some (.int .i64 a0_0) := (blk_cell BK1101.out 0).trans rfl; have hcz16_1 : w14.cell? ⟨gb1101, 1, none⟩ = some (.bool a0_1) := (blk_cell BK1101.out 1).trans rfl; have hcz16_2 : w14.cell? ⟨gb1101, 2, none⟩ = some (.int .i64 a0_2) := (blk_cell BK1101.out 2).trans rfl; have hcz16_3 : w14.cell? ⟨gb1101, 3, none⟩ = some (.int .i64 a0_3) := (blk_cell BK1101.out 3).trans rfl; have hcz16_4 : w14.cell? ⟨gb1101, 4, none⟩ = some (.slice A0_4 l0_4.length c0_4) := (blk_cell BK1101.out 4).trans rfl; have hcz16_5 : w14.cell? ⟨gb1101, 5, none⟩ = some (.bool a0_5) := (blk_cell BK1101.out 5).trans rfl; have hfz16_0 := blk_frozen BK1101.out 0; have hfz16_1 := blk_frozen BK1101.out 1; have hfz16_2 := blk_frozen BK1101.out 2; have hfz16_3 := blk_frozen BK1101.out 3; have hfz16_4 := blk_frozen BK1101.out 4; have hfz16_5 := blk_frozen BK1101.out 5; have hcz17_0 : w14.cell? ⟨gb1102, 0, none⟩ = some (.int .i64 a1_0) := (blk_cell BK1102.out 0).trans rfl; have hcz17_1 : w14.cell? ⟨gb1102, 1, none⟩ = some (.bool a1_1) := (blk_cell BK1102.out 1).trans rfl; have hcz17_2 : w14.cell? ⟨gb1102, 2, none⟩ = some (.int .i64 a1_2) := (blk_cell BK1102.out 2).trans rfl; have hcz17_3 : w14.cell? ⟨gb1102, 3, none⟩ = some (.int .i64 a1_3) := (blk_cell BK1102.out 3).trans rfl; have hcz17_4 : w14.cell? ⟨gb1102, 4, none⟩ = some (.slice A1_4 l1_4.length c1_4) := (blk_cell BK1102.out 4).trans rfl; have hcz17_5 : w14.cell? ⟨gb1102, 5, none⟩ = some (.bool a1_5) := (blk_cell BK1102.out 5).trans rfl; have hfz17_0 := blk_frozen BK1102.out 0; have hfz17_1 := blk_frozen BK1102.out 1; have hfz17_2 := blk_frozen BK1102.out 2; have hfz17_3 := blk_frozen BK1102.out 3; have hfz17_4 := blk_frozen BK1102.out 4; have hfz17_5 := blk_frozen BK1102.out 5))
          go_ret
          exact ⟨by first | rfl | (simp [errW_none, errW_some] <;> rfl) | (simp [*, errW_none, errW_some] <;> rfl), by repeat (first | (with_reducible first | exact HB.out | apply below_alloc | apply pw_below_drewN | apply below_drew1 | refine below_set ?_ GE1101.out | refine below_set ?_ GE1102.out) | exact HB.out)⟩
      · rw [if_neg c5] at H
        have c5b0 : (a0_2 == a1_2) = false := beq_eq_false_iff_ne.mpr c5
        have c5b1 : (a0_2 != a1_2) = true := bne_iff_ne.mpr c5
        obtain rfl := Option.some.inj H
        go_enter Try.func81, Try.ntmps81
        go_wp2_with (first | ((with_reducible refine gate_dst (N := 2) rfl ?_); refine box_event ?hg (N := 2) ?hd (cs := #[.int .i64 a0_0, .bool a0_1, .int .i64 a0_2, .int .i64 a0_3, .slice A0_4 l0_4.length c0_4, .bool a0_5]) (t := 84) ?hr ?_; (case hd => rfl); (case hg => rfl); (case hr => first | (go_simp; done) | (go_simp; rfl)); intro gb1101 hg w18 hbox hb; have n0_ := Aside0.mk (below_step (by repeat (first | (with_reducible first | exact HB.out | apply below_alloc | apply pw_below_drewN | apply below_drew1) | exact HB.out)) hb); have n1_ := Aside0.mk (hbox); have n2_ := Aside0.mk ((by rw [hg]; exact (below_size (by repeat (first | (with_reducible first | exact HB.out | apply below_alloc | apply pw_below_drewN | apply below_drew1) | exact HB.out))) : w.heap.size ≤ gb1101)); have n3_ := Aside0.mk ((by rw [hg]; exact (below_size (by repeat (first | (with_reducible first | exact HB.out | apply below_alloc | apply pw_below_drewN | apply below_drew1) | exact HB.out))) : w.heap.size ≤ gb1101)); clear HB; have HB := n0_; have BK1101 := n1_; have GW1101 := n2_; have GE1101 := n3_; clear n0_ n1_ n2_ n3_; clear hb hbox hg) | ((with_reducible refine gate_dst (N := 3) rfl ?_); refine box_event ?hg (N := 3) ?hd (cs := #[.int .i64 a1_0, .bool a1_1, .int .i64 a1_2, .int .i64 a1_3, .slice A1_4 l1_4.length c1_4, .bool a1_5]) (t := 84) ?hr ?_; (case hd => rfl); (case hg => rfl); (case hr => first | (go_simp; done) | (go_simp; rfl)); intro gb1102 hg w19 hbox hb; have n0_ := Aside0.mk (blk_below (g := gb1101) (o := .cells #[.int .i64 a0_0, .bool a0_1, .int .i64 a0_2, .int .i64 a0_3, .slice A0_4 l0_4.length c0_4, .bool a0_5] 84 (0, 0)) (by (with_reducible repeat (first | refine blk_drewN ?_ _ | refine blk_drew ?_ | refine blk_alloc ?_ _)); exact BK1101.out) hb); have n1_ := Aside0.mk (below_step (by repeat (first | (with_reducible first | exact HB.out | apply below_alloc | apply pw_below_drewN | apply below_drew1 | refine below_set ?_ GE1101.out) | exact HB.out)) hb); have n2_ := Aside0.mk (hbox); have n3_ := Aside0.mk ((by rw [hg]; exact (below_size (by repeat (first | (with_reducible first | exact HB.out | apply below_alloc | apply pw_below_drewN | apply below_drew1 | refine below_set ?_ GE1101.out) | exact HB.out))) : w.heap.size ≤ gb1102)); have n4_ := Aside0.mk ((by rw [hg]; exact (below_size (by repeat (first | (with_reducible first | exact HB.out | apply below_alloc | apply pw_below_drewN | apply below_drew1 | refine below_set ?_ GE1101.out) | exact HB.out))) : w.heap.size ≤ gb1102)); have n5_ := Aside0.mk ((by rw [hg]; exact Nat.ne_of_lt (blk_lt (g := gb1101) (o := .cells #[.int .i64 a0_0, .bool a0_1, .int .i64 a0_2, .int .i64 a0_3, .slice A0_4 l0_4.length c0_4, .bool a0_5] 84 (0, 0)) (by (with_reducible repeat (first | refine blk_drewN ?_ _ | refine blk_drew ?_ | refine blk_alloc ?_ _)); exact BK1101.out)) : gb1101 ≠ gb1102)); have n6_ := Aside0.mk ((by rw [hg]; exact Nat.ne_of_gt (blk_lt (g := gb1101) (o := .cells #[.int .i64 a0_0, .bool a0_1, .int .i64 a0_2, .int .i64 a0_3, .slice A0_4 l0_4.length c0_4, .bool a0_5] 84 (0, 0)) (by (with_reducible repeat (first | refine blk_drewN ?_ _ | refine blk_drew ?_ | refine blk_alloc ?_ _)); exact BK1101.out)) : gb1102 ≠ gb1101)); clear BK1101; clear HB; have BK1101 := n0_; have HB := n1_; have BK1102 := n2_; have GW1102 := n3_; have GE1102 := n4_; have NB1101_1102 := n5_; have NB1102_1101 := n6_; clear n0_ n1_ n2_ n3_ n4_ n5_ n6_; clear hb hbox hg; have hnb20 := NB1101_1102.out; have hnc20 := NB1102_1101.out; have hcz21_0 : w19.cell? ⟨gb1101, 0, none⟩ = some (.int .i64 a0_0) := (blk_cell BK1101.out 0).trans rfl; have hcz21_1 : w19.cell? ⟨gb1101, 1, none⟩ = some (.bool a0_1) := (blk_cell BK1101.out 1).trans rfl; have hcz21_2 : w19.cell? ⟨gb1101, 2, none⟩ = some (.int .i64 a0_2) := (blk_cell BK1101.out 2).trans rfl; have hcz21_3 : w19.cell? ⟨gb1101, 3, none⟩ = some (.int .i64 a0_3) := (blk_cell BK1101.out 3).trans rfl; have hcz21_4 : w19.cell? ⟨gb1101, 4, none⟩ = some (.slice A0_4 l0_4.length c0_4) := (blk_cell BK1101.out 4).trans rfl; have hcz21_5 : w19.cell? ⟨gb1101, 5, none⟩ = some (.bool a0_5) := (blk_cell BK1101.out 5).trans rfl; have hfz21_0 := blk_frozen BK1101.out 0; have hfz21_1 := blk_frozen BK1101.out 1; have hfz21_2 := blk_frozen BK1101.out 2; have hfz21_3 := blk_frozen BK1101.out 3; have hfz21_4 := blk_frozen BK1101.out 4; have hfz21_5 := blk_frozen BK1101.out 5; have hcz22_0 : w19.cell? ⟨gb1102, 0, none⟩ = some (.int .i64 a1_0) := (blk_cell BK1102.out 0).trans rfl; have hcz22_1 : w19.cell? ⟨gb1102, 1, none⟩ = some (.bool a1_1) := (blk_cell BK1102.out 1).trans rfl; have hcz22_2 : w19.cell? ⟨gb1102, 2, none⟩ = some (.int .i64 a1_2) := (blk_cell BK1102.out 2).trans rfl; have hcz22_3 : w19.cell? ⟨gb1102, 3, none⟩ = some (.int .i64 a1_3) := (blk_cell BK1102.out 3).trans rfl; have hcz22_4 : w19.cell? ⟨gb1102, 4, none⟩ = some (.slice A1_4 l1_4.length c1_4) := (blk_cell BK1102.out 4).trans rfl; have hcz22_5 : w19.cell? ⟨gb1102, 5, none⟩ = some (.bool a1_5) := (blk_cell BK1102.out 5).trans rfl; have hfz22_0 := blk_frozen BK1102.out 0; have hfz22_1 := blk_frozen BK1102.out 1; have hfz22_2 := blk_frozen BK1102.out 2; have hfz22_3 := blk_frozen BK1102.out 3; have hfz22_4 := blk_frozen BK1102.out 4; have hfz22_5 := blk_frozen BK1102.out 5))
        go_ret
        exact ⟨by first | rfl | (simp [errW_none, errW_some] <;> rfl) | (simp [*, errW_none, errW_some] <;> rfl), by repeat (first | (with_reducible first | exact HB.out | apply below_alloc | apply pw_below_drewN | apply below_drew1 | refine below_set ?_ GE1101.out | refine below_set ?_ GE1102.out) | exact HB.out)⟩
    · rw [if_neg c4] at H
      have c4b0 : (a0_1 == a1_1) = false := by simpa using c4
      (try (have c4b1 : decide (a0_1 = a1_1) = false := by simpa using c4))
      (try (have c4b2 : (a0_1 == a1_1) = false := by simpa using c4))
      (try (have c4b3 : ¬ (a0_1 = a1_1) := by simpa using c4))
      clear c4
      obtain rfl := Option.some.inj H
      go_enter Try.func81, Try.ntmps81
      go_wp2_with (first | ((with_reducible refine gate_dst (N := 2) rfl ?_); refine box_event ?hg (N := 2) ?hd (cs := #[.int .i64 a0_0, .bool a0_1, .int .i64 a0_2, .int .i64 a0_3, .slice A0_4 l0_4.length c0_4, .bool a0_5]) (t := 84) ?hr ?_; (case hd => rfl); (case hg => rfl); (case hr => first | (go_simp; done) | (go_simp; rfl)); intro gb1101 hg w23 hbox hb; have n0_ := Aside0.mk (below_step (by repeat (first | (with_reducible first | exact HB.out | apply below_alloc | apply pw_below_drewN | apply below_drew1) | exact HB.out)) hb); have n1_ := Aside0.mk (hbox); have n2_ := Aside0.mk ((by rw [hg]; exact (below_size (by repeat (first | (with_reducible first | exact HB.out | apply below_alloc | apply pw_below_drewN | apply below_drew1) | exact HB.out))) : w.heap.size ≤ gb1101)); have n3_ := Aside0.mk ((by rw [hg]; exact (below_size (by repeat (first | (with_reducible first | exact HB.out | apply below_alloc | apply pw_below_drewN | apply below_drew1) | exact HB.out))) : w.heap.size ≤ gb1101)); clear HB; have HB := n0_; have BK1101 := n1_; have GW1101 := n2_; have GE1101 := n3_; clear n0_ n1_ n2_ n3_; clear hb hbox hg) | ((with_reducible refine gate_dst (N := 3) rfl ?_); refine box_event ?hg (N := 3) ?hd (cs := #[.int .i64 a1_0, .bool a1_1, .int .i64 a1_2, .int .i64 a1_3, .slice A1_4 l1_4.length c1_4, .bool a1_5]) (t := 84) ?hr ?_; (case hd => rfl); (case hg => rfl); (case hr => first | (go_simp; done) | (go_simp; rfl)); intro gb1102 hg w24 hbox hb; have n0_ := Aside0.mk (blk_below (g := gb1101) (o := .cells #[.int .i64 a0_0, .bool a0_1, .int .i64 a0_2, .int .i64 a0_3, .slice A0_4 l0_4.length c0_4, .bool a0_5] 84 (0, 0)) (by (with_reducible repeat (first | refine blk_drewN ?_ _ | refine blk_drew ?_ | refine blk_alloc ?_ _)); exact BK1101.out) hb); have n1_ := Aside0.mk (below_step (by repeat (first | (with_reducible first | exact HB.out | apply below_alloc | apply pw_below_drewN | apply below_drew1 | refine below_set ?_ GE1101.out) | exact HB.out)) hb); have n2_ := Aside0.mk (hbox); have n3_ := Aside0.mk ((by rw [hg]; exact (below_size (by repeat (first | (with_reducible first | exact HB.out | apply below_alloc | apply pw_below_drewN | apply below_drew1 | refine below_set ?_ GE1101.out) | exact HB.out))) : w.heap.size ≤ gb1102)); have n4_ := Aside0.mk ((by rw [hg]; exact (below_size (by repeat (first | (with_reducible first | exact HB.out | apply below_alloc | apply pw_below_drewN | apply below_drew1 | refine below_set ?_ GE1101.out) | exact HB.out))) : w.heap.size ≤ gb1102)); have n5_ := Aside0.mk ((by rw [hg]; exact Nat.ne_of_lt (blk_lt (g := gb1101) (o := .cells #[.int .i64 a0_0, .bool a0_1, .int .i64 a0_2, .int .i64 a0_3, .slice A0_4 l0_4.length c0_4, .bool a0_5] 84 (0, 0)) (by (with_reducible repeat (first | refine blk_drewN ?_ _ | refine blk_drew ?_ | refine blk_alloc ?_ _)); exact BK1101.out)) : gb1101 ≠ gb1102)); have n6_ := Aside0.mk ((by rw [hg]; exact Nat.ne_of_gt (blk_lt (g := gb1101) (o := .cells #[.int .i64 a0_0, .bool a0_1, .int .i64 a0_2, .int .i64 a0_3, .slice A0_4 l0_4.length c0_4, .bool a0_5] 84 (0, 0)) (by (with_reducible repeat (first | refine blk_drewN ?_ _ | refine blk_drew ?_ | refine blk_alloc ?_ _)); exact BK1101.out)) : gb1102 ≠ gb1101)); clear BK1101; clear HB; have BK1101 := n0_; have HB := n1_; have BK1102 := n2_; have GW1102 := n3_; have GE1102 := n4_; have NB1101_1102 := n5_; have NB1102_1101 := n6_; clear n0_ n1_ n2_ n3_ n4_ n5_ n6_; clear hb hbox hg; have hnb25 := NB1101_1102.out; have hnc25 := NB1102_1101.out; have hcz26_0 : w24.cell? ⟨gb1101, 0, none⟩ = some (.int .i64 a0_0) := (blk_cell BK1101.out 0).trans rfl; have hcz26_1 : w24.cell? ⟨gb1101, 1, none⟩ = some (.bool a0_1) := (blk_cell BK1101.out 1).trans rfl; have hcz26_2 : w24.cell? ⟨gb1101, 2, none⟩ = some (.int .i64 a0_2) := (blk_cell BK1101.out 2).trans rfl; have hcz26_3 : w24.cell? ⟨gb1101, 3, none⟩ = some (.int .i64 a0_3) := (blk_cell BK1101.out 3).trans rfl; have hcz26_4 : w24.cell? ⟨gb1101, 4, none⟩ = some (.slice A0_4 l0_4.length c0_4) := (blk_cell BK1101.out 4).trans rfl; have hcz26_5 : w24.cell? ⟨gb1101, 5, none⟩ = some (.bool a0_5) := (blk_cell BK1101.out 5).trans rfl; have hfz26_0 := blk_frozen BK1101.out 0; have hfz26_1 := blk_frozen BK1101.out 1; have hfz26_2 := blk_frozen BK1101.out 2; have hfz26_3 := blk_frozen BK1101.out 3; have hfz26_4 := blk_frozen BK1101.out 4; have hfz26_5 := blk_frozen BK1101.out 5; have hcz27_0 : w24.cell? ⟨gb1102, 0, none⟩ = some (.int .i64 a1_0) := (blk_cell BK1102.out 0).trans rfl; have hcz27_1 : w24.cell? ⟨gb1102, 1, none⟩ = some (.bool a1_1) := (blk_cell BK1102.out 1).trans rfl; have hcz27_2 : w24.cell? ⟨gb1102, 2, none⟩ = some (.int .i64 a1_2) := (blk_cell BK1102.out 2).trans rfl; have hcz27_3 : w24.cell? ⟨gb1102, 3, none⟩ = some (.int .i64 a1_3) := (blk_cell BK1102.out 3).trans rfl; have hcz27_4 : w24.cell? ⟨gb1102, 4, none⟩ = some (.slice A1_4 l1_4.length c1_4) := (blk_cell BK1102.out 4).trans rfl; have hcz27_5 : w24.cell? ⟨gb1102, 5, none⟩ = some (.bool a1_5) := (blk_cell BK1102.out 5).trans rfl; have hfz27_0 := blk_frozen BK1102.out 0; have hfz27_1 := blk_frozen BK1102.out 1; have hfz27_2 := blk_frozen BK1102.out 2; have hfz27_3 := blk_frozen BK1102.out 3; have hfz27_4 := blk_frozen BK1102.out 4; have hfz27_5 := blk_frozen BK1102.out 5))
      go_ret
      exact ⟨by first | rfl | (simp [errW_none, errW_some] <;> rfl) | (simp [*, errW_none, errW_some] <;> rfl), by repeat (first | (with_reducible first | exact HB.out | apply below_alloc | apply pw_below_drewN | apply below_drew1 | refine below_set ?_ GE1101.out | refine below_set ?_ GE1102.out) | exact HB.out)⟩
  · rw [if_neg c3] at H
    have c3b0 : (a0_0 == a1_0) = false := beq_eq_false_iff_ne.mpr c3
    have c3b1 : (a0_0 != a1_0) = true := bne_iff_ne.mpr c3
    obtain rfl := Option.some.inj H
    go_enter Try.func81, Try.ntmps81
    go_wp2_with (first | ((with_reducible refine gate_dst (N := 2) rfl ?_); refine box_event ?hg (N := 2) ?hd (cs := #[.int .i64 a0_0, .bool a0_1, .int .i64 a0_2, .int .i64 a0_3, .slice A0_4 l0_4.length c0_4, .bool a0_5]) (t := 84) ?hr ?_; (case hd => rfl); (case hg => rfl); (case hr => first | (go_simp; done) | (go_simp; rfl)); intro gb1101 hg w28 hbox hb; have n0_ := Aside0.mk (below_step (by repeat (first | (with_reducible first | exact HB.out | apply below_alloc | apply pw_below_drewN | apply below_drew1) | exact HB.out)) hb); have n1_ := Aside0.mk (hbox); have n2_ := Aside0.mk ((by rw [hg]; exact (below_size (by repeat (first | (with_reducible first | exact HB.out | apply below_alloc | apply pw_below_drewN | apply below_drew1) | exact HB.out))) : w.heap.size ≤ gb1101)); have n3_ := Aside0.mk ((by rw [hg]; exact (below_size (by repeat (first | (with_reducible first | exact HB.out | apply below_alloc | apply pw_below_drewN | apply below_drew1) | exact HB.out))) : w.heap.size ≤ gb1101)); clear HB; have HB := n0_; have BK1101 := n1_; have GW1101 := n2_; have GE1101 := n3_; clear n0_ n1_ n2_ n3_; clear hb hbox hg) | ((with_reducible refine gate_dst (N := 3) rfl ?_); refine box_event ?hg (N := 3) ?hd (cs := #[.int .i64 a1_0, .bool a1_1, .int .i64 a1_2, .int .i64 a1_3, .slice A1_4 l1_4.length c1_4, .bool a1_5]) (t := 84) ?hr ?_; (case hd => rfl); (case hg => rfl); (case hr => first | (go_simp; done) | (go_simp; rfl)); intro gb1102 hg w29 hbox hb; have n0_ := Aside0.mk (blk_below (g := gb1101) (o := .cells #[.int .i64 a0_0, .bool a0_1, .int .i64 a0_2, .int .i64 a0_3, .slice A0_4 l0_4.length c0_4, .bool a0_5] 84 (0, 0)) (by (with_reducible repeat (first | refine blk_drewN ?_ _ | refine blk_drew ?_ | refine blk_alloc ?_ _)); exact BK1101.out) hb); have n1_ := Aside0.mk (below_step (by repeat (first | (with_reducible first | exact HB.out | apply below_alloc | apply pw_below_drewN | apply below_drew1 | refine below_set ?_ GE1101.out) | exact HB.out)) hb); have n2_ := Aside0.mk (hbox); have n3_ := Aside0.mk ((by rw [hg]; exact (below_size (by repeat (first | (with_reducible first | exact HB.out | apply below_alloc | apply pw_below_drewN | apply below_drew1 | refine below_set ?_ GE1101.out) | exact HB.out))) : w.heap.size ≤ gb1102)); have n4_ := Aside0.mk ((by rw [hg]; exact (below_size (by repeat (first | (with_reducible first | exact HB.out | apply below_alloc | apply pw_below_drewN | apply below_drew1 | refine below_set ?_ GE1101.out) | exact HB.out))) : w.heap.size ≤ gb1102)); have n5_ := Aside0.mk ((by rw [hg]; exact Nat.ne_of_lt (blk_lt (g := gb1101) (o := .cells #[.int .i64 a0_0, .bool a0_1, .int .i64 a0_2, .int .i64 a0_3, .slice A0_4 l0_4.length c0_4, .bool a0_5] 84 (0, 0)) (by (with_reducible repeat (first | refine blk_drewN ?_ _ | refine blk_drew ?_ | refine blk_alloc ?_ _)); exact BK1101.out)) : gb1101 ≠ gb1102)); have n6_ := Aside0.mk ((by rw [hg]; exact Nat.ne_of_gt (blk_lt (g := gb1101) (o := .cells #[.int .i64 a0_0, .bool a0_1, .int .i64 a0_2, .int .i64 a0_3, .slice A0_4 l0_4.length c0_4, .bool a0_5] 84 (0, 0)) (by (with_reducible repeat (first | refine blk_drewN ?_ _ | refine blk_drew ?_ | refine blk_alloc ?_ _)); exact BK1101.out)) : gb1102 ≠ gb1101)); clear BK1101; clear HB; have BK1101 := n0_; have HB := n1_; have BK1102 := n2_; have GW1102 := n3_; have GE1102 := n4_; have NB1101_1102 := n5_; have NB1102_1101 := n6_; clear n0_ n1_ n2_ n3_ n4_ n5_ n6_; clear hb hbox hg; have hnb30 := NB1101_1102.out; have hnc30 := NB1102_1101.out; have hcz31_0 : w29.cell? ⟨gb1101, 0, none⟩ = some (.int .i64 a0_0) := (blk_cell BK1101.out 0).trans rfl; have hcz31_1 : w29.cell? ⟨gb1101, 1, none⟩ = some (.bool a0_1) := (blk_cell BK1101.out 1).trans rfl; have hcz31_2 : w29.cell? ⟨gb1101, 2, none⟩ = some (.int .i64 a0_2) := (blk_cell BK1101.out 2).trans rfl; have hcz31_3 : w29.cell? ⟨gb1101, 3, none⟩ = some (.int .i64 a0_3) := (blk_cell BK1101.out 3).trans rfl; have hcz31_4 : w29.cell? ⟨gb1101, 4, none⟩ = some (.slice A0_4 l0_4.length c0_4) := (blk_cell BK1101.out 4).trans rfl; have hcz31_5 : w29.cell? ⟨gb1101, 5, none⟩ = some (.bool a0_5) := (blk_cell BK1101.out 5).trans rfl; have hfz31_0 := blk_frozen BK1101.out 0; have hfz31_1 := blk_frozen BK1101.out 1; have hfz31_2 := blk_frozen BK1101.out 2; have hfz31_3 := blk_frozen BK1101.out 3; have hfz31_4 := blk_frozen BK1101.out 4; have hfz31_5 := blk_frozen BK1101.out 5; have hcz32_0 : w29.cell? ⟨gb1102, 0, none⟩ = some (.int .i64 a1_0) := (blk_cell BK1102.out 0).trans rfl; have hcz32_1 : w29.cell? ⟨gb1102, 1, none⟩ = some (.bool a1_1) := (blk_cell BK1102.out 1).trans rfl; have hcz32_2 : w29.cell? ⟨gb1102, 2, none⟩ = some (.int .i64 a1_2) := (blk_cell BK1102.out 2).trans rfl; have hcz32_3 : w29.cell? ⟨gb1102, 3, none⟩ = some (.int .i64 a1_3) := (blk_cell BK1102.out 3).trans rfl; have hcz32_4 : w29.cell? ⟨gb1102, 4, none⟩ = some (.slice A1_4 l1_4.length c1_4) := (blk_cell BK1102.out 4).trans rfl; have hcz32_5 : w29.cell? ⟨gb1102, 5, none⟩ = some (.bool a1_5) := (blk_cell BK1102.out 5).trans rfl; have hfz32_0 := blk_frozen BK1102.out 0; have hfz32_1 := blk_frozen BK1102.out 1; have hfz32_2 := blk_frozen BK1102.out 2; have hfz32_3 := blk_frozen BK1102.out 3; have hfz32_4 := blk_frozen BK1102.out 4; have hfz32_5 := blk_frozen BK1102.out 5))
    go_ret
    exact ⟨by first | rfl | (simp [errW_none, errW_some] <;> rfl) | (simp [*, errW_none, errW_some] <;> rfl), by repeat (first | (with_reducible first | exact HB.out | apply below_alloc | apply pw_below_drewN | apply below_drew1 | refine below_set ?_ GE1101.out | refine below_set ?_ GE1102.out) | exact HB.out)⟩

end Go.Proofs.Ytkoiffkonjpoiaa.Q
