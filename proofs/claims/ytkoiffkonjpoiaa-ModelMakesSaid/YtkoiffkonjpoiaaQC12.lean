/- Go functions of the program as plain Lean functions, and for each the contract that the call comes to its answers; written by a turned print of this session. -/
import Derived.Test.YtkoiffkonjpoiaaQ0
import Derived.Test.YtkoiffkonjpoiaaQC9
namespace Go.Proofs.Ytkoiffkonjpoiaa.Q
open Go.RowKit Go.Proofs.YtkoiffkonjpoiaaW.PrintWords Go.Proofs.YtkoiffkonjpoiaaW.PrintLast Go.Proofs.YtkoiffkonjpoiaaW.PrintMore Go.Proofs.YtkoiffkonjpoiaaX
attribute [local go_sem] max2_int min2_int max_two min_two max_three min_three max_four min_four   -- for this text's walks alone
set_option linter.unusedVariables false
set_option linter.unusedSimpArgs false

/-! ### model_Make: function 83 -/
mutual
def model_Make.j0 : Nat → Int → List Int → Bool → Int → Int → Int → Int → Option (Int × Int × Int × Int × Bool)
  | 0, _, _, _, _, _, _, _ => none
  | k + 1, x0, x1, x18, x1231000, x1231001, x1231002, x1231003 => if x18 = true then (some (0, 0, 0, 0, false)) else (if (x1.length : Int) > 0 then (if 0 < (x1.length : Int) then (model_Make.j1 k x0 x1 x1231000 (rd x1 0) x1231002 x1231003) else (none)) else (model_Make.j1 k x0 x1 x1231000 x1231001 x1231002 x1231003))
def model_Make.j1 : Nat → Int → List Int → Int → Int → Int → Int → Option (Int × Int × Int × Int × Bool)
  | 0, _, _, _, _, _, _ => none
  | k + 1, x0, x1, x1231000, x1231001, x1231002, x1231003 => if x0 = 1 then (model_Make.j2 k x1 x0 (x0 == 1) x1231000 x1231001 x1231002 x1231003) else (model_Make.j2 k x1 x0 (x0 == 2) x1231000 x1231001 x1231002 x1231003)
def model_Make.j2 : Nat → List Int → Int → Bool → Int → Int → Int → Int → Option (Int × Int × Int × Int × Bool)
  | 0, _, _, _, _, _, _, _ => none
  | k + 1, x1, x27, x28, x1231000, x1231001, x1231002, x1231003 => if x28 = true then (if 1 < (x1.length : Int) then (some (x1231000, x1231001, x1231002, rd x1 1, true)) else (none)) else (if x27 = 10 then (if 1 < (x1.length : Int) then (some (x1231000, x1231001, rd x1 1, x1231003, true)) else (none)) else (if x27 = 11 then (if 1 < (x1.length : Int) then (some (x1231000, x1231001, rd x1 1, x1231003, true)) else (none)) else (some (x1231000, x1231001, x1231002, x1231003, true))))
end
def model_Make.f (k : Nat) (a0 : Int) (l1 : List Int) : Option (Int × Int × Int × Int × Bool) := if a0 ≥ 12 then (model_Make.j0 k a0 l1 true a0 0 0 0) else ((model_Op_Numbers.f k a0 0 0 0).bind fun t1231 => (model_Make.j0 k a0 l1 ((l1.length : Int) != (t1231.length : Int)) a0 0 0 0))
theorem model_Make.mono_l : ∀ k, (∀ y0 y1 y2 y3 y4 y5 y6, LeO (model_Make.j0 k y0 y1 y2 y3 y4 y5 y6) (model_Make.j0 (k + 1) y0 y1 y2 y3 y4 y5 y6)) ∧ (∀ y0 y1 y2 y3 y4 y5, LeO (model_Make.j1 k y0 y1 y2 y3 y4 y5) (model_Make.j1 (k + 1) y0 y1 y2 y3 y4 y5)) ∧ (∀ y0 y1 y2 y3 y4 y5 y6, LeO (model_Make.j2 k y0 y1 y2 y3 y4 y5 y6) (model_Make.j2 (k + 1) y0 y1 y2 y3 y4 y5 y6))
  | 0 => ⟨fun _ _ _ _ _ _ _ r h => by simp [model_Make.j0] at h, fun _ _ _ _ _ _ r h => by simp [model_Make.j1] at h, fun _ _ _ _ _ _ _ r h => by simp [model_Make.j2] at h⟩
  | k + 1 => by
    obtain ⟨ih0, ih1, ih2⟩ := model_Make.mono_l k
    refine ⟨?_, ?_, ?_⟩
    · intro y0 y1 y2 y3 y4 y5 y6
      unfold model_Make.j0
      repeat' first
      | (with_reducible exact ih0 _ _ _ _ _ _ _)
      | (with_reducible exact ih1 _ _ _ _ _ _)
      | (with_reducible exact ih2 _ _ _ _ _ _ _)
      | (with_reducible exact model_Op_Numbers.mono _ _ _ _ _)
      | (with_reducible exact LeO.refl _)
      | (with_reducible exact LeO.none _)
      | (with_reducible refine LeO.ite ?_ ?_)
      | (with_reducible refine LeO.bind ?_ (fun _ => ?_))
      | exact ih0 _ _ _ _ _ _ _
      | exact ih1 _ _ _ _ _ _
      | exact ih2 _ _ _ _ _ _ _
      | exact model_Op_Numbers.mono _ _ _ _ _
      | exact LeO.none _
      | refine LeO.ite ?_ ?_
      | refine LeO.bind ?_ (fun _ => ?_)
    · intro y0 y1 y2 y3 y4 y5
      unfold model_Make.j1
      repeat' first
      | (with_reducible exact ih0 _ _ _ _ _ _ _)
      | (with_reducible exact ih1 _ _ _ _ _ _)
      | (with_reducible exact ih2 _ _ _ _ _ _ _)
      | (with_reducible exact model_Op_Numbers.mono _ _ _ _ _)
      | (with_reducible exact LeO.refl _)
      | (with_reducible exact LeO.none _)
      | (with_reducible refine LeO.ite ?_ ?_)
      | (with_reducible refine LeO.bind ?_ (fun _ => ?_))
      | exact ih0 _ _ _ _ _ _ _
      | exact ih1 _ _ _ _ _ _
      | exact ih2 _ _ _ _ _ _ _
      | exact model_Op_Numbers.mono _ _ _ _ _
      | exact LeO.none _
      | refine LeO.ite ?_ ?_
      | refine LeO.bind ?_ (fun _ => ?_)
    · intro y0 y1 y2 y3 y4 y5 y6
      unfold model_Make.j2
      repeat' first
      | (with_reducible exact ih0 _ _ _ _ _ _ _)
      | (with_reducible exact ih1 _ _ _ _ _ _)
      | (with_reducible exact ih2 _ _ _ _ _ _ _)
      | (with_reducible exact model_Op_Numbers.mono _ _ _ _ _)
      | (with_reducible exact LeO.refl _)
      | (with_reducible exact LeO.none _)
      | (with_reducible refine LeO.ite ?_ ?_)
      | (with_reducible refine LeO.bind ?_ (fun _ => ?_))
      | exact ih0 _ _ _ _ _ _ _
      | exact ih1 _ _ _ _ _ _
      | exact ih2 _ _ _ _ _ _ _
      | exact model_Op_Numbers.mono _ _ _ _ _
      | exact LeO.none _
      | refine LeO.ite ?_ ?_
      | refine LeO.bind ?_ (fun _ => ?_)
theorem model_Make.mono : ∀ a0 a1 k, LeO (model_Make.f k a0 a1) (model_Make.f (k + 1) a0 a1) := by
  intro a0 a1 k
  obtain ⟨ih0, ih1, ih2⟩ := model_Make.mono_l k
  unfold model_Make.f
  repeat' first
      | (with_reducible exact ih0 _ _ _ _ _ _ _)
      | (with_reducible exact ih1 _ _ _ _ _ _)
      | (with_reducible exact ih2 _ _ _ _ _ _ _)
      | (with_reducible exact model_Op_Numbers.mono _ _ _ _ _)
      | (with_reducible exact LeO.refl _)
      | (with_reducible exact LeO.none _)
      | (with_reducible refine LeO.ite ?_ ?_)
      | (with_reducible refine LeO.bind ?_ (fun _ => ?_))
      | exact ih0 _ _ _ _ _ _ _
      | exact ih1 _ _ _ _ _ _
      | exact ih2 _ _ _ _ _ _ _
      | exact model_Op_Numbers.mono _ _ _ _ _
      | exact LeO.none _
      | refine LeO.ite ?_ ?_
      | refine LeO.bind ?_ (fun _ => ?_)
set_option maxHeartbeats 8000000 in
set_option maxRecDepth 100000 in
theorem model_Make.calls (k : Nat) (a0 : Int) (A1 : Option Addr) (c1 : Nat) (l1 : List Int) (r1 : Int) (r2 : Int) (r3 : Int) (r4 : Int) (r5 : Bool) (w : World) (hr1 : Kd.C (Kd.int .i64) w A1 l1.length l1) (hc1 : l1.length ≤ c1) (h : model_Make.f k a0 l1 = some (r1, r2, r3, r4, r5)) :
    Calls Try.prog 83 #[.int .u8 a0, .slice A1 l1.length c1] w fun e w' => e = .returned (.tuple #[.agg #[.int .u8 r1, .int .i64 r2, .int .i64 r3, .int .i64 r4], .bool r5]) ∧ Below w.heap.size w w' := by
  have hu78 := Try.underlying78
  have HR1 := Aside0.mk hr1
  have HC1 := Aside0.mk hc1
  clear hr1 hc1
  have HB := Aside0.mk (Below.refl w.heap.size w)
  have H : (if a0 ≥ 12 then (model_Make.j0 k a0 l1 true a0 0 0 0) else ((model_Op_Numbers.f k a0 0 0 0).bind fun t1231 => (model_Make.j0 k a0 l1 ((l1.length : Int) != (t1231.length : Int)) a0 0 0 0))) = some (r1, r2, r3, r4, r5) := h
  clear h
  have HC3 := Aside0.mk H
  clear H
  go_enter Try.func83, Try.ntmps83
  go_upto_region 2 with (first | ((with_reducible refine gate_dst (N := 4) rfl ?_); (try (refine gate_guard (by rfl) ?_; dsimp only)); refine box_event ?hg (N := 4) ?hd (cs := #[.int .u8 0, .int .i64 0, .int .i64 0, .int .i64 0]) (t := 78) ?hr ?_; (case hd => rfl); (case hg => rfl); (case hr => first | (go_simp; done) | (go_simp; rfl)); intro gb1229 hg w4 hbox hb; have n0_ := Aside0.mk (below_step (by repeat (first | (with_reducible first | exact HB.out | apply below_alloc | apply pw_below_drewN | apply below_drew1) | exact HB.out)) hb); have n1_ := Aside0.mk (hbox); have n2_ := Aside0.mk ((by rw [hg]; exact (below_size (by repeat (first | (with_reducible first | exact HB.out | apply below_alloc | apply pw_below_drewN | apply below_drew1) | exact HB.out))) : w.heap.size ≤ gb1229)); have n3_ := Aside0.mk ((by rw [hg]; exact (below_size (by repeat (first | (with_reducible first | exact HB.out | apply below_alloc | apply pw_below_drewN | apply below_drew1) | exact HB.out))) : w.heap.size ≤ gb1229)); clear HB; have HB := n0_; have BK1229 := n1_; have GW1229 := n2_; have GE1229 := n3_; clear n0_ n1_ n2_ n3_; clear hb hbox hg) | ((with_reducible refine gate_dst (N := 6) rfl ?_); (try (refine gate_guard (by rfl) ?_; dsimp only)); refine box_event ?hg (N := 6) ?hd (cs := #[.int .u8 0, .int .i64 0, .int .i64 0, .int .i64 0]) (t := 78) ?hr ?_; (case hd => rfl); (case hg => rfl); (case hr => first | (go_simp; done) | (go_simp; rfl)); intro gb1230 hg w5 hbox hb; have n0_ := Aside0.mk (blk_below (g := gb1229) (o := .cells #[.int .u8 0, .int .i64 0, .int .i64 0, .int .i64 0] 78 (0, 0)) (by (with_reducible repeat (first | refine blk_drewN ?_ _ | refine blk_drew ?_ | refine blk_alloc ?_ _)); exact BK1229.out) hb); have n1_ := Aside0.mk (below_step (by repeat (first | (with_reducible first | exact HB.out | apply below_alloc | apply pw_below_drewN | apply below_drew1 | refine below_set ?_ GE1229.out) | exact HB.out)) hb); have n2_ := Aside0.mk (hbox); have n3_ := Aside0.mk ((by rw [hg]; exact (below_size (by repeat (first | (with_reducible first | exact HB.out | apply below_alloc | apply pw_below_drewN | apply below_drew1 | refine below_set ?_ GE1229.out) | exact HB.out))) : w.heap.size ≤ gb1230)); have n4_ := Aside0.mk ((by rw [hg]; exact (below_size (by repeat (first | (with_reducible first | exact HB.out | apply below_alloc | apply pw_below_drewN | apply below_drew1 | refine below_set ?_ GE1229.out) | exact HB.out))) : w.heap.size ≤ gb1230)); have n5_ := Aside0.mk ((by rw [hg]; exact Nat.ne_of_lt (blk_lt (g := gb1229) (o := .cells #[.int .u8 0, .int .i64 0, .int .i64 0, .int .i64 0] 78 (0, 0)) (by (with_reducible repeat (first | refine blk_drewN ?_ _ | refine blk_drew ?_ | refine blk_alloc ?_ _)); exact BK1229.out)) : gb1229 ≠ gb1230)); have n6_ := Aside0.mk ((by rw [hg]; exact Nat.ne_of_gt (blk_lt (g := gb1229) (o := .cells #[.int .u8 0, .int .i64 0, .int .i64 0, .int .i64 0] 78 (0, 0)) (by (with_reducible repeat (first | refine blk_drewN ?_ _ | refine blk_drew ?_ | refine blk_alloc ?_ _)); exact BK1229.out)) : gb1230 ≠ gb1229)); clear BK1229; clear HB; have BK1229 := n0_; have HB := n1_; have BK1230 := n2_; have GW1230 := n3_; have GE1230 := n4_; have NB1229_1230 := n5_; have NB1230_1229 := n6_; clear n0_ n1_ n2_ n3_ n4_ n5_ n6_; clear hb hbox hg; have hnb6 := NB1230_1229.out; have hnc6 := NB1229_1230.out; have hcz7_0 : w5.cell? ⟨gb1230, 0, none⟩ = some (.int .u8 0) := (blk_cell BK1230.out 0).trans rfl; have hcz7_1 : w5.cell? ⟨gb1230, 1, none⟩ = some (.int .i64 0) := (blk_cell BK1230.out 1).trans rfl; have hcz7_2 : w5.cell? ⟨gb1230, 2, none⟩ = some (.int .i64 0) := (blk_cell BK1230.out 2).trans rfl; have hcz7_3 : w5.cell? ⟨gb1230, 3, none⟩ = some (.int .i64 0) := (blk_cell BK1230.out 3).trans rfl; have hfz7_0 := blk_frozen BK1230.out 0; have hfz7_1 := blk_frozen BK1230.out 1; have hfz7_2 := blk_frozen BK1230.out 2; have hfz7_3 := blk_frozen BK1230.out 3))
  (try simp only [Act.put, List.setIfInBounds_toArray, List.set_cons_zero, List.set_cons_succ])
  go_cut [18] (fun v18 wc => ∃ (kq : Nat) (x18_2 : Bool), v18 = .bool x18_2 ∧ Aside0 (model_Make.j0 kq a0 l1 x18_2 a0 0 0 0 = some (r1, r2, r3, r4, r5)) ∧ Aside0 (kq ≤ k) ∧ Aside0 (wc.heap[gb1229]? = some (.cells #[.int .u8 0, .int .i64 0, .int .i64 0, .int .i64 0] 78 (0, 0))) ∧ Aside0 (wc.heap[gb1230]? = some (.cells #[.int .u8 a0, .int .i64 0, .int .i64 0, .int .i64 0] 78 (0, 0))) ∧ Aside0 (Below w.heap.size w wc))
  case first =>
    have H := HC3.out
    clear HC3
    by_cases c8 : a0 ≥ 12
    · rw [if_pos c8] at H
      have c8b0 : decide (12 ≤ a0) = true := decide_eq_true c8
      clear c8
      (first | rw [c8b0] | (simp only [i64_w, i32_w]; rw [c8b0]) | skip)
      have H' := Aside0.mk H
      clear H
      go_wp2
      go_meet
      case rel => exact ⟨_, (true), (by first | rfl | (simp; done) | (simp [*]; done)), H', ⟨by first | omega | exact Nat.le_refl _⟩, ⟨by (with_reducible repeat (first | refine blk_drewN ?_ _ | refine blk_drew ?_ | refine blk_alloc ?_ _)); refine blk_far ?_ NB1229_1230.out _; (with_reducible repeat (first | refine blk_drewN ?_ _ | refine blk_drew ?_ | refine blk_alloc ?_ _)); refine blk_far ?_ NB1229_1230.out _; (with_reducible repeat (first | refine blk_drewN ?_ _ | refine blk_drew ?_ | refine blk_alloc ?_ _)); refine blk_far ?_ NB1229_1230.out _; (with_reducible repeat (first | refine blk_drewN ?_ _ | refine blk_drew ?_ | refine blk_alloc ?_ _)); refine blk_far ?_ NB1229_1230.out _; (with_reducible repeat (first | refine blk_drewN ?_ _ | refine blk_drew ?_ | refine blk_alloc ?_ _)); exact BK1229.out⟩, ⟨by (with_reducible repeat (first | refine blk_drewN ?_ _ | refine blk_drew ?_ | refine blk_alloc ?_ _)); refine blk_put (cs := #[.int .u8 a0, .int .i64 0, .int .i64 0, .int .i64 0]) ?_ 3 _ rfl; (with_reducible repeat (first | refine blk_drewN ?_ _ | refine blk_drew ?_ | refine blk_alloc ?_ _)); refine blk_put (cs := #[.int .u8 a0, .int .i64 0, .int .i64 0, .int .i64 0]) ?_ 2 _ rfl; (with_reducible repeat (first | refine blk_drewN ?_ _ | refine blk_drew ?_ | refine blk_alloc ?_ _)); refine blk_put (cs := #[.int .u8 a0, .int .i64 0, .int .i64 0, .int .i64 0]) ?_ 1 _ rfl; (with_reducible repeat (first | refine blk_drewN ?_ _ | refine blk_drew ?_ | refine blk_alloc ?_ _)); refine blk_put (cs := #[.int .u8 0, .int .i64 0, .int .i64 0, .int .i64 0]) ?_ 0 _ rfl; (with_reducible repeat (first | refine blk_drewN ?_ _ | refine blk_drew ?_ | refine blk_alloc ?_ _)); exact BK1230.out⟩, ⟨by repeat (first | (with_reducible first | exact HB.out | apply below_alloc | apply pw_below_drewN | apply below_drew1 | refine below_set ?_ GE1229.out | refine below_set ?_ GE1230.out) | exact HB.out)⟩⟩
    · rw [if_neg c8] at H
      have c8b0 : decide (12 ≤ a0) = false := decide_eq_false c8
      clear c8
      (first | rw [c8b0] | (simp only [i64_w, i32_w]; rw [c8b0]) | skip)
      replace H := Option.bind_eq_some_iff.mp H
      obtain ⟨t1231, A90, H⟩ := H
      replace H : (model_Make.j0 k a0 l1 ((l1.length : Int) != (t1231.length : Int)) a0 0 0 0) = some (r1, r2, r3, r4, r5) := H
      have A9 := Aside0.mk A90
      clear A90
      have H' := Aside0.mk H
      clear H
      have hnb10 := NB1230_1229.out
      have hnc10 := NB1229_1230.out
      have hcz11_0 : w5.cell? ⟨gb1230, 0, none⟩ = some (.int .u8 0) := (blk_cell BK1230.out 0).trans rfl
      have hcz11_1 : w5.cell? ⟨gb1230, 1, none⟩ = some (.int .i64 0) := (blk_cell BK1230.out 1).trans rfl
      have hcz11_2 : w5.cell? ⟨gb1230, 2, none⟩ = some (.int .i64 0) := (blk_cell BK1230.out 2).trans rfl
      have hcz11_3 : w5.cell? ⟨gb1230, 3, none⟩ = some (.int .i64 0) := (blk_cell BK1230.out 3).trans rfl
      have hfz11_0 := blk_frozen BK1230.out 0
      have hfz11_1 := blk_frozen BK1230.out 1
      have hfz11_2 := blk_frozen BK1230.out 2
      have hfz11_3 := blk_frozen BK1230.out 3
      go_wp2_with (first | (go_at_call 79; (with_reducible refine (model_Op_Numbers.calls k a0 0 0 0 t1231 _ A9.out).mono ?_); rintro e w12 ⟨v1232, rfl, ho0, hb⟩; have n0_ := Aside0.mk (Kd.R_lower ho0 (below_size (by repeat (first | (with_reducible first | exact HB.out | apply below_alloc | apply pw_below_drewN | apply below_drew1 | refine below_set ?_ GE1229.out | refine below_set ?_ GE1230.out) | exact HB.out)))); have n1_ := Aside0.mk (blk_below (g := gb1229) (o := .cells #[.int .u8 0, .int .i64 0, .int .i64 0, .int .i64 0] 78 (0, 0)) (by (with_reducible repeat (first | refine blk_drewN ?_ _ | refine blk_drew ?_ | refine blk_alloc ?_ _)); refine blk_far ?_ NB1229_1230.out _; (with_reducible repeat (first | refine blk_drewN ?_ _ | refine blk_drew ?_ | refine blk_alloc ?_ _)); refine blk_far ?_ NB1229_1230.out _; (with_reducible repeat (first | refine blk_drewN ?_ _ | refine blk_drew ?_ | refine blk_alloc ?_ _)); refine blk_far ?_ NB1229_1230.out _; (with_reducible repeat (first | refine blk_drewN ?_ _ | refine blk_drew ?_ | refine blk_alloc ?_ _)); refine blk_far ?_ NB1229_1230.out _; (with_reducible repeat (first | refine blk_drewN ?_ _ | refine blk_drew ?_ | refine blk_alloc ?_ _)); exact BK1229.out) hb); have n2_ := Aside0.mk (blk_below (g := gb1230) (o := .cells #[.int .u8 a0, .int .i64 0, .int .i64 0, .int .i64 0] 78 (0, 0)) (by (with_reducible repeat (first | refine blk_drewN ?_ _ | refine blk_drew ?_ | refine blk_alloc ?_ _)); refine blk_put (cs := #[.int .u8 a0, .int .i64 0, .int .i64 0, .int .i64 0]) ?_ 3 _ rfl; (with_reducible repeat (first | refine blk_drewN ?_ _ | refine blk_drew ?_ | refine blk_alloc ?_ _)); refine blk_put (cs := #[.int .u8 a0, .int .i64 0, .int .i64 0, .int .i64 0]) ?_ 2 _ rfl; (with_reducible repeat (first | refine blk_drewN ?_ _ | refine blk_drew ?_ | refine blk_alloc ?_ _)); refine blk_put (cs := #[.int .u8 a0, .int .i64 0, .int .i64 0, .int .i64 0]) ?_ 1 _ rfl; (with_reducible repeat (first | refine blk_drewN ?_ _ | refine blk_drew ?_ | refine blk_alloc ?_ _)); refine blk_put (cs := #[.int .u8 0, .int .i64 0, .int .i64 0, .int .i64 0]) ?_ 0 _ rfl; (with_reducible repeat (first | refine blk_drewN ?_ _ | refine blk_drew ?_ | refine blk_alloc ?_ _)); exact BK1230.out) hb); have n3_ := Aside0.mk (below_step (by repeat (first | (with_reducible first | exact HB.out | apply below_alloc | apply pw_below_drewN | apply below_drew1 | refine below_set ?_ GE1229.out | refine below_set ?_ GE1230.out) | exact HB.out)) hb); clear BK1229; clear BK1230; clear HB; have HO1233 := n0_; have BK1229 := n1_; have BK1230 := n2_; have HB := n3_; clear n0_ n1_ n2_ n3_; (try clear hb); (try clear hb2); (try clear hk); (try clear hi); (try clear ho0); obtain ⟨Ao13, co13, eo13⟩ := Kd.R_slice HO1233.out; subst eo13))
      go_meet
      case rel => exact ⟨_, (((l1.length : Int) != (t1231.length : Int))), (by first | rfl | (simp; done) | (simp [*]; done)), H', ⟨by first | omega | exact Nat.le_refl _⟩, ⟨by (with_reducible repeat (first | refine blk_drewN ?_ _ | refine blk_drew ?_ | refine blk_alloc ?_ _)); exact BK1229.out⟩, ⟨by (with_reducible repeat (first | refine blk_drewN ?_ _ | refine blk_drew ?_ | refine blk_alloc ?_ _)); exact BK1230.out⟩, ⟨by repeat (first | (with_reducible first | exact HB.out | apply below_alloc | apply pw_below_drewN | apply below_drew1 | refine below_set ?_ GE1229.out | refine below_set ?_ GE1230.out) | exact HB.out)⟩⟩
  case rest =>
    clear HC3
    try clear c1
    try clear p2
    try clear c6
    try clear c8
    try clear c8b0
    try clear c10
    try clear hcz11_0
    try clear hcz11_1
    try clear hcz11_2
    try clear hcz11_3
    try clear hcz7_0
    try clear hcz7_1
    try clear hcz7_2
    try clear hcz7_3
    try clear hfz11_0
    try clear hfz11_1
    try clear hfz11_2
    try clear hfz11_3
    try clear hfz7_0
    try clear hfz7_1
    try clear hfz7_2
    try clear hfz7_3
    obtain ⟨kq, x18_2, rfl, HA, HJ2, BK1229, BK1230, HB⟩ := hcut
    cases kq with
    | zero => exact absurd HA.out (by simp [model_Make.j0])
    | succ kj2 =>
      have H := HA.out
      clear HA
      simp only [model_Make.j0] at H
      by_cases c14 : x18_2 = true
      · subst c14
        have H1 : (some (0, 0, 0, 0, false)) = some (r1, r2, r3, r4, r5) := by rw [if_pos rfl] at H; exact H
        clear H
        have H := H1
        clear H1
        simp only [Option.some.injEq, Prod.mk.injEq] at H
        obtain ⟨rfl, rfl, rfl, rfl, rfl⟩ := H
        have hnb15 := NB1229_1230.out
        have hnc15 := NB1230_1229.out
        have hcz16_0 : wc.cell? ⟨gb1229, 0, none⟩ = some (.int .u8 0) := (blk_cell BK1229.out 0).trans rfl
        have hcz16_1 : wc.cell? ⟨gb1229, 1, none⟩ = some (.int .i64 0) := (blk_cell BK1229.out 1).trans rfl
        have hcz16_2 : wc.cell? ⟨gb1229, 2, none⟩ = some (.int .i64 0) := (blk_cell BK1229.out 2).trans rfl
        have hcz16_3 : wc.cell? ⟨gb1229, 3, none⟩ = some (.int .i64 0) := (blk_cell BK1229.out 3).trans rfl
        have hfz16_0 := blk_frozen BK1229.out 0
        have hfz16_1 := blk_frozen BK1229.out 1
        have hfz16_2 := blk_frozen BK1229.out 2
        have hfz16_3 := blk_frozen BK1229.out 3
        go_wp2
        refine bodyPost_ret (results_ct rfl _ _ gb1229 78 #[.int .u8 0, .int .i64 0, .int .i64 0, .int .i64 0] (0, 0) _ rfl (by (with_reducible repeat (first | refine blk_drewN ?_ _ | refine blk_drew ?_ | refine blk_alloc ?_ _)); refine blk_put (cs := #[.int .u8 0, .int .i64 0, .int .i64 0, .int .i64 0]) ?_ 3 _ rfl; (with_reducible repeat (first | refine blk_drewN ?_ _ | refine blk_drew ?_ | refine blk_alloc ?_ _)); refine blk_put (cs := #[.int .u8 0, .int .i64 0, .int .i64 0, .int .i64 0]) ?_ 2 _ rfl; (with_reducible repeat (first | refine blk_drewN ?_ _ | refine blk_drew ?_ | refine blk_alloc ?_ _)); refine blk_put (cs := #[.int .u8 0, .int .i64 0, .int .i64 0, .int .i64 0]) ?_ 1 _ rfl; (with_reducible repeat (first | refine blk_drewN ?_ _ | refine blk_drew ?_ | refine blk_alloc ?_ _)); refine blk_put (cs := #[.int .u8 0, .int .i64 0, .int .i64 0, .int .i64 0]) ?_ 0 _ rfl; (with_reducible repeat (first | refine blk_drewN ?_ _ | refine blk_drew ?_ | refine blk_alloc ?_ _)); exact BK1229.out) Try.underlying78 rfl (by kernel_rfl)) rfl ?_
        exact ⟨by first | rfl | (simp [errW_none, errW_some] <;> rfl) | (simp [*, errW_none, errW_some] <;> rfl), by repeat (first | (with_reducible first | exact HB.out | apply below_alloc | apply pw_below_drewN | apply below_drew1 | refine below_set ?_ GE1229.out | refine below_set ?_ GE1230.out) | exact HB.out)⟩
      · replace c14 := Bool.eq_false_iff.mpr c14
        subst c14
        have H1 : (if (l1.length : Int) > 0 then (if 0 < (l1.length : Int) then (model_Make.j1 kj2 a0 l1 a0 (rd l1 0) 0 0) else (none)) else (model_Make.j1 kj2 a0 l1 a0 0 0 0)) = some (r1, r2, r3, r4, r5) := by rw [if_neg (show ¬ (false = true) by decide)] at H; exact H
        clear H
        have H := H1
        clear H1
        have HC17 := Aside0.mk H
        clear H
        go_upto_if 22 with (fail)
        go_cut [] (fun wc => ∃ (kq : Nat) (x1231001_16 : Int), Aside0 (model_Make.j1 kq a0 l1 a0 x1231001_16 0 0 = some (r1, r2, r3, r4, r5)) ∧ Aside0 (kq ≤ kj2) ∧ Aside0 (wc.heap[gb1229]? = some (.cells #[.int .u8 0, .int .i64 0, .int .i64 0, .int .i64 0] 78 (0, 0))) ∧ Aside0 (wc.heap[gb1230]? = some (.cells #[.int .u8 a0, .int .i64 x1231001_16, .int .i64 0, .int .i64 0] 78 (0, 0))) ∧ Aside0 (Below w.heap.size w wc))
        case first =>
          have H := HC17.out
          clear HC17
          by_cases c18 : (l1.length : Int) > 0
          · rw [if_pos c18] at H
            have c18b0 : decide (0 < (l1.length : Int)) = true := decide_eq_true c18
            have c18b1 : decide (0 < l1.length) = true := decide_eq_true (by omega)
            clear c18
            (first | rw [c18b0] | rw [c18b1] | (simp only [i64_w, i32_w]; rw [c18b0]) | skip)
            by_cases c19 : 0 < (l1.length : Int)
            · rw [if_pos c19] at H
              have c19b0 : decide (0 < (l1.length : Int)) = true := decide_eq_true c19
              have c19b1 : decide (0 < l1.length) = true := decide_eq_true (by omega)
              clear c19
              have H' := Aside0.mk H
              clear H
              have p1234 : 0 ≤ (0 : Int) := (by omega)
              have q1234 : 0 < (l1.length : Int) := of_decide_eq_true (by first | (with_reducible assumption) | assumption)
              obtain ⟨ad1234, e1234, hx1234_0⟩ := Kd.at_int HR1.out 0 p1234 q1234
              cases e1234
              have qi1234 : (0 < l1.length) = True := eq_true (by omega)
              (try rw [show ((0 : Int)).toNat = 0 from rfl] at hx1234_0)
              (try rw [Addr.add_zero'] at hx1234_0)
              replace hx1234_0 := (HB.out.cell (World.block_lt_of_cell? w _ hx1234_0)).trans hx1234_0
              replace p1234 := eq_true p1234
              replace q1234 := eq_true q1234
              have hnb20 := NB1230_1229.out
              have hnc20 := NB1229_1230.out
              have hcz21_0 : wc.cell? ⟨gb1230, 0, none⟩ = some (.int .u8 a0) := (blk_cell BK1230.out 0).trans rfl
              have hcz21_1 : wc.cell? ⟨gb1230, 1, none⟩ = some (.int .i64 0) := (blk_cell BK1230.out 1).trans rfl
              have hcz21_2 : wc.cell? ⟨gb1230, 2, none⟩ = some (.int .i64 0) := (blk_cell BK1230.out 2).trans rfl
              have hcz21_3 : wc.cell? ⟨gb1230, 3, none⟩ = some (.int .i64 0) := (blk_cell BK1230.out 3).trans rfl
              have hfz21_0 := blk_frozen BK1230.out 0
              have hfz21_1 := blk_frozen BK1230.out 1
              have hfz21_2 := blk_frozen BK1230.out 2
              have hfz21_3 := blk_frozen BK1230.out 3
              go_wp2
              go_meet
              case rel => exact ⟨_, (rd l1 0), H', ⟨by have := HJ2.out; first | omega | exact Nat.le_refl _⟩, ⟨by (with_reducible repeat (first | refine blk_drewN ?_ _ | refine blk_drew ?_ | refine blk_alloc ?_ _)); refine blk_far ?_ NB1229_1230.out _; (with_reducible repeat (first | refine blk_drewN ?_ _ | refine blk_drew ?_ | refine blk_alloc ?_ _)); exact BK1229.out⟩, ⟨by (with_reducible repeat (first | refine blk_drewN ?_ _ | refine blk_drew ?_ | refine blk_alloc ?_ _)); refine blk_put (cs := #[.int .u8 a0, .int .i64 0, .int .i64 0, .int .i64 0]) ?_ 1 _ rfl; (with_reducible repeat (first | refine blk_drewN ?_ _ | refine blk_drew ?_ | refine blk_alloc ?_ _)); exact BK1230.out⟩, ⟨by repeat (first | (with_reducible first | exact HB.out | apply below_alloc | apply pw_below_drewN | apply below_drew1 | refine below_set ?_ GE1229.out | refine below_set ?_ GE1230.out) | exact HB.out)⟩⟩
            · rw [if_neg c19] at H
              exact absurd H (by simp)
          · rw [if_neg c18] at H
            have c18b0 : decide (0 < (l1.length : Int)) = false := decide_eq_false c18
            have c18b1 : decide (0 < l1.length) = false := decide_eq_false (by omega)
            clear c18
            (first | rw [c18b0] | rw [c18b1] | (simp only [i64_w, i32_w]; rw [c18b0]) | skip)
            have H' := Aside0.mk H
            clear H
            go_wp2
            go_meet
            case rel => exact ⟨_, (0), H', ⟨by have := HJ2.out; first | omega | exact Nat.le_refl _⟩, ⟨by (with_reducible repeat (first | refine blk_drewN ?_ _ | refine blk_drew ?_ | refine blk_alloc ?_ _)); exact BK1229.out⟩, ⟨by (with_reducible repeat (first | refine blk_drewN ?_ _ | refine blk_drew ?_ | refine blk_alloc ?_ _)); exact BK1230.out⟩, ⟨by repeat (first | (with_reducible first | exact HB.out | apply below_alloc | apply pw_below_drewN | apply below_drew1 | refine below_set ?_ GE1229.out | refine below_set ?_ GE1230.out) | exact HB.out)⟩⟩
        case rest =>
          clear HC17
          try clear c1
          try clear p1
          try clear q1
          try clear hx1
          try clear qi1
          try clear c2
          try clear p2
          try clear c6
          try clear c8
          try clear c8b0
          try clear c10
          try clear p12
          try clear q12
          try clear hx12
          try clear qi12
          try clear c14
          try clear c15
          try clear c18
          try clear c18b0
          try clear c18b1
          try clear c19
          try clear c19b0
          try clear c19b1
          try clear c20
          try clear hcz11_0
          try clear hcz11_1
          try clear hcz11_2
          try clear hcz11_3
          try clear hcz16_0
          try clear hcz16_1
          try clear hcz16_2
          try clear hcz16_3
          try clear hcz21_0
          try clear hcz21_1
          try clear hcz21_2
          try clear hcz21_3
          try clear hcz7_0
          try clear hcz7_1
          try clear hcz7_2
          try clear hcz7_3
          try clear hfz11_0
          try clear hfz11_1
          try clear hfz11_2
          try clear hfz11_3
          try clear hfz16_0
          try clear hfz16_1
          try clear hfz16_2
          try clear hfz16_3
          try clear hfz21_0
          try clear hfz21_1
          try clear hfz21_2
          try clear hfz21_3
          try clear hfz7_0
          try clear hfz7_1
          try clear hfz7_2
          try clear hfz7_3
          try clear hx1234_0
          try clear p1234
          try clear p2
          try clear q1234
          obtain ⟨kq, x1231001_16, HA, HJ16, BK1229, BK1230, HB⟩ := hcut
          cases kq with
          | zero => exact absurd HA.out (by simp [model_Make.j1])
          | succ kj16 =>
            have H := HA.out
            clear HA
            simp only [model_Make.j1] at H
            have HC22 := Aside0.mk H
            clear H
            go_upto_if 28 with (fail)
            go_cut [28] (fun v28 wc => ∃ (kq : Nat) (x28_21 : Bool), v28 = .bool x28_21 ∧ Aside0 (model_Make.j2 kq l1 a0 x28_21 a0 x1231001_16 0 0 = some (r1, r2, r3, r4, r5)) ∧ Aside0 (kq ≤ kj16) ∧ Aside0 (wc.heap[gb1229]? = some (.cells #[.int .u8 0, .int .i64 0, .int .i64 0, .int .i64 0] 78 (0, 0))) ∧ Aside0 (wc.heap[gb1230]? = some (.cells #[.int .u8 a0, .int .i64 x1231001_16, .int .i64 0, .int .i64 0] 78 (0, 0))) ∧ Aside0 (Below w.heap.size w wc))
            case first =>
              have H := HC22.out
              clear HC22
              by_cases c23 : a0 = 1
              · rw [if_pos c23] at H
                have c23b0 : (a0 == 1) = true := beq_iff_eq.mpr c23
                have c23b1 : (a0 != 1) = false := bne_eq_false_iff_eq.mpr c23
                clear c23
                (first | rw [c23b0] | (simp only [i64_w, i32_w]; rw [c23b0]) | skip)
                have H' := Aside0.mk H
                clear H
                go_wp2
                go_meet
                case rel => exact ⟨_, ((a0 == 1)), (by first | rfl | (simp; done) | (simp [*]; done)), H', ⟨by have := HJ2.out; have := HJ16.out; first | omega | exact Nat.le_refl _⟩, ⟨by (with_reducible repeat (first | refine blk_drewN ?_ _ | refine blk_drew ?_ | refine blk_alloc ?_ _)); exact BK1229.out⟩, ⟨by (with_reducible repeat (first | refine blk_drewN ?_ _ | refine blk_drew ?_ | refine blk_alloc ?_ _)); exact BK1230.out⟩, ⟨by repeat (first | (with_reducible first | exact HB.out | apply below_alloc | apply pw_below_drewN | apply below_drew1 | refine below_set ?_ GE1229.out | refine below_set ?_ GE1230.out) | exact HB.out)⟩⟩
              · rw [if_neg c23] at H
                have c23b0 : (a0 == 1) = false := beq_eq_false_iff_ne.mpr c23
                have c23b1 : (a0 != 1) = true := bne_iff_ne.mpr c23
                (first | rw [c23b0] | (simp only [i64_w, i32_w]; rw [c23b0]) | skip)
                have H' := Aside0.mk H
                clear H
                go_wp2
                go_meet
                case rel => exact ⟨_, ((a0 == 2)), (by first | rfl | (simp; done) | (simp [*]; done)), H', ⟨by have := HJ2.out; have := HJ16.out; first | omega | exact Nat.le_refl _⟩, ⟨by (with_reducible repeat (first | refine blk_drewN ?_ _ | refine blk_drew ?_ | refine blk_alloc ?_ _)); exact BK1229.out⟩, ⟨by (with_reducible repeat (first | refine blk_drewN ?_ _ | refine blk_drew ?_ | refine blk_alloc ?_ _)); exact BK1230.out⟩, ⟨by repeat (first | (with_reducible first | exact HB.out | apply below_alloc | apply pw_below_drewN | apply below_drew1 | refine below_set ?_ GE1229.out | refine below_set ?_ GE1230.out) | exact HB.out)⟩⟩
            case rest =>
              clear HC22
              try clear c1
              try clear p1
              try clear q1
              try clear hx1
              try clear qi1
              try clear c2
              try clear p2
              try clear c6
              try clear c8
              try clear c8b0
              try clear c10
              try clear p12
              try clear q12
              try clear hx12
              try clear qi12
              try clear c14
              try clear c15
              try clear c18
              try clear c18b0
              try clear c18b1
              try clear c19
              try clear c19b0
              try clear c19b1
              try clear c20
              try clear c23
              try clear c23b0
              try clear c23b1
              try clear hcz11_0
              try clear hcz11_1
              try clear hcz11_2
              try clear hcz11_3
              try clear hcz16_0
              try clear hcz16_1
              try clear hcz16_2
              try clear hcz16_3
              try clear hcz21_0
              try clear hcz21_1
              try clear hcz21_2
              try clear hcz21_3
              try clear hcz7_0
              try clear hcz7_1
              try clear hcz7_2
              try clear hcz7_3
              try clear hfz11_0
              try clear hfz11_1
              try clear hfz11_2
              try clear hfz11_3
              try clear hfz16_0
              try clear hfz16_1
              try clear hfz16_2
              try clear hfz16_3
              try clear hfz21_0
              try clear hfz21_1
              try clear hfz21_2
              try clear hfz21_3
              try clear hfz7_0
              try clear hfz7_1
              try clear hfz7_2
              try clear hfz7_3
              try clear hx1234_0
              try clear p1
              try clear p12
              try clear p1234
              try clear p2
              try clear q1
              try clear q12
              try clear q1234
              obtain ⟨kq, x28_21, rfl, HA, HJ21, BK1229, BK1230, HB⟩ := hcut
              cases kq with
              | zero => exact absurd HA.out (by simp [model_Make.j2])
              | succ kj21 =>
                have H := HA.out
                clear HA
                simp only [model_Make.j2] at H
                by_cases c24 : x28_21 = true
                · subst c24
                  have H1 : (if 1 < (l1.length : Int) then (some (a0, x1231001_16, 0, rd l1 1, true)) else (none)) = some (r1, r2, r3, r4, r5) := by rw [if_pos rfl] at H; exact H
                  clear H
                  have H := H1
                  clear H1
                  by_cases c25 : 1 < (l1.length : Int)
                  · rw [if_pos c25] at H
                    have c25b0 : decide (1 < (l1.length : Int)) = true := decide_eq_true c25
                    have c25b1 : decide (1 < l1.length) = true := decide_eq_true (by omega)
                    clear c25
                    simp only [Option.some.injEq, Prod.mk.injEq] at H
                    obtain ⟨rfl, rfl, rfl, rfl, rfl⟩ := H
                    have p1235 : 0 ≤ (1 : Int) := (by omega)
                    have q1235 : 1 < (l1.length : Int) := of_decide_eq_true (by first | (with_reducible assumption) | assumption)
                    obtain ⟨ad1235, e1235, hx1235_0⟩ := Kd.at_int HR1.out 1 p1235 q1235
                    cases e1235
                    (try simp only [show (1 : Int).toNat = 1 from rfl, Nat.reduceMul, Nat.reduceEqDiff, Go.Addr.add, ↓reduceIte] at hx1235_0)
                    have qi1235 : (1 < l1.length) = True := eq_true (by omega)
                    (try rw [show ((1 : Int)).toNat = 1 from rfl] at hx1235_0)
                    replace hx1235_0 := (HB.out.cell (World.block_lt_of_cell? w _ hx1235_0)).trans hx1235_0
                    replace p1235 := eq_true p1235
                    replace q1235 := eq_true q1235
                    have hnb26 := NB1230_1229.out
                    have hnc26 := NB1229_1230.out
                    have hcz27_0 : wc.cell? ⟨gb1230, 0, none⟩ = some (.int .u8 a0) := (blk_cell BK1230.out 0).trans rfl
                    have hcz27_1 : wc.cell? ⟨gb1230, 1, none⟩ = some (.int .i64 x1231001_16) := (blk_cell BK1230.out 1).trans rfl
                    have hcz27_2 : wc.cell? ⟨gb1230, 2, none⟩ = some (.int .i64 0) := (blk_cell BK1230.out 2).trans rfl
                    have hcz27_3 : wc.cell? ⟨gb1230, 3, none⟩ = some (.int .i64 0) := (blk_cell BK1230.out 3).trans rfl
                    have hfz27_0 := blk_frozen BK1230.out 0
                    have hfz27_1 := blk_frozen BK1230.out 1
                    have hfz27_2 := blk_frozen BK1230.out 2
                    have hfz27_3 := blk_frozen BK1230.out 3
                    have hcz28_0 : wc.cell? ⟨gb1229, 0, none⟩ = some (.int .u8 0) := (blk_cell BK1229.out 0).trans rfl
                    have hcz28_1 : wc.cell? ⟨gb1229, 1, none⟩ = some (.int .i64 0) := (blk_cell BK1229.out 1).trans rfl
                    have hcz28_2 : wc.cell? ⟨gb1229, 2, none⟩ = some (.int .i64 0) := (blk_cell BK1229.out 2).trans rfl
                    have hcz28_3 : wc.cell? ⟨gb1229, 3, none⟩ = some (.int .i64 0) := (blk_cell BK1229.out 3).trans rfl
                    have hfz28_0 := blk_frozen BK1229.out 0
                    have hfz28_1 := blk_frozen BK1229.out 1
                    have hfz28_2 := blk_frozen BK1229.out 2
                    have hfz28_3 := blk_frozen BK1229.out 3
                    go_wp2
                    refine bodyPost_ret (results_ct rfl _ _ gb1229 78 #[.int .u8 a0, .int .i64 x1231001_16, .int .i64 0, .int .i64 (rd l1 1)] (0, 0) _ rfl (by (with_reducible repeat (first | refine blk_drewN ?_ _ | refine blk_drew ?_ | refine blk_alloc ?_ _)); refine blk_put (cs := #[.int .u8 a0, .int .i64 x1231001_16, .int .i64 0, .int .i64 0]) ?_ 3 _ rfl; (with_reducible repeat (first | refine blk_drewN ?_ _ | refine blk_drew ?_ | refine blk_alloc ?_ _)); refine blk_put (cs := #[.int .u8 a0, .int .i64 x1231001_16, .int .i64 0, .int .i64 0]) ?_ 2 _ rfl; (with_reducible repeat (first | refine blk_drewN ?_ _ | refine blk_drew ?_ | refine blk_alloc ?_ _)); refine blk_put (cs := #[.int .u8 a0, .int .i64 0, .int .i64 0, .int .i64 0]) ?_ 1 _ rfl; (with_reducible repeat (first | refine blk_drewN ?_ _ | refine blk_drew ?_ | refine blk_alloc ?_ _)); refine blk_put (cs := #[.int .u8 0, .int .i64 0, .int .i64 0, .int .i64 0]) ?_ 0 _ rfl; (with_reducible repeat (first | refine blk_drewN ?_ _ | refine blk_drew ?_ | refine blk_alloc ?_ _)); refine blk_far ?_ NB1229_1230.out _; (with_reducible repeat (first | refine blk_drewN ?_ _ | refine blk_drew ?_ | refine blk_alloc ?_ _)); exact BK1229.out) Try.underlying78 rfl (by kernel_rfl)) rfl ?_
                    exact ⟨by first | rfl | (simp [errW_none, errW_some] <;> rfl) | (simp [*, errW_none, errW_some] <;> rfl), by repeat (first | (with_reducible first | exact HB.out | apply below_alloc | apply pw_below_drewN | apply below_drew1 | refine below_set ?_ GE1229.out | refine below_set ?_ GE1230.out) | exact HB.out)⟩
                  · rw [if_neg c25] at H
                    exact absurd H (by simp)
                · replace c24 := Bool.eq_false_iff.mpr c24
                  subst c24
                  have H1 : (if a0 = 10 then (if 1 < (l1.length : Int) then (some (a0, x1231001_16, rd l1 1, 0, true)) else (none)) else (if a0 = 11 then (if 1 < (l1.length : Int) then (some (a0, x1231001_16, rd l1 1, 0, true)) else (none)) else (some (a0, x1231001_16, 0, 0, true)))) = some (r1, r2, r3, r4, r5) := by rw [if_neg (show ¬ (false = true) by decide)] at H; exact H
                  clear H
                  have H := H1
                  clear H1
                  by_cases c29 : a0 = 10
                  · rw [if_pos c29] at H
                    have c29b0 : (a0 == 10) = true := beq_iff_eq.mpr c29
                    have c29b1 : (a0 != 10) = false := bne_eq_false_iff_eq.mpr c29
                    clear c29
                    by_cases c30 : 1 < (l1.length : Int)
                    · rw [if_pos c30] at H
                      have c30b0 : decide (1 < (l1.length : Int)) = true := decide_eq_true c30
                      have c30b1 : decide (1 < l1.length) = true := decide_eq_true (by omega)
                      clear c30
                      simp only [Option.some.injEq, Prod.mk.injEq] at H
                      obtain ⟨rfl, rfl, rfl, rfl, rfl⟩ := H
                      have p1236 : 0 ≤ (1 : Int) := (by omega)
                      have q1236 : 1 < (l1.length : Int) := of_decide_eq_true (by first | (with_reducible assumption) | assumption)
                      obtain ⟨ad1236, e1236, hx1236_0⟩ := Kd.at_int HR1.out 1 p1236 q1236
                      cases e1236
                      (try simp only [show (1 : Int).toNat = 1 from rfl, Nat.reduceMul, Nat.reduceEqDiff, Go.Addr.add, ↓reduceIte] at hx1236_0)
                      have qi1236 : (1 < l1.length) = True := eq_true (by omega)
                      (try rw [show ((1 : Int)).toNat = 1 from rfl] at hx1236_0)
                      replace hx1236_0 := (HB.out.cell (World.block_lt_of_cell? w _ hx1236_0)).trans hx1236_0
                      replace p1236 := eq_true p1236
                      replace q1236 := eq_true q1236
                      have hnb31 := NB1230_1229.out
                      have hnc31 := NB1229_1230.out
                      have hcz32_0 : wc.cell? ⟨gb1230, 0, none⟩ = some (.int .u8 a0) := (blk_cell BK1230.out 0).trans rfl
                      have hcz32_1 : wc.cell? ⟨gb1230, 1, none⟩ = some (.int .i64 x1231001_16) := (blk_cell BK1230.out 1).trans rfl
                      have hcz32_2 : wc.cell? ⟨gb1230, 2, none⟩ = some (.int .i64 0) := (blk_cell BK1230.out 2).trans rfl
                      have hcz32_3 : wc.cell? ⟨gb1230, 3, none⟩ = some (.int .i64 0) := (blk_cell BK1230.out 3).trans rfl
                      have hfz32_0 := blk_frozen BK1230.out 0
                      have hfz32_1 := blk_frozen BK1230.out 1
                      have hfz32_2 := blk_frozen BK1230.out 2
                      have hfz32_3 := blk_frozen BK1230.out 3
                      have hcz33_0 : wc.cell? ⟨gb1229, 0, none⟩ = some (.int .u8 0) := (blk_cell BK1229.out 0).trans rfl
                      have hcz33_1 : wc.cell? ⟨gb1229, 1, none⟩ = some (.int .i64 0) := (blk_cell BK1229.out 1).trans rfl
                      have hcz33_2 : wc.cell? ⟨gb1229, 2, none⟩ = some (.int .i64 0) := (blk_cell BK1229.out 2).trans rfl
                      have hcz33_3 : wc.cell? ⟨gb1229, 3, none⟩ = some (.int .i64 0) := (blk_cell BK1229.out 3).trans rfl
                      have hfz33_0 := blk_frozen BK1229.out 0
                      have hfz33_1 := blk_frozen BK1229.out 1
                      have hfz33_2 := blk_frozen BK1229.out 2
                      have hfz33_3 := blk_frozen BK1229.out 3
                      go_wp2
                      refine bodyPost_ret (results_ct rfl _ _ gb1229 78 #[.int .u8 a0, .int .i64 x1231001_16, .int .i64 (rd l1 1), .int .i64 0] (0, 0) _ rfl (by (with_reducible repeat (first | refine blk_drewN ?_ _ | refine blk_drew ?_ | refine blk_alloc ?_ _)); refine blk_put (cs := #[.int .u8 a0, .int .i64 x1231001_16, .int .i64 (rd l1 1), .int .i64 0]) ?_ 3 _ rfl; (with_reducible repeat (first | refine blk_drewN ?_ _ | refine blk_drew ?_ | refine blk_alloc ?_ _)); refine blk_put (cs := #[.int .u8 a0, .int .i64 x1231001_16, .int .i64 0, .int .i64 0]) ?_ 2 _ rfl; (with_reducible repeat (first | refine blk_drewN ?_ _ | refine blk_drew ?_ | refine blk_alloc ?_ _)); refine blk_put (cs := #[.int .u8 a0, .int .i64 0, .int .i64 0, .int .i64 0]) ?_ 1 _ rfl; (with_reducible repeat (first | refine blk_drewN ?_ _ | refine blk_drew ?_ | refine blk_alloc ?_ _)); refine blk_put (cs := #[.int .u8 0, .int .i64 0, .int .i64 0, .int .i64 0]) ?_ 0 _ rfl; (with_reducible repeat (first | refine blk_drewN ?_ _ | refine blk_drew ?_ | refine blk_alloc ?_ _)); refine blk_far ?_ NB1229_1230.out _; (with_reducible repeat (first | refine blk_drewN ?_ _ | refine blk_drew ?_ | refine blk_alloc ?_ _)); exact BK1229.out) Try.underlying78 rfl (by kernel_rfl)) rfl ?_
                      exact ⟨by first | rfl | (simp [errW_none, errW_some] <;> rfl) | (simp [*, errW_none, errW_some] <;> rfl), by repeat (first | (with_reducible first | exact HB.out | apply below_alloc | apply pw_below_drewN | apply below_drew1 | refine below_set ?_ GE1229.out | refine below_set ?_ GE1230.out) | exact HB.out)⟩
                    · rw [if_neg c30] at H
                      exact absurd H (by simp)
                  · rw [if_neg c29] at H
                    have c29b0 : (a0 == 10) = false := beq_eq_false_iff_ne.mpr c29
                    have c29b1 : (a0 != 10) = true := bne_iff_ne.mpr c29
                    by_cases c34 : a0 = 11
                    · rw [if_pos c34] at H
                      have c34b0 : (a0 == 11) = true := beq_iff_eq.mpr c34
                      have c34b1 : (a0 != 11) = false := bne_eq_false_iff_eq.mpr c34
                      clear c34
                      by_cases c35 : 1 < (l1.length : Int)
                      · rw [if_pos c35] at H
                        have c35b0 : decide (1 < (l1.length : Int)) = true := decide_eq_true c35
                        have c35b1 : decide (1 < l1.length) = true := decide_eq_true (by omega)
                        clear c35
                        simp only [Option.some.injEq, Prod.mk.injEq] at H
                        obtain ⟨rfl, rfl, rfl, rfl, rfl⟩ := H
                        have p1237 : 0 ≤ (1 : Int) := (by omega)
                        have q1237 : 1 < (l1.length : Int) := of_decide_eq_true (by first | (with_reducible assumption) | assumption)
                        obtain ⟨ad1237, e1237, hx1237_0⟩ := Kd.at_int HR1.out 1 p1237 q1237
                        cases e1237
                        (try simp only [show (1 : Int).toNat = 1 from rfl, Nat.reduceMul, Nat.reduceEqDiff, Go.Addr.add, ↓reduceIte] at hx1237_0)
                        have qi1237 : (1 < l1.length) = True := eq_true (by omega)
                        (try rw [show ((1 : Int)).toNat = 1 from rfl] at hx1237_0)
                        replace hx1237_0 := (HB.out.cell (World.block_lt_of_cell? w _ hx1237_0)).trans hx1237_0
                        replace p1237 := eq_true p1237
                        replace q1237 := eq_true q1237
                        have hnb36 := NB1230_1229.out
                        have hnc36 := NB1229_1230.out
                        have hcz37_0 : wc.cell? ⟨gb1230, 0, none⟩ = some (.int .u8 a0) := (blk_cell BK1230.out 0).trans rfl
                        have hcz37_1 : wc.cell? ⟨gb1230, 1, none⟩ = some (.int .i64 x1231001_16) := (blk_cell BK1230.out 1).trans rfl
                        have hcz37_2 : wc.cell? ⟨gb1230, 2, none⟩ = some (.int .i64 0) := (blk_cell BK1230.out 2).trans rfl
                        have hcz37_3 : wc.cell? ⟨gb1230, 3, none⟩ = some (.int .i64 0) := (blk_cell BK1230.out 3).trans rfl
                        have hfz37_0 := blk_frozen BK1230.out 0
                        have hfz37_1 := blk_frozen BK1230.out 1
                        have hfz37_2 := blk_frozen BK1230.out 2
                        have hfz37_3 := blk_frozen BK1230.out 3
                        have hcz38_0 : wc.cell? ⟨gb1229, 0, none⟩ = some (.int .u8 0) := (blk_cell BK1229.out 0).trans rfl
                        have hcz38_1 : wc.cell? ⟨gb1229, 1, none⟩ = some (.int .i64 0) := (blk_cell BK1229.out 1).trans rfl
                        have hcz38_2 : wc.cell? ⟨gb1229, 2, none⟩ = some (.int .i64 0) := (blk_cell BK1229.out 2).trans rfl
                        have hcz38_3 : wc.cell? ⟨gb1229, 3, none⟩ = some (.int .i64 0) := (blk_cell BK1229.out 3).trans rfl
                        have hfz38_0 := blk_frozen BK1229.out 0
                        have hfz38_1 := blk_frozen BK1229.out 1
                        have hfz38_2 := blk_frozen BK1229.out 2
                        have hfz38_3 := blk_frozen BK1229.out 3
                        go_wp2
                        refine bodyPost_ret (results_ct rfl _ _ gb1229 78 #[.int .u8 a0, .int .i64 x1231001_16, .int .i64 (rd l1 1), .int .i64 0] (0, 0) _ rfl (by (with_reducible repeat (first | refine blk_drewN ?_ _ | refine blk_drew ?_ | refine blk_alloc ?_ _)); refine blk_put (cs := #[.int .u8 a0, .int .i64 x1231001_16, .int .i64 (rd l1 1), .int .i64 0]) ?_ 3 _ rfl; (with_reducible repeat (first | refine blk_drewN ?_ _ | refine blk_drew ?_ | refine blk_alloc ?_ _)); refine blk_put (cs := #[.int .u8 a0, .int .i64 x1231001_16, .int .i64 0, .int .i64 0]) ?_ 2 _ rfl; (with_reducible repeat (first | refine blk_drewN ?_ _ | refine blk_drew ?_ | refine blk_alloc ?_ _)); refine blk_put (cs := #[.int .u8 a0, .int .i64 0, .int .i64 0, .int .i64 0]) ?_ 1 _ rfl; (with_reducible repeat (first | refine blk_drewN ?_ _ | refine blk_drew ?_ | refine blk_alloc ?_ _)); refine blk_put (cs := #[.int .u8 0, .int .i64 0, .int .i64 0, .int .i64 0]) ?_ 0 _ rfl; (with_reducible repeat (first | refine blk_drewN ?_ _ | refine blk_drew ?_ | refine blk_alloc ?_ _)); refine blk_far ?_ NB1229_1230.out _; (with_reducible repeat (first | refine blk_drewN ?_ _ | refine blk_drew ?_ | refine blk_alloc ?_ _)); exact BK1229.out) Try.underlying78 rfl (by kernel_rfl)) rfl ?_
                        exact ⟨by first | rfl | (simp [errW_none, errW_some] <;> rfl) | (simp [*, errW_none, errW_some] <;> rfl), by repeat (first | (with_reducible first | exact HB.out | apply below_alloc | apply pw_below_drewN | apply below_drew1 | refine below_set ?_ GE1229.out | refine below_set ?_ GE1230.out) | exact HB.out)⟩
                      · rw [if_neg c35] at H
                        exact absurd H (by simp)
                    · rw [if_neg c34] at H
                      have c34b0 : (a0 == 11) = false := beq_eq_false_iff_ne.mpr c34
                      have c34b1 : (a0 != 11) = true := bne_iff_ne.mpr c34
                      simp only [Option.some.injEq, Prod.mk.injEq] at H
                      obtain ⟨rfl, rfl, rfl, rfl, rfl⟩ := H
                      have hnb39 := NB1230_1229.out
                      have hnc39 := NB1229_1230.out
                      have hcz40_0 : wc.cell? ⟨gb1230, 0, none⟩ = some (.int .u8 a0) := (blk_cell BK1230.out 0).trans rfl
                      have hcz40_1 : wc.cell? ⟨gb1230, 1, none⟩ = some (.int .i64 x1231001_16) := (blk_cell BK1230.out 1).trans rfl
                      have hcz40_2 : wc.cell? ⟨gb1230, 2, none⟩ = some (.int .i64 0) := (blk_cell BK1230.out 2).trans rfl
                      have hcz40_3 : wc.cell? ⟨gb1230, 3, none⟩ = some (.int .i64 0) := (blk_cell BK1230.out 3).trans rfl
                      have hfz40_0 := blk_frozen BK1230.out 0
                      have hfz40_1 := blk_frozen BK1230.out 1
                      have hfz40_2 := blk_frozen BK1230.out 2
                      have hfz40_3 := blk_frozen BK1230.out 3
                      have hcz41_0 : wc.cell? ⟨gb1229, 0, none⟩ = some (.int .u8 0) := (blk_cell BK1229.out 0).trans rfl
                      have hcz41_1 : wc.cell? ⟨gb1229, 1, none⟩ = some (.int .i64 0) := (blk_cell BK1229.out 1).trans rfl
                      have hcz41_2 : wc.cell? ⟨gb1229, 2, none⟩ = some (.int .i64 0) := (blk_cell BK1229.out 2).trans rfl
                      have hcz41_3 : wc.cell? ⟨gb1229, 3, none⟩ = some (.int .i64 0) := (blk_cell BK1229.out 3).trans rfl
                      have hfz41_0 := blk_frozen BK1229.out 0
                      have hfz41_1 := blk_frozen BK1229.out 1
                      have hfz41_2 := blk_frozen BK1229.out 2
                      have hfz41_3 := blk_frozen BK1229.out 3
                      go_wp2
                      refine bodyPost_ret (results_ct rfl _ _ gb1229 78 #[.int .u8 a0, .int .i64 x1231001_16, .int .i64 0, .int .i64 0] (0, 0) _ rfl (by (with_reducible repeat (first | refine blk_drewN ?_ _ | refine blk_drew ?_ | refine blk_alloc ?_ _)); refine blk_put (cs := #[.int .u8 a0, .int .i64 x1231001_16, .int .i64 0, .int .i64 0]) ?_ 3 _ rfl; (with_reducible repeat (first | refine blk_drewN ?_ _ | refine blk_drew ?_ | refine blk_alloc ?_ _)); refine blk_put (cs := #[.int .u8 a0, .int .i64 x1231001_16, .int .i64 0, .int .i64 0]) ?_ 2 _ rfl; (with_reducible repeat (first | refine blk_drewN ?_ _ | refine blk_drew ?_ | refine blk_alloc ?_ _)); refine blk_put (cs := #[.int .u8 a0, .int .i64 0, .int .i64 0, .int .i64 0]) ?_ 1 _ rfl; (with_reducible repeat (first | refine blk_drewN ?_ _ | refine blk_drew ?_ | refine blk_alloc ?_ _)); refine blk_put (cs := #[.int .u8 0, .int .i64 0, .int .i64 0, .int .i64 0]) ?_ 0 _ rfl; (with_reducible repeat (first | refine blk_drewN ?_ _ | refine blk_drew ?_ | refine blk_alloc ?_ _)); exact BK1229.out) Try.underlying78 rfl (by kernel_rfl)) rfl ?_
                      exact ⟨by first | rfl | (simp [errW_none, errW_some] <;> rfl) | (simp [*, errW_none, errW_some] <;> rfl), by repeat (first | (with_reducible first | exact HB.out | apply below_alloc | apply pw_below_drewN | apply below_drew1 | refine below_set ?_ GE1229.out | refine below_set ?_ GE1230.out) | exact HB.out)⟩

end Go.Proofs.Ytkoiffkonjpoiaa.Q
