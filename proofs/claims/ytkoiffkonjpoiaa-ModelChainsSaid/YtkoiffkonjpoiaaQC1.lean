/- Go functions of the program as plain Lean functions, and for each the contract that the call comes to its answers; written by a turned print of this session. -/
import Derived.Test.YtkoiffkonjpoiaaQ0
namespace Go.Proofs.Ytkoiffkonjpoiaa.Q
open Go.RowKit Go.Proofs.YtkoiffkonjpoiaaW.PrintWords Go.Proofs.YtkoiffkonjpoiaaW.PrintLast Go.Proofs.YtkoiffkonjpoiaaW.PrintMore Go.Proofs.YtkoiffkonjpoiaaX
attribute [local go_sem] max2_int min2_int max_two min_two max_three min_three max_four min_four   -- for this text's walks alone
set_option linter.unusedVariables false
set_option linter.unusedSimpArgs false

def model_Op_Span.j0 : Nat → Int → Bool → Int → Int → Int → Int → Option (Int × Int × Bool)
  | 0, _, _, _, _, _, _ => none
  | k + 1, x6, x15, x773000, x773001, x773002, x773003 => if x15 = true then (some ((-9223372036854775808), 9223372036854775807, true)) else (if x6 = 8 then (if x773001 = (-9223372036854775808) then (some (1, 0, true)) else (some ((-9223372036854775808), wrap64 (x773001 - 1), true))) else (if x6 = 10 then (some (x773001, x773002, true)) else (if x6 = 11 then (some (x773001, x773002, true)) else (some (0, 0, false)))))
def model_Op_Span.f (k : Nat) (a0_0 : Int) (a0_1 : Int) (a0_2 : Int) (a0_3 : Int) : Option (Int × Int × Bool) := if a0_0 = 4 then (some ((-9223372036854775808), a0_1, true)) else (if a0_0 = 5 then (some (a0_1, 9223372036854775807, true)) else (if a0_0 = 6 then (model_Op_Span.j0 k a0_0 (a0_0 == 6) a0_0 a0_1 a0_2 a0_3) else (if a0_0 = 7 then (model_Op_Span.j0 k a0_0 (a0_0 == 7) a0_0 a0_1 a0_2 a0_3) else (model_Op_Span.j0 k a0_0 (a0_0 == 9) a0_0 a0_1 a0_2 a0_3))))
theorem model_Op_Span.mono_l : ∀ k, (∀ y0 y1 y2 y3 y4 y5, LeO (model_Op_Span.j0 k y0 y1 y2 y3 y4 y5) (model_Op_Span.j0 (k + 1) y0 y1 y2 y3 y4 y5))
  | 0 => fun _ _ _ _ _ _ r h => by simp [model_Op_Span.j0] at h
  | k + 1 => by
    have ih0 := model_Op_Span.mono_l k
    · intro y0 y1 y2 y3 y4 y5
      unfold model_Op_Span.j0
      repeat' first
      | (with_reducible exact ih0 _ _ _ _ _ _)
      | (with_reducible exact LeO.refl _)
      | (with_reducible exact LeO.none _)
      | (with_reducible refine LeO.ite ?_ ?_)
      | (with_reducible refine LeO.bind ?_ (fun _ => ?_))
      | exact ih0 _ _ _ _ _ _
      | exact LeO.none _
      | refine LeO.ite ?_ ?_
      | refine LeO.bind ?_ (fun _ => ?_)
theorem model_Op_Span.mono : ∀ a0 a1 a2 a3 k, LeO (model_Op_Span.f k a0 a1 a2 a3) (model_Op_Span.f (k + 1) a0 a1 a2 a3) := by
  intro a0 a1 a2 a3 k
  have ih0 := model_Op_Span.mono_l k
  unfold model_Op_Span.f
  repeat' first
      | (with_reducible exact ih0 _ _ _ _ _ _)
      | (with_reducible exact LeO.refl _)
      | (with_reducible exact LeO.none _)
      | (with_reducible refine LeO.ite ?_ ?_)
      | (with_reducible refine LeO.bind ?_ (fun _ => ?_))
      | exact ih0 _ _ _ _ _ _
      | exact LeO.none _
      | refine LeO.ite ?_ ?_
      | refine LeO.bind ?_ (fun _ => ?_)
set_option maxHeartbeats 8000000 in
set_option maxRecDepth 100000 in
theorem model_Op_Span.calls (k : Nat) (a0_0 : Int) (a0_1 : Int) (a0_2 : Int) (a0_3 : Int) (r1 : Int) (r2 : Int) (r3 : Bool) (w : World) (h : model_Op_Span.f k a0_0 a0_1 a0_2 a0_3 = some (r1, r2, r3)) :
    Calls Try.prog 71 #[.agg #[.int .u8 a0_0, .int .i64 a0_1, .int .i64 a0_2, .int .i64 a0_3]] w fun e w' => e = .returned (.tuple #[.int .i64 r1, .int .i64 r2, .bool r3]) ∧ Below w.heap.size w w' := by
  have hu78 := Try.underlying78
  have HB := Aside0.mk (Below.refl w.heap.size w)
  have H : (if a0_0 = 4 then (some ((-9223372036854775808), a0_1, true)) else (if a0_0 = 5 then (some (a0_1, 9223372036854775807, true)) else (if a0_0 = 6 then (model_Op_Span.j0 k a0_0 (a0_0 == 6) a0_0 a0_1 a0_2 a0_3) else (if a0_0 = 7 then (model_Op_Span.j0 k a0_0 (a0_0 == 7) a0_0 a0_1 a0_2 a0_3) else (model_Op_Span.j0 k a0_0 (a0_0 == 9) a0_0 a0_1 a0_2 a0_3))))) = some (r1, r2, r3) := h
  clear h
  by_cases c2 : a0_0 = 4
  · rw [if_pos c2] at H
    have c2b0 : (a0_0 == 4) = true := beq_iff_eq.mpr c2
    have c2b1 : (a0_0 != 4) = false := bne_eq_false_iff_eq.mpr c2
    clear c2
    simp only [Option.some.injEq, Prod.mk.injEq] at H
    obtain ⟨rfl, rfl, rfl⟩ := H
    go_enter Try.func71, Try.ntmps71
    go_wp2_with (first | ((with_reducible refine gate_dst (N := 1) rfl ?_); refine box_event ?hg (N := 1) ?hd (cs := #[.int .u8 a0_0, .int .i64 a0_1, .int .i64 a0_2, .int .i64 a0_3]) (t := 78) ?hr ?_; (case hd => rfl); (case hg => rfl); (case hr => first | (go_simp; done) | (go_simp; rfl)); intro gb772 hg w3 hbox hb; have n0_ := Aside0.mk (below_step (by repeat (first | (with_reducible first | exact HB.out | apply below_alloc | apply pw_below_drewN | apply below_drew1) | exact HB.out)) hb); have n1_ := Aside0.mk (hbox); have n2_ := Aside0.mk ((by rw [hg]; exact (below_size (by repeat (first | (with_reducible first | exact HB.out | apply below_alloc | apply pw_below_drewN | apply below_drew1) | exact HB.out))) : w.heap.size ≤ gb772)); have n3_ := Aside0.mk ((by rw [hg]; exact (below_size (by repeat (first | (with_reducible first | exact HB.out | apply below_alloc | apply pw_below_drewN | apply below_drew1) | exact HB.out))) : w.heap.size ≤ gb772)); clear HB; have HB := n0_; have BK772 := n1_; have GW772 := n2_; have GE772 := n3_; clear n0_ n1_ n2_ n3_; clear hb hbox hg; have hcz4_0 : w3.cell? ⟨gb772, 0, none⟩ = some (.int .u8 a0_0) := (blk_cell BK772.out 0).trans rfl; have hcz4_1 : w3.cell? ⟨gb772, 1, none⟩ = some (.int .i64 a0_1) := (blk_cell BK772.out 1).trans rfl; have hcz4_2 : w3.cell? ⟨gb772, 2, none⟩ = some (.int .i64 a0_2) := (blk_cell BK772.out 2).trans rfl; have hcz4_3 : w3.cell? ⟨gb772, 3, none⟩ = some (.int .i64 a0_3) := (blk_cell BK772.out 3).trans rfl; have hfz4_0 := blk_frozen BK772.out 0; have hfz4_1 := blk_frozen BK772.out 1; have hfz4_2 := blk_frozen BK772.out 2; have hfz4_3 := blk_frozen BK772.out 3))
    repeat (go_quiet (first | ((with_reducible refine gate_dst (N := 1) rfl ?_); refine box_event ?hg (N := 1) ?hd (cs := #[.int .u8 a0_0, .int .i64 a0_1, .int .i64 a0_2, .int .i64 a0_3]) (t := 78) ?hr ?_; (case hd => rfl); (case hg => rfl); (case hr => first | (go_simp; done) | (go_simp; rfl)); intro gb772 hg w3 hbox hb; have n0_ := Aside0.mk (below_step (by repeat (first | (with_reducible first | exact HB.out | apply below_alloc | apply pw_below_drewN | apply below_drew1) | exact HB.out)) hb); have n1_ := Aside0.mk (hbox); have n2_ := Aside0.mk ((by rw [hg]; exact (below_size (by repeat (first | (with_reducible first | exact HB.out | apply below_alloc | apply pw_below_drewN | apply below_drew1) | exact HB.out))) : w.heap.size ≤ gb772)); have n3_ := Aside0.mk ((by rw [hg]; exact (below_size (by repeat (first | (with_reducible first | exact HB.out | apply below_alloc | apply pw_below_drewN | apply below_drew1) | exact HB.out))) : w.heap.size ≤ gb772)); clear HB; have HB := n0_; have BK772 := n1_; have GW772 := n2_; have GE772 := n3_; clear n0_ n1_ n2_ n3_; clear hb hbox hg; have hcz4_0 : w3.cell? ⟨gb772, 0, none⟩ = some (.int .u8 a0_0) := (blk_cell BK772.out 0).trans rfl; have hcz4_1 : w3.cell? ⟨gb772, 1, none⟩ = some (.int .i64 a0_1) := (blk_cell BK772.out 1).trans rfl; have hcz4_2 : w3.cell? ⟨gb772, 2, none⟩ = some (.int .i64 a0_2) := (blk_cell BK772.out 2).trans rfl; have hcz4_3 : w3.cell? ⟨gb772, 3, none⟩ = some (.int .i64 a0_3) := (blk_cell BK772.out 3).trans rfl; have hfz4_0 := blk_frozen BK772.out 0; have hfz4_1 := blk_frozen BK772.out 1; have hfz4_2 := blk_frozen BK772.out 2; have hfz4_3 := blk_frozen BK772.out 3)); try go_wp2_with (first | ((with_reducible refine gate_dst (N := 1) rfl ?_); refine box_event ?hg (N := 1) ?hd (cs := #[.int .u8 a0_0, .int .i64 a0_1, .int .i64 a0_2, .int .i64 a0_3]) (t := 78) ?hr ?_; (case hd => rfl); (case hg => rfl); (case hr => first | (go_simp; done) | (go_simp; rfl)); intro gb772 hg w3 hbox hb; have n0_ := Aside0.mk (below_step (by repeat (first | (with_reducible first | exact HB.out | apply below_alloc | apply pw_below_drewN | apply below_drew1) | exact HB.out)) hb); have n1_ := Aside0.mk (hbox); have n2_ := Aside0.mk ((by rw [hg]; exact (below_size (by repeat (first | (with_reducible first | exact HB.out | apply below_alloc | apply pw_below_drewN | apply below_drew1) | exact HB.out))) : w.heap.size ≤ gb772)); have n3_ := Aside0.mk ((by rw [hg]; exact (below_size (by repeat (first | (with_reducible first | exact HB.out | apply below_alloc | apply pw_below_drewN | apply below_drew1) | exact HB.out))) : w.heap.size ≤ gb772)); clear HB; have HB := n0_; have BK772 := n1_; have GW772 := n2_; have GE772 := n3_; clear n0_ n1_ n2_ n3_; clear hb hbox hg; have hcz4_0 : w3.cell? ⟨gb772, 0, none⟩ = some (.int .u8 a0_0) := (blk_cell BK772.out 0).trans rfl; have hcz4_1 : w3.cell? ⟨gb772, 1, none⟩ = some (.int .i64 a0_1) := (blk_cell BK772.out 1).trans rfl; have hcz4_2 : w3.cell? ⟨gb772, 2, none⟩ = some (.int .i64 a0_2) := (blk_cell BK772.out 2).trans rfl; have hcz4_3 : w3.cell? ⟨gb772, 3, none⟩ = some (.int .i64 a0_3) := (blk_cell BK772.out 3).trans rfl; have hfz4_0 := blk_frozen BK772.out 0; have hfz4_1 := blk_frozen BK772.out 1; have hfz4_2 := blk_frozen BK772.out 2; have hfz4_3 := blk_frozen BK772.out 3)))
    go_ret3
    exact ⟨by first | rfl | (simp [errW_none, errW_some] <;> rfl) | (simp [*, errW_none, errW_some] <;> rfl), by repeat (first | (with_reducible first | exact HB.out | apply below_alloc | apply pw_below_drewN | apply below_drew1 | refine below_set ?_ GE772.out) | exact HB.out)⟩
  · rw [if_neg c2] at H
    have c2b0 : (a0_0 == 4) = false := beq_eq_false_iff_ne.mpr c2
    have c2b1 : (a0_0 != 4) = true := bne_iff_ne.mpr c2
    by_cases c5 : a0_0 = 5
    · rw [if_pos c5] at H
      have c5b0 : (a0_0 == 5) = true := beq_iff_eq.mpr c5
      have c5b1 : (a0_0 != 5) = false := bne_eq_false_iff_eq.mpr c5
      clear c5
      simp only [Option.some.injEq, Prod.mk.injEq] at H
      obtain ⟨rfl, rfl, rfl⟩ := H
      go_enter Try.func71, Try.ntmps71
      go_wp2_with (first | ((with_reducible refine gate_dst (N := 1) rfl ?_); refine box_event ?hg (N := 1) ?hd (cs := #[.int .u8 a0_0, .int .i64 a0_1, .int .i64 a0_2, .int .i64 a0_3]) (t := 78) ?hr ?_; (case hd => rfl); (case hg => rfl); (case hr => first | (go_simp; done) | (go_simp; rfl)); intro gb772 hg w6 hbox hb; have n0_ := Aside0.mk (below_step (by repeat (first | (with_reducible first | exact HB.out | apply below_alloc | apply pw_below_drewN | apply below_drew1) | exact HB.out)) hb); have n1_ := Aside0.mk (hbox); have n2_ := Aside0.mk ((by rw [hg]; exact (below_size (by repeat (first | (with_reducible first | exact HB.out | apply below_alloc | apply pw_below_drewN | apply below_drew1) | exact HB.out))) : w.heap.size ≤ gb772)); have n3_ := Aside0.mk ((by rw [hg]; exact (below_size (by repeat (first | (with_reducible first | exact HB.out | apply below_alloc | apply pw_below_drewN | apply below_drew1) | exact HB.out))) : w.heap.size ≤ gb772)); clear HB; have HB := n0_; have BK772 := n1_; have GW772 := n2_; have GE772 := n3_; clear n0_ n1_ n2_ n3_; clear hb hbox hg; have hcz7_0 : w6.cell? ⟨gb772, 0, none⟩ = some (.int .u8 a0_0) := (blk_cell BK772.out 0).trans rfl; have hcz7_1 : w6.cell? ⟨gb772, 1, none⟩ = some (.int .i64 a0_1) := (blk_cell BK772.out 1).trans rfl; have hcz7_2 : w6.cell? ⟨gb772, 2, none⟩ = some (.int .i64 a0_2) := (blk_cell BK772.out 2).trans rfl; have hcz7_3 : w6.cell? ⟨gb772, 3, none⟩ = some (.int .i64 a0_3) := (blk_cell BK772.out 3).trans rfl; have hfz7_0 := blk_frozen BK772.out 0; have hfz7_1 := blk_frozen BK772.out 1; have hfz7_2 := blk_frozen BK772.out 2; have hfz7_3 := blk_frozen BK772.out 3))
      repeat (go_quiet (first | ((with_reducible refine gate_dst (N := 1) rfl ?_); refine box_event ?hg (N := 1) ?hd (cs := #[.int .u8 a0_0, .int .i64 a0_1, .int .i64 a0_2, .int .i64 a0_3]) (t := 78) ?hr ?_; (case hd => rfl); (case hg => rfl); (case hr => first | (go_simp; done) | (go_simp; rfl)); intro gb772 hg w6 hbox hb; have n0_ := Aside0.mk (below_step (by repeat (first | (with_reducible first | exact HB.out | apply below_alloc | apply pw_below_drewN | apply below_drew1) | exact HB.out)) hb); have n1_ := Aside0.mk (hbox); have n2_ := Aside0.mk ((by rw [hg]; exact (below_size (by repeat (first | (with_reducible first | exact HB.out | apply below_alloc | apply pw_below_drewN | apply below_drew1) | exact HB.out))) : w.heap.size ≤ gb772)); have n3_ := Aside0.mk ((by rw [hg]; exact (below_size (by repeat (first | (with_reducible first | exact HB.out | apply below_alloc | apply pw_below_drewN | apply below_drew1) | exact HB.out))) : w.heap.size ≤ gb772)); clear HB; have HB := n0_; have BK772 := n1_; have GW772 := n2_; have GE772 := n3_; clear n0_ n1_ n2_ n3_; clear hb hbox hg; have hcz7_0 : w6.cell? ⟨gb772, 0, none⟩ = some (.int .u8 a0_0) := (blk_cell BK772.out 0).trans rfl; have hcz7_1 : w6.cell? ⟨gb772, 1, none⟩ = some (.int .i64 a0_1) := (blk_cell BK772.out 1).trans rfl; have hcz7_2 : w6.cell? ⟨gb772, 2, none⟩ = some (.int .i64 a0_2) := (blk_cell BK772.out 2).trans rfl; have hcz7_3 : w6.cell? ⟨gb772, 3, none⟩ = some (.int .i64 a0_3) := (blk_cell BK772.out 3).trans rfl; have hfz7_0 := blk_frozen BK772.out 0; have hfz7_1 := blk_frozen BK772.out 1; have hfz7_2 := blk_frozen BK772.out 2; have hfz7_3 := blk_frozen BK772.out 3)); try go_wp2_with (first | ((with_reducible refine gate_dst (N := 1) rfl ?_); refine box_event ?hg (N := 1) ?hd (cs := #[.int .u8 a0_0, .int .i64 a0_1, .int .i64 a0_2, .int .i64 a0_3]) (t := 78) ?hr ?_; (case hd => rfl); (case hg => rfl); (case hr => first | (go_simp; done) | (go_simp; rfl)); intro gb772 hg w6 hbox hb; have n0_ := Aside0.mk (below_step (by repeat (first | (with_reducible first | exact HB.out | apply below_alloc | apply pw_below_drewN | apply below_drew1) | exact HB.out)) hb); have n1_ := Aside0.mk (hbox); have n2_ := Aside0.mk ((by rw [hg]; exact (below_size (by repeat (first | (with_reducible first | exact HB.out | apply below_alloc | apply pw_below_drewN | apply below_drew1) | exact HB.out))) : w.heap.size ≤ gb772)); have n3_ := Aside0.mk ((by rw [hg]; exact (below_size (by repeat (first | (with_reducible first | exact HB.out | apply below_alloc | apply pw_below_drewN | apply below_drew1) | exact HB.out))) : w.heap.size ≤ gb772)); clear HB; have HB := n0_; have BK772 := n1_; have GW772 := n2_; have GE772 := n3_; clear n0_ n1_ n2_ n3_; clear hb hbox hg; have hcz7_0 : w6.cell? ⟨gb772, 0, none⟩ = some (.int .u8 a0_0) := (blk_cell BK772.out 0).trans rfl; have hcz7_1 : w6.cell? ⟨gb772, 1, none⟩ = some (.int .i64 a0_1) := (blk_cell BK772.out 1).trans rfl; have hcz7_2 : w6.cell? ⟨gb772, 2, none⟩ = some (.int .i64 a0_2) := (blk_cell BK772.out 2).trans rfl; have hcz7_3 : w6.cell? ⟨gb772, 3, none⟩ = some (.int .i64 a0_3) := (blk_cell BK772.out 3).trans rfl; have hfz7_0 := blk_frozen BK772.out 0; have hfz7_1 := blk_frozen BK772.out 1; have hfz7_2 := blk_frozen BK772.out 2; have hfz7_3 := blk_frozen BK772.out 3)))
      go_ret3
      exact ⟨by first | rfl | (simp [errW_none, errW_some] <;> rfl) | (simp [*, errW_none, errW_some] <;> rfl), by repeat (first | (with_reducible first | exact HB.out | apply below_alloc | apply pw_below_drewN | apply below_drew1 | refine below_set ?_ GE772.out) | exact HB.out)⟩
    · rw [if_neg c5] at H
      have c5b0 : (a0_0 == 5) = false := beq_eq_false_iff_ne.mpr c5
      have c5b1 : (a0_0 != 5) = true := bne_iff_ne.mpr c5
      have HC8 := Aside0.mk H
      clear H
      go_enter Try.func71, Try.ntmps71
      go_upto_if 15 with (first | ((with_reducible refine gate_dst (N := 1) rfl ?_); refine box_event ?hg (N := 1) ?hd (cs := #[.int .u8 a0_0, .int .i64 a0_1, .int .i64 a0_2, .int .i64 a0_3]) (t := 78) ?hr ?_; (case hd => rfl); (case hg => rfl); (case hr => first | (go_simp; done) | (go_simp; rfl)); intro gb772 hg w9 hbox hb; have n0_ := Aside0.mk (below_step (by repeat (first | (with_reducible first | exact HB.out | apply below_alloc | apply pw_below_drewN | apply below_drew1) | exact HB.out)) hb); have n1_ := Aside0.mk (hbox); have n2_ := Aside0.mk ((by rw [hg]; exact (below_size (by repeat (first | (with_reducible first | exact HB.out | apply below_alloc | apply pw_below_drewN | apply below_drew1) | exact HB.out))) : w.heap.size ≤ gb772)); have n3_ := Aside0.mk ((by rw [hg]; exact (below_size (by repeat (first | (with_reducible first | exact HB.out | apply below_alloc | apply pw_below_drewN | apply below_drew1) | exact HB.out))) : w.heap.size ≤ gb772)); clear HB; have HB := n0_; have BK772 := n1_; have GW772 := n2_; have GE772 := n3_; clear n0_ n1_ n2_ n3_; clear hb hbox hg; have hcz10_0 : w9.cell? ⟨gb772, 0, none⟩ = some (.int .u8 a0_0) := (blk_cell BK772.out 0).trans rfl; have hcz10_1 : w9.cell? ⟨gb772, 1, none⟩ = some (.int .i64 a0_1) := (blk_cell BK772.out 1).trans rfl; have hcz10_2 : w9.cell? ⟨gb772, 2, none⟩ = some (.int .i64 a0_2) := (blk_cell BK772.out 2).trans rfl; have hcz10_3 : w9.cell? ⟨gb772, 3, none⟩ = some (.int .i64 a0_3) := (blk_cell BK772.out 3).trans rfl; have hfz10_0 := blk_frozen BK772.out 0; have hfz10_1 := blk_frozen BK772.out 1; have hfz10_2 := blk_frozen BK772.out 2; have hfz10_3 := blk_frozen BK772.out 3))
      repeat (go_quiet (first | ((with_reducible refine gate_dst (N := 1) rfl ?_); refine box_event ?hg (N := 1) ?hd (cs := #[.int .u8 a0_0, .int .i64 a0_1, .int .i64 a0_2, .int .i64 a0_3]) (t := 78) ?hr ?_; (case hd => rfl); (case hg => rfl); (case hr => first | (go_simp; done) | (go_simp; rfl)); intro gb772 hg w9 hbox hb; have n0_ := Aside0.mk (below_step (by repeat (first | (with_reducible first | exact HB.out | apply below_alloc | apply pw_below_drewN | apply below_drew1) | exact HB.out)) hb); have n1_ := Aside0.mk (hbox); have n2_ := Aside0.mk ((by rw [hg]; exact (below_size (by repeat (first | (with_reducible first | exact HB.out | apply below_alloc | apply pw_below_drewN | apply below_drew1) | exact HB.out))) : w.heap.size ≤ gb772)); have n3_ := Aside0.mk ((by rw [hg]; exact (below_size (by repeat (first | (with_reducible first | exact HB.out | apply below_alloc | apply pw_below_drewN | apply below_drew1) | exact HB.out))) : w.heap.size ≤ gb772)); clear HB; have HB := n0_; have BK772 := n1_; have GW772 := n2_; have GE772 := n3_; clear n0_ n1_ n2_ n3_; clear hb hbox hg; have hcz10_0 : w9.cell? ⟨gb772, 0, none⟩ = some (.int .u8 a0_0) := (blk_cell BK772.out 0).trans rfl; have hcz10_1 : w9.cell? ⟨gb772, 1, none⟩ = some (.int .i64 a0_1) := (blk_cell BK772.out 1).trans rfl; have hcz10_2 : w9.cell? ⟨gb772, 2, none⟩ = some (.int .i64 a0_2) := (blk_cell BK772.out 2).trans rfl; have hcz10_3 : w9.cell? ⟨gb772, 3, none⟩ = some (.int .i64 a0_3) := (blk_cell BK772.out 3).trans rfl; have hfz10_0 := blk_frozen BK772.out 0; have hfz10_1 := blk_frozen BK772.out 1; have hfz10_2 := blk_frozen BK772.out 2; have hfz10_3 := blk_frozen BK772.out 3)); go_upto_if 15 with (first | ((with_reducible refine gate_dst (N := 1) rfl ?_); refine box_event ?hg (N := 1) ?hd (cs := #[.int .u8 a0_0, .int .i64 a0_1, .int .i64 a0_2, .int .i64 a0_3]) (t := 78) ?hr ?_; (case hd => rfl); (case hg => rfl); (case hr => first | (go_simp; done) | (go_simp; rfl)); intro gb772 hg w9 hbox hb; have n0_ := Aside0.mk (below_step (by repeat (first | (with_reducible first | exact HB.out | apply below_alloc | apply pw_below_drewN | apply below_drew1) | exact HB.out)) hb); have n1_ := Aside0.mk (hbox); have n2_ := Aside0.mk ((by rw [hg]; exact (below_size (by repeat (first | (with_reducible first | exact HB.out | apply below_alloc | apply pw_below_drewN | apply below_drew1) | exact HB.out))) : w.heap.size ≤ gb772)); have n3_ := Aside0.mk ((by rw [hg]; exact (below_size (by repeat (first | (with_reducible first | exact HB.out | apply below_alloc | apply pw_below_drewN | apply below_drew1) | exact HB.out))) : w.heap.size ≤ gb772)); clear HB; have HB := n0_; have BK772 := n1_; have GW772 := n2_; have GE772 := n3_; clear n0_ n1_ n2_ n3_; clear hb hbox hg; have hcz10_0 : w9.cell? ⟨gb772, 0, none⟩ = some (.int .u8 a0_0) := (blk_cell BK772.out 0).trans rfl; have hcz10_1 : w9.cell? ⟨gb772, 1, none⟩ = some (.int .i64 a0_1) := (blk_cell BK772.out 1).trans rfl; have hcz10_2 : w9.cell? ⟨gb772, 2, none⟩ = some (.int .i64 a0_2) := (blk_cell BK772.out 2).trans rfl; have hcz10_3 : w9.cell? ⟨gb772, 3, none⟩ = some (.int .i64 a0_3) := (blk_cell BK772.out 3).trans rfl; have hfz10_0 := blk_frozen BK772.out 0; have hfz10_1 := blk_frozen BK772.out 1; have hfz10_2 := blk_frozen BK772.out 2; have hfz10_3 := blk_frozen BK772.out 3)))
      (try simp only [Act.put, List.setIfInBounds_toArray, List.set_cons_zero, List.set_cons_succ])
      go_cut [15] (fun v15 wc => ∃ (kq : Nat) (x15_7 : Bool), v15 = .bool x15_7 ∧ Aside0 (model_Op_Span.j0 kq a0_0 x15_7 a0_0 a0_1 a0_2 a0_3 = some (r1, r2, r3)) ∧ Aside0 (kq ≤ k) ∧ Aside0 (wc.heap[gb772]? = some (.cells #[.int .u8 a0_0, .int .i64 a0_1, .int .i64 a0_2, .int .i64 a0_3] 78 (0, 0))) ∧ Aside0 (Below w.heap.size w wc))
      case first =>
        have H := HC8.out
        clear HC8
        by_cases c11 : a0_0 = 6
        · rw [if_pos c11] at H
          have c11b0 : (a0_0 == 6) = true := beq_iff_eq.mpr c11
          have c11b1 : (a0_0 != 6) = false := bne_eq_false_iff_eq.mpr c11
          clear c11
          (first | rw [c11b0] | (simp only [i64_w, i32_w]; rw [c11b0]) | skip)
          have H' := Aside0.mk H
          clear H
          go_wp2
          repeat (go_quiet (fail); try go_wp2)
          go_meet
          case rel => exact ⟨_, ((a0_0 == 6)), (by first | rfl | (simp; done) | (simp [*]; done)), H', ⟨by first | omega | exact Nat.le_refl _⟩, ⟨by (with_reducible repeat (first | refine blk_drewN ?_ _ | refine blk_drew ?_ | refine blk_alloc ?_ _)); exact BK772.out⟩, ⟨by repeat (first | (with_reducible first | exact HB.out | apply below_alloc | apply pw_below_drewN | apply below_drew1 | refine below_set ?_ GE772.out) | exact HB.out)⟩⟩
        · rw [if_neg c11] at H
          have c11b0 : (a0_0 == 6) = false := beq_eq_false_iff_ne.mpr c11
          have c11b1 : (a0_0 != 6) = true := bne_iff_ne.mpr c11
          (first | rw [c11b0] | (simp only [i64_w, i32_w]; rw [c11b0]) | skip)
          by_cases c12 : a0_0 = 7
          · rw [if_pos c12] at H
            have c12b0 : (a0_0 == 7) = true := beq_iff_eq.mpr c12
            have c12b1 : (a0_0 != 7) = false := bne_eq_false_iff_eq.mpr c12
            clear c12
            have H' := Aside0.mk H
            clear H
            go_wp2
            repeat (go_quiet (fail); try go_wp2)
            go_meet
            case rel => exact ⟨_, ((a0_0 == 7)), (by first | rfl | (simp; done) | (simp [*]; done)), H', ⟨by first | omega | exact Nat.le_refl _⟩, ⟨by (with_reducible repeat (first | refine blk_drewN ?_ _ | refine blk_drew ?_ | refine blk_alloc ?_ _)); exact BK772.out⟩, ⟨by repeat (first | (with_reducible first | exact HB.out | apply below_alloc | apply pw_below_drewN | apply below_drew1 | refine below_set ?_ GE772.out) | exact HB.out)⟩⟩
          · rw [if_neg c12] at H
            have c12b0 : (a0_0 == 7) = false := beq_eq_false_iff_ne.mpr c12
            have c12b1 : (a0_0 != 7) = true := bne_iff_ne.mpr c12
            have H' := Aside0.mk H
            clear H
            go_wp2
            repeat (go_quiet (fail); try go_wp2)
            go_meet
            case rel => exact ⟨_, ((a0_0 == 9)), (by first | rfl | (simp; done) | (simp [*]; done)), H', ⟨by first | omega | exact Nat.le_refl _⟩, ⟨by (with_reducible repeat (first | refine blk_drewN ?_ _ | refine blk_drew ?_ | refine blk_alloc ?_ _)); exact BK772.out⟩, ⟨by repeat (first | (with_reducible first | exact HB.out | apply below_alloc | apply pw_below_drewN | apply below_drew1 | refine below_set ?_ GE772.out) | exact HB.out)⟩⟩
      case rest =>
        clear HC8
        try clear c1
        try clear c2
        try clear c2b0
        try clear c2b1
        try clear p2
        try clear c5
        try clear c5b0
        try clear c5b1
        try clear c7
        try clear c11
        try clear c11b0
        try clear c11b1
        try clear c12
        try clear c12b0
        try clear c12b1
        try clear hcz10_0
        try clear hcz10_1
        try clear hcz10_2
        try clear hcz10_3
        try clear hcz4_0
        try clear hcz4_1
        try clear hcz4_2
        try clear hcz4_3
        try clear hcz7_0
        try clear hcz7_1
        try clear hcz7_2
        try clear hcz7_3
        try clear hfz10_0
        try clear hfz10_1
        try clear hfz10_2
        try clear hfz10_3
        try clear hfz4_0
        try clear hfz4_1
        try clear hfz4_2
        try clear hfz4_3
        try clear hfz7_0
        try clear hfz7_1
        try clear hfz7_2
        try clear hfz7_3
        obtain ⟨kq, x15_7, rfl, HA, HJ7, BK772, HB⟩ := hcut
        cases kq with
        | zero => exact absurd HA.out (by simp [model_Op_Span.j0])
        | succ kj7 =>
          have H := HA.out
          clear HA
          simp only [model_Op_Span.j0] at H
          by_cases c13 : x15_7 = true
          · subst c13
            have H1 : (some ((-9223372036854775808), 9223372036854775807, true)) = some (r1, r2, r3) := by rw [if_pos rfl] at H; exact H
            clear H
            have H := H1
            clear H1
            simp only [Option.some.injEq, Prod.mk.injEq] at H
            obtain ⟨rfl, rfl, rfl⟩ := H
            go_wp2
            repeat (go_quiet (fail); try go_wp2)
            go_ret3
            exact ⟨by first | rfl | (simp [errW_none, errW_some] <;> rfl) | (simp [*, errW_none, errW_some] <;> rfl), by repeat (first | (with_reducible first | exact HB.out | apply below_alloc | apply pw_below_drewN | apply below_drew1 | refine below_set ?_ GE772.out) | exact HB.out)⟩
          · replace c13 := Bool.eq_false_iff.mpr c13
            subst c13
            have H1 : (if a0_0 = 8 then (if a0_1 = (-9223372036854775808) then (some (1, 0, true)) else (some ((-9223372036854775808), wrap64 (a0_1 - 1), true))) else (if a0_0 = 10 then (some (a0_1, a0_2, true)) else (if a0_0 = 11 then (some (a0_1, a0_2, true)) else (some (0, 0, false))))) = some (r1, r2, r3) := by rw [if_neg (show ¬ (false = true) by decide)] at H; exact H
            clear H
            have H := H1
            clear H1
            by_cases c14 : a0_0 = 8
            · rw [if_pos c14] at H
              have c14b0 : (a0_0 == 8) = true := beq_iff_eq.mpr c14
              have c14b1 : (a0_0 != 8) = false := bne_eq_false_iff_eq.mpr c14
              clear c14
              by_cases c15 : a0_1 = (-9223372036854775808)
              · rw [if_pos c15] at H
                have c15b0 : (a0_1 == (-9223372036854775808)) = true := beq_iff_eq.mpr c15
                have c15b1 : (a0_1 != (-9223372036854775808)) = false := bne_eq_false_iff_eq.mpr c15
                clear c15
                simp only [Option.some.injEq, Prod.mk.injEq] at H
                obtain ⟨rfl, rfl, rfl⟩ := H
                have hcz16_0 : wc.cell? ⟨gb772, 0, none⟩ = some (.int .u8 a0_0) := (blk_cell BK772.out 0).trans rfl
                have hcz16_1 : wc.cell? ⟨gb772, 1, none⟩ = some (.int .i64 a0_1) := (blk_cell BK772.out 1).trans rfl
                have hcz16_2 : wc.cell? ⟨gb772, 2, none⟩ = some (.int .i64 a0_2) := (blk_cell BK772.out 2).trans rfl
                have hcz16_3 : wc.cell? ⟨gb772, 3, none⟩ = some (.int .i64 a0_3) := (blk_cell BK772.out 3).trans rfl
                have hfz16_0 := blk_frozen BK772.out 0
                have hfz16_1 := blk_frozen BK772.out 1
                have hfz16_2 := blk_frozen BK772.out 2
                have hfz16_3 := blk_frozen BK772.out 3
                go_wp2
                repeat (go_quiet (fail); try go_wp2)
                go_ret3
                exact ⟨by first | rfl | (simp [errW_none, errW_some] <;> rfl) | (simp [*, errW_none, errW_some] <;> rfl), by repeat (first | (with_reducible first | exact HB.out | apply below_alloc | apply pw_below_drewN | apply below_drew1 | refine below_set ?_ GE772.out) | exact HB.out)⟩
              · rw [if_neg c15] at H
                have c15b0 : (a0_1 == (-9223372036854775808)) = false := beq_eq_false_iff_ne.mpr c15
                have c15b1 : (a0_1 != (-9223372036854775808)) = true := bne_iff_ne.mpr c15
                simp only [Option.some.injEq, Prod.mk.injEq] at H
                obtain ⟨rfl, rfl, rfl⟩ := H
                have hcz17_0 : wc.cell? ⟨gb772, 0, none⟩ = some (.int .u8 a0_0) := (blk_cell BK772.out 0).trans rfl
                have hcz17_1 : wc.cell? ⟨gb772, 1, none⟩ = some (.int .i64 a0_1) := (blk_cell BK772.out 1).trans rfl
                have hcz17_2 : wc.cell? ⟨gb772, 2, none⟩ = some (.int .i64 a0_2) := (blk_cell BK772.out 2).trans rfl
                have hcz17_3 : wc.cell? ⟨gb772, 3, none⟩ = some (.int .i64 a0_3) := (blk_cell BK772.out 3).trans rfl
                have hfz17_0 := blk_frozen BK772.out 0
                have hfz17_1 := blk_frozen BK772.out 1
                have hfz17_2 := blk_frozen BK772.out 2
                have hfz17_3 := blk_frozen BK772.out 3
                go_wp2
                repeat (go_quiet (fail); try go_wp2)
                go_ret3
                exact ⟨by first | rfl | (simp [errW_none, errW_some] <;> rfl) | (simp [*, errW_none, errW_some] <;> rfl), by repeat (first | (with_reducible first | exact HB.out | apply below_alloc | apply pw_below_drewN | apply below_drew1 | refine below_set ?_ GE772.out) | exact HB.out)⟩
            · rw [if_neg c14] at H
              have c14b0 : (a0_0 == 8) = false := beq_eq_false_iff_ne.mpr c14
              have c14b1 : (a0_0 != 8) = true := bne_iff_ne.mpr c14
              by_cases c18 : a0_0 = 10
              · rw [if_pos c18] at H
                have c18b0 : (a0_0 == 10) = true := beq_iff_eq.mpr c18
                have c18b1 : (a0_0 != 10) = false := bne_eq_false_iff_eq.mpr c18
                clear c18
                simp only [Option.some.injEq, Prod.mk.injEq] at H
                obtain ⟨rfl, rfl, rfl⟩ := H
                have hcz19_0 : wc.cell? ⟨gb772, 0, none⟩ = some (.int .u8 a0_0) := (blk_cell BK772.out 0).trans rfl
                have hcz19_1 : wc.cell? ⟨gb772, 1, none⟩ = some (.int .i64 a0_1) := (blk_cell BK772.out 1).trans rfl
                have hcz19_2 : wc.cell? ⟨gb772, 2, none⟩ = some (.int .i64 a0_2) := (blk_cell BK772.out 2).trans rfl
                have hcz19_3 : wc.cell? ⟨gb772, 3, none⟩ = some (.int .i64 a0_3) := (blk_cell BK772.out 3).trans rfl
                have hfz19_0 := blk_frozen BK772.out 0
                have hfz19_1 := blk_frozen BK772.out 1
                have hfz19_2 := blk_frozen BK772.out 2
                have hfz19_3 := blk_frozen BK772.out 3
                go_wp2
                repeat (go_quiet (fail); try go_wp2)
                go_ret3
                exact ⟨by first | rfl | (simp [errW_none, errW_some] <;> rfl) | (simp [*, errW_none, errW_some] <;> rfl), by repeat (first | (with_reducible first | exact HB.out | apply below_alloc | apply pw_below_drewN | apply below_drew1 | refine below_set ?_ GE772.out) | exact HB.out)⟩
              · rw [if_neg c18] at H
                have c18b0 : (a0_0 == 10) = false := beq_eq_false_iff_ne.mpr c18
                have c18b1 : (a0_0 != 10) = true := bne_iff_ne.mpr c18
                by_cases c20 : a0_0 = 11
                · rw [if_pos c20] at H
                  have c20b0 : (a0_0 == 11) = true := beq_iff_eq.mpr c20
                  have c20b1 : (a0_0 != 11) = false := bne_eq_false_iff_eq.mpr c20
                  clear c20
                  simp only [Option.some.injEq, Prod.mk.injEq] at H
                  obtain ⟨rfl, rfl, rfl⟩ := H
                  have hcz21_0 : wc.cell? ⟨gb772, 0, none⟩ = some (.int .u8 a0_0) := (blk_cell BK772.out 0).trans rfl
                  have hcz21_1 : wc.cell? ⟨gb772, 1, none⟩ = some (.int .i64 a0_1) := (blk_cell BK772.out 1).trans rfl
                  have hcz21_2 : wc.cell? ⟨gb772, 2, none⟩ = some (.int .i64 a0_2) := (blk_cell BK772.out 2).trans rfl
                  have hcz21_3 : wc.cell? ⟨gb772, 3, none⟩ = some (.int .i64 a0_3) := (blk_cell BK772.out 3).trans rfl
                  have hfz21_0 := blk_frozen BK772.out 0
                  have hfz21_1 := blk_frozen BK772.out 1
                  have hfz21_2 := blk_frozen BK772.out 2
                  have hfz21_3 := blk_frozen BK772.out 3
                  go_wp2
                  repeat (go_quiet (fail); try go_wp2)
                  go_ret3
                  exact ⟨by first | rfl | (simp [errW_none, errW_some] <;> rfl) | (simp [*, errW_none, errW_some] <;> rfl), by repeat (first | (with_reducible first | exact HB.out | apply below_alloc | apply pw_below_drewN | apply below_drew1 | refine below_set ?_ GE772.out) | exact HB.out)⟩
                · rw [if_neg c20] at H
                  have c20b0 : (a0_0 == 11) = false := beq_eq_false_iff_ne.mpr c20
                  have c20b1 : (a0_0 != 11) = true := bne_iff_ne.mpr c20
                  simp only [Option.some.injEq, Prod.mk.injEq] at H
                  obtain ⟨rfl, rfl, rfl⟩ := H
                  go_wp2
                  repeat (go_quiet (fail); try go_wp2)
                  go_ret3
                  exact ⟨by first | rfl | (simp [errW_none, errW_some] <;> rfl) | (simp [*, errW_none, errW_some] <;> rfl), by repeat (first | (with_reducible first | exact HB.out | apply below_alloc | apply pw_below_drewN | apply below_drew1 | refine below_set ?_ GE772.out) | exact HB.out)⟩

end Go.Proofs.Ytkoiffkonjpoiaa.Q
