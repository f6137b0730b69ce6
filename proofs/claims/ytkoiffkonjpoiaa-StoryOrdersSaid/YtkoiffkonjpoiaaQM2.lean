/- Several texts of this claim in one: contracts of the program's functions, and plain lemmas about what they compute; each is stated under its own conditions. -/
import Derived.Test.YtkoiffkonjpoiaaQM1
set_option linter.unusedVariables false
set_option linter.unusedSimpArgs false
namespace Go.Proofs.Ytkoiffkonjpoiaa.Q
open Go.RowKit Go.Proofs.YtkoiffkonjpoiaaW.PrintWords Go.Proofs.YtkoiffkonjpoiaaW.PrintLast Go.Proofs.YtkoiffkonjpoiaaW.PrintMore Go.Proofs.YtkoiffkonjpoiaaX
attribute [local go_sem] max2_int min2_int max_two min_two max_three min_three max_four min_four   -- for this text's walks alone
set_option linter.unusedVariables false
set_option linter.unusedSimpArgs false

def model_Op_Span.j0 : Nat → Int → Bool → Int → Int → Int → Int → Option (Int × Int × Bool)
  | 0,_,_,_,_,_,_ => none
  | k + 1,x6,x15,x773000,x773001,x773002,x773003 => if x15 = true then (some ((-9223372036854775808),9223372036854775807,true)) else (if x6 = 8 then (if x773001 = (-9223372036854775808) then (some (1,0,true)) else (some ((-9223372036854775808),wrap64 (x773001 - 1),true))) else (if x6 = 10 then (some (x773001,x773002,true)) else (if x6 = 11 then (some (x773001,x773002,true)) else (some (0,0,false)))))
def model_Op_Span.f (k : Nat) (a0_0 : Int) (a0_1 : Int) (a0_2 : Int) (a0_3 : Int) : Option (Int × Int × Bool) := if a0_0 = 4 then (some ((-9223372036854775808),a0_1,true)) else (if a0_0 = 5 then (some (a0_1,9223372036854775807,true)) else (if a0_0 = 6 then (model_Op_Span.j0 k a0_0 (a0_0 == 6) a0_0 a0_1 a0_2 a0_3) else (if a0_0 = 7 then (model_Op_Span.j0 k a0_0 (a0_0 == 7) a0_0 a0_1 a0_2 a0_3) else (model_Op_Span.j0 k a0_0 (a0_0 == 9) a0_0 a0_1 a0_2 a0_3))))
set_option maxHeartbeats 8000000 in
set_option maxRecDepth 100000 in
theorem model_Op_Span.calls (k : Nat) (a0_0 : Int) (a0_1 : Int) (a0_2 : Int) (a0_3 : Int) (r1 : Int) (r2 : Int) (r3 : Bool) (w : World) (h : model_Op_Span.f k a0_0 a0_1 a0_2 a0_3 = some (r1,r2,r3)) :
    Calls Try.prog 71 #[.agg #[.int .u8 a0_0,.int .i64 a0_1,.int .i64 a0_2,.int .i64 a0_3]] w fun e w' => e = .returned (.tuple #[.int .i64 r1,.int .i64 r2,.bool r3]) ∧ Below w.heap.size w w' := by
  have hu78 := Try.underlying78
  have HB := Aside0.mk (Below.refl w.heap.size w)
  have H : (if a0_0 = 4 then (some ((-9223372036854775808),a0_1,true)) else (if a0_0 = 5 then (some (a0_1,9223372036854775807,true)) else (if a0_0 = 6 then (model_Op_Span.j0 k a0_0 (a0_0 == 6) a0_0 a0_1 a0_2 a0_3) else (if a0_0 = 7 then (model_Op_Span.j0 k a0_0 (a0_0 == 7) a0_0 a0_1 a0_2 a0_3) else (model_Op_Span.j0 k a0_0 (a0_0 == 9) a0_0 a0_1 a0_2 a0_3))))) = some (r1,r2,r3) := h
  clear h
  by_cases c2 : a0_0 = 4
  · rw [if_pos c2] at H
    have c2b0 : (a0_0 == 4) = true := beq_iff_eq.mpr c2
    have c2b1 : (a0_0 != 4) = false := bne_eq_false_iff_eq.mpr c2
    clear c2
    simp only [Option.some.injEq,Prod.mk.injEq] at H
    obtain ⟨rfl,rfl,rfl⟩ := H
    go_enter Try.func71,Try.ntmps71
    go_wp2_with (first | ((with_reducible refine gate_dst (N := 1) rfl ?_);refine box_event ?hg (N := 1) ?hd (cs := #[.int .u8 a0_0,.int .i64 a0_1,.int .i64 a0_2,.int .i64 a0_3]) (t := 78) ?hr ?_;(case hd => rfl);(case hg => rfl);(case hr => first | (go_simp;done) | (go_simp;rfl));intro gb772 hg w3 hbox hb;have n0_ := Aside0.mk (below_step (by repeat (first | (with_reducible first | exact HB.out | apply below_alloc | apply pw_below_drewN | apply below_drew1) | exact HB.out)) hb);have n1_ := Aside0.mk (hbox);have n2_ := Aside0.mk ((by rw [hg];exact (below_size (by repeat (first | (with_reducible first | exact HB.out | apply below_alloc | apply pw_below_drewN | apply below_drew1) | exact HB.out))) : w.heap.size ≤ gb772));have n3_ := Aside0.mk ((by rw [hg];exact (below_size (by repeat (first | (with_reducible first | exact HB.out | apply below_alloc | apply pw_below_drewN | apply below_drew1) | exact HB.out))) : w.heap.size ≤ gb772));clear HB;have HB := n0_;have BK772 := n1_;have GW772 := n2_;have GE772 := n3_;clear n0_ n1_ n2_ n3_;clear hb hbox hg;have hcz4_0 : w3.cell? ⟨gb772,0,none⟩ = some (.int .u8 a0_0) := (blk_cell BK772.out 0).trans rfl;have hcz4_1 : w3.cell? ⟨gb772,1,none⟩ = some (.int .i64 a0_1) := (blk_cell BK772.out 1).trans rfl;have hcz4_2 : w3.cell? ⟨gb772,2,none⟩ = some (.int .i64 a0_2) := (blk_cell BK772.out 2).trans rfl;have hcz4_3 : w3.cell? ⟨gb772,3,none⟩ = some (.int .i64 a0_3) := (blk_cell BK772.out 3).trans rfl;have hfz4_0 := blk_frozen BK772.out 0;have hfz4_1 := blk_frozen BK772.out 1;have hfz4_2 := blk_frozen BK772.out 2;have hfz4_3 := blk_frozen BK772.out 3))
    repeat (go_quiet (first | ((with_reducible refine gate_dst (N := 1) rfl ?_);refine box_event ?hg (N := 1) ?hd (cs := #[.int .u8 a0_0,.int .i64 a0_1,.int .i64 a0_2,.int .i64 a0_3]) (t := 78) ?hr ?_;(case hd => rfl);(case hg => rfl);(case hr => first | (go_simp;done) | (go_simp;rfl));intro gb772 hg w3 hbox hb;have n0_ := Aside0.mk (below_step (by repeat (first | (with_reducible first | exact HB.out | apply below_alloc | apply pw_below_drewN | apply below_drew1) | exact HB.out)) hb);have n1_ := Aside0.mk (hbox);have n2_ := Aside0.mk ((by rw [hg];exact (below_size (by repeat (first | (with_reducible first | exact HB.out | apply below_alloc | apply pw_below_drewN | apply below_drew1) | exact HB.out))) : w.heap.size ≤ gb772));have n3_ := Aside0.mk ((by rw [hg];exact (below_size (by repeat (first | (with_reducible first | exact HB.out | apply below_alloc | apply pw_below_drewN | apply below_drew1) | exact HB.out))) : w.heap.size ≤ gb772));clear HB;have HB := n0_;have BK772 := n1_;have GW772 := n2_;have GE772 := n3_;clear n0_ n1_ n2_ n3_;clear hb hbox hg;have hcz4_0 : w3.cell? ⟨gb772,0,none⟩ = some (.int .u8 a0_0) := (blk_cell BK772.out 0).trans rfl;have hcz4_1 : w3.cell? ⟨gb772,1,none⟩ = some (.int .i64 a0_1) := (blk_cell BK772.out 1).trans rfl;have hcz4_2 : w3.cell? ⟨gb772,2,none⟩ = some (.int .i64 a0_2) := (blk_cell BK772.out 2).trans rfl;have hcz4_3 : w3.cell? ⟨gb772,3,none⟩ = some (.int .i64 a0_3) := (blk_cell BK772.out 3).trans rfl;have hfz4_0 := blk_frozen BK772.out 0;have hfz4_1 := blk_frozen BK772.out 1;have hfz4_2 := blk_frozen BK772.out 2;have hfz4_3 := blk_frozen BK772.out 3));try go_wp2_with (first | ((with_reducible refine gate_dst (N := 1) rfl ?_);refine box_event ?hg (N := 1) ?hd (cs := #[.int .u8 a0_0,.int .i64 a0_1,.int .i64 a0_2,.int .i64 a0_3]) (t := 78) ?hr ?_;(case hd => rfl);(case hg => rfl);(case hr => first | (go_simp;done) | (go_simp;rfl));intro gb772 hg w3 hbox hb;have n0_ := Aside0.mk (below_step (by repeat (first | (with_reducible first | exact HB.out | apply below_alloc | apply pw_below_drewN | apply below_drew1) | exact HB.out)) hb);have n1_ := Aside0.mk (hbox);have n2_ := Aside0.mk ((by rw [hg];exact (below_size (by repeat (first | (with_reducible first | exact HB.out | apply below_alloc | apply pw_below_drewN | apply below_drew1) | exact HB.out))) : w.heap.size ≤ gb772));have n3_ := Aside0.mk ((by rw [hg];exact (below_size (by repeat (first | (with_reducible first | exact HB.out | apply below_alloc | apply pw_below_drewN | apply below_drew1) | exact HB.out))) : w.heap.size ≤ gb772));clear HB;have HB := n0_;have BK772 := n1_;have GW772 := n2_;have GE772 := n3_;clear n0_ n1_ n2_ n3_;clear hb hbox hg;have hcz4_0 : w3.cell? ⟨gb772,0,none⟩ = some (.int .u8 a0_0) := (blk_cell BK772.out 0).trans rfl;have hcz4_1 : w3.cell? ⟨gb772,1,none⟩ = some (.int .i64 a0_1) := (blk_cell BK772.out 1).trans rfl;have hcz4_2 : w3.cell? ⟨gb772,2,none⟩ = some (.int .i64 a0_2) := (blk_cell BK772.out 2).trans rfl;have hcz4_3 : w3.cell? ⟨gb772,3,none⟩ = some (.int .i64 a0_3) := (blk_cell BK772.out 3).trans rfl;have hfz4_0 := blk_frozen BK772.out 0;have hfz4_1 := blk_frozen BK772.out 1;have hfz4_2 := blk_frozen BK772.out 2;have hfz4_3 := blk_frozen BK772.out 3)))
    go_ret3
    exact ⟨by first | rfl | (simp [errW_none,errW_some] <;> rfl) | (simp [*,errW_none,errW_some] <;> rfl),by repeat (first | (with_reducible first | exact HB.out | apply below_alloc | apply pw_below_drewN | apply below_drew1 | refine below_set ?_ GE772.out) | exact HB.out)⟩
  · rw [if_neg c2] at H
    have c2b0 : (a0_0 == 4) = false := beq_eq_false_iff_ne.mpr c2
    have c2b1 : (a0_0 != 4) = true := bne_iff_ne.mpr c2
    by_cases c5 : a0_0 = 5
    · rw [if_pos c5] at H
      have c5b0 : (a0_0 == 5) = true := beq_iff_eq.mpr c5
      have c5b1 : (a0_0 != 5) = false := bne_eq_false_iff_eq.mpr c5
      clear c5
      simp only [Option.some.injEq,Prod.mk.injEq] at H
      obtain ⟨rfl,rfl,rfl⟩ := H
      go_enter Try.func71,Try.ntmps71
      go_wp2_with (first | ((with_reducible refine gate_dst (N := 1) rfl ?_);refine box_event ?hg (N := 1) ?hd (cs := #[.int .u8 a0_0,.int .i64 a0_1,.int .i64 a0_2,.int .i64 a0_3]) (t := 78) ?hr ?_;(case hd => rfl);(case hg => rfl);(case hr => first | (go_simp;done) | (go_simp;rfl));intro gb772 hg w6 hbox hb;have n0_ := Aside0.mk (below_step (by repeat (first | (with_reducible first | exact HB.out | apply below_alloc | apply pw_below_drewN | apply below_drew1) | exact HB.out)) hb);have n1_ := Aside0.mk (hbox);have n2_ := Aside0.mk ((by rw [hg];exact (below_size (by repeat (first | (with_reducible first | exact HB.out | apply below_alloc | apply pw_below_drewN | apply below_drew1) | exact HB.out))) : w.heap.size ≤ gb772));have n3_ := Aside0.mk ((by rw [hg];exact (below_size (by repeat (first | (with_reducible first | exact HB.out | apply below_alloc | apply pw_below_drewN | apply below_drew1) | exact HB.out))) : w.heap.size ≤ gb772));clear HB;have HB := n0_;have BK772 := n1_;have GW772 := n2_;have GE772 := n3_;clear n0_ n1_ n2_ n3_;clear hb hbox hg;have hcz7_0 : w6.cell? ⟨gb772,0,none⟩ = some (.int .u8 a0_0) := (blk_cell BK772.out 0).trans rfl;have hcz7_1 : w6.cell? ⟨gb772,1,none⟩ = some (.int .i64 a0_1) := (blk_cell BK772.out 1).trans rfl;have hcz7_2 : w6.cell? ⟨gb772,2,none⟩ = some (.int .i64 a0_2) := (blk_cell BK772.out 2).trans rfl;have hcz7_3 : w6.cell? ⟨gb772,3,none⟩ = some (.int .i64 a0_3) := (blk_cell BK772.out 3).trans rfl;have hfz7_0 := blk_frozen BK772.out 0;have hfz7_1 := blk_frozen BK772.out 1;have hfz7_2 := blk_frozen BK772.out 2;have hfz7_3 := blk_frozen BK772.out 3))
      repeat (go_quiet (first | ((with_reducible refine gate_dst (N := 1) rfl ?_);refine box_event ?hg (N := 1) ?hd (cs := #[.int .u8 a0_0,.int .i64 a0_1,.int .i64 a0_2,.int .i64 a0_3]) (t := 78) ?hr ?_;(case hd => rfl);(case hg => rfl);(case hr => first | (go_simp;done) | (go_simp;rfl));intro gb772 hg w6 hbox hb;have n0_ := Aside0.mk (below_step (by repeat (first | (with_reducible first | exact HB.out | apply below_alloc | apply pw_below_drewN | apply below_drew1) | exact HB.out)) hb);have n1_ := Aside0.mk (hbox);have n2_ := Aside0.mk ((by rw [hg];exact (below_size (by repeat (first | (with_reducible first | exact HB.out | apply below_alloc | apply pw_below_drewN | apply below_drew1) | exact HB.out))) : w.heap.size ≤ gb772));have n3_ := Aside0.mk ((by rw [hg];exact (below_size (by repeat (first | (with_reducible first | exact HB.out | apply below_alloc | apply pw_below_drewN | apply below_drew1) | exact HB.out))) : w.heap.size ≤ gb772));clear HB;have HB := n0_;have BK772 := n1_;have GW772 := n2_;have GE772 := n3_;clear n0_ n1_ n2_ n3_;clear hb hbox hg;have hcz7_0 : w6.cell? ⟨gb772,0,none⟩ = some (.int .u8 a0_0) := (blk_cell BK772.out 0).trans rfl;have hcz7_1 : w6.cell? ⟨gb772,1,none⟩ = some (.int .i64 a0_1) := (blk_cell BK772.out 1).trans rfl;have hcz7_2 : w6.cell? ⟨gb772,2,none⟩ = some (.int .i64 a0_2) := (blk_cell BK772.out 2).trans rfl;have hcz7_3 : w6.cell? ⟨gb772,3,none⟩ = some (.int .i64 a0_3) := (blk_cell BK772.out 3).trans rfl;have hfz7_0 := blk_frozen BK772.out 0;have hfz7_1 := blk_frozen BK772.out 1;have hfz7_2 := blk_frozen BK772.out 2;have hfz7_3 := blk_frozen BK772.out 3));try go_wp2_with (first | ((with_reducible refine gate_dst (N := 1) rfl ?_);refine box_event ?hg (N := 1) ?hd (cs := #[.int .u8 a0_0,.int .i64 a0_1,.int .i64 a0_2,.int .i64 a0_3]) (t := 78) ?hr ?_;(case hd => rfl);(case hg => rfl);(case hr => first | (go_simp;done) | (go_simp;rfl));intro gb772 hg w6 hbox hb;have n0_ := Aside0.mk (below_step (by repeat (first | (with_reducible first | exact HB.out | apply below_alloc | apply pw_below_drewN | apply below_drew1) | exact HB.out)) hb);have n1_ := Aside0.mk (hbox);have n2_ := Aside0.mk ((by rw [hg];exact (below_size (by repeat (first | (with_reducible first | exact HB.out | apply below_alloc | apply pw_below_drewN | apply below_drew1) | exact HB.out))) : w.heap.size ≤ gb772));have n3_ := Aside0.mk ((by rw [hg];exact (below_size (by repeat (first | (with_reducible first | exact HB.out | apply below_alloc | apply pw_below_drewN | apply below_drew1) | exact HB.out))) : w.heap.size ≤ gb772));clear HB;have HB := n0_;have BK772 := n1_;have GW772 := n2_;have GE772 := n3_;clear n0_ n1_ n2_ n3_;clear hb hbox hg;have hcz7_0 : w6.cell? ⟨gb772,0,none⟩ = some (.int .u8 a0_0) := (blk_cell BK772.out 0).trans rfl;have hcz7_1 : w6.cell? ⟨gb772,1,none⟩ = some (.int .i64 a0_1) := (blk_cell BK772.out 1).trans rfl;have hcz7_2 : w6.cell? ⟨gb772,2,none⟩ = some (.int .i64 a0_2) := (blk_cell BK772.out 2).trans rfl;have hcz7_3 : w6.cell? ⟨gb772,3,none⟩ = some (.int .i64 a0_3) := (blk_cell BK772.out 3).trans rfl;have hfz7_0 := blk_frozen BK772.out 0;have hfz7_1 := blk_frozen BK772.out 1;have hfz7_2 := blk_frozen BK772.out 2;have hfz7_3 := blk_frozen BK772.out 3)))
      go_ret3
      exact ⟨by first | rfl | (simp [errW_none,errW_some] <;> rfl) | (simp [*,errW_none,errW_some] <;> rfl),by repeat (first | (with_reducible first | exact HB.out | apply below_alloc | apply pw_below_drewN | apply below_drew1 | refine below_set ?_ GE772.out) | exact HB.out)⟩
    · rw [if_neg c5] at H
      have c5b0 : (a0_0 == 5) = false := beq_eq_false_iff_ne.mpr c5
      have c5b1 : (a0_0 != 5) = true := bne_iff_ne.mpr c5
      have HC8 := Aside0.mk H
      clear H
      go_enter Try.func71,Try.ntmps71
      go_upto_if 15 with (first | ((with_reducible refine gate_dst (N := 1) rfl ?_);refine box_event ?hg (N := 1) ?hd (cs := #[.int .u8 a0_0,.int .i64 a0_1,.int .i64 a0_2,.int .i64 a0_3]) (t := 78) ?hr ?_;(case hd => rfl);(case hg => rfl);(case hr => first | (go_simp;done) | (go_simp;rfl));intro gb772 hg w9 hbox hb;have n0_ := Aside0.mk (below_step (by repeat (first | (with_reducible first | exact HB.out | apply below_alloc | apply pw_below_drewN | apply below_drew1) | exact HB.out)) hb);have n1_ := Aside0.mk (hbox);have n2_ := Aside0.mk ((by rw [hg];exact (below_size (by repeat (first | (with_reducible first | exact HB.out | apply below_alloc | apply pw_below_drewN | apply below_drew1) | exact HB.out))) : w.heap.size ≤ gb772));have n3_ := Aside0.mk ((by rw [hg];exact (below_size (by repeat (first | (with_reducible first | exact HB.out | apply below_alloc | apply pw_below_drewN | apply below_drew1) | exact HB.out))) : w.heap.size ≤ gb772));clear HB;have HB := n0_;have BK772 := n1_;have GW772 := n2_;have GE772 := n3_;clear n0_ n1_ n2_ n3_;clear hb hbox hg;have hcz10_0 : w9.cell? ⟨gb772,0,none⟩ = some (.int .u8 a0_0) := (blk_cell BK772.out 0).trans rfl;have hcz10_1 : w9.cell? ⟨gb772,1,none⟩ = some (.int .i64 a0_1) := (blk_cell BK772.out 1).trans rfl;have hcz10_2 : w9.cell? ⟨gb772,2,none⟩ = some (.int .i64 a0_2) := (blk_cell BK772.out 2).trans rfl;have hcz10_3 : w9.cell? ⟨gb772,3,none⟩ = some (.int .i64 a0_3) := (blk_cell BK772.out 3).trans rfl;have hfz10_0 := blk_frozen BK772.out 0;have hfz10_1 := blk_frozen BK772.out 1;have hfz10_2 := blk_frozen BK772.out 2;have hfz10_3 := blk_frozen BK772.out 3))
      repeat (go_quiet (first | ((with_reducible refine gate_dst (N := 1) rfl ?_);refine box_event ?hg (N := 1) ?hd (cs := #[.int .u8 a0_0,.int .i64 a0_1,.int .i64 a0_2,.int .i64 a0_3]) (t := 78) ?hr ?_;(case hd => rfl);(case hg => rfl);(case hr => first | (go_simp;done) | (go_simp;rfl));intro gb772 hg w9 hbox hb;have n0_ := Aside0.mk (below_step (by repeat (first | (with_reducible first | exact HB.out | apply below_alloc | apply pw_below_drewN | apply below_drew1) | exact HB.out)) hb);have n1_ := Aside0.mk (hbox);have n2_ := Aside0.mk ((by rw [hg];exact (below_size (by repeat (first | (with_reducible first | exact HB.out | apply below_alloc | apply pw_below_drewN | apply below_drew1) | exact HB.out))) : w.heap.size ≤ gb772));have n3_ := Aside0.mk ((by rw [hg];exact (below_size (by repeat (first | (with_reducible first | exact HB.out | apply below_alloc | apply pw_below_drewN | apply below_drew1) | exact HB.out))) : w.heap.size ≤ gb772));clear HB;have HB := n0_;have BK772 := n1_;have GW772 := n2_;have GE772 := n3_;clear n0_ n1_ n2_ n3_;clear hb hbox hg;have hcz10_0 : w9.cell? ⟨gb772,0,none⟩ = some (.int .u8 a0_0) := (blk_cell BK772.out 0).trans rfl;have hcz10_1 : w9.cell? ⟨gb772,1,none⟩ = some (.int .i64 a0_1) := (blk_cell BK772.out 1).trans rfl;have hcz10_2 : w9.cell? ⟨gb772,2,none⟩ = some (.int .i64 a0_2) := (blk_cell BK772.out 2).trans rfl;have hcz10_3 : w9.cell? ⟨gb772,3,none⟩ = some (.int .i64 a0_3) := (blk_cell BK772.out 3).trans rfl;have hfz10_0 := blk_frozen BK772.out 0;have hfz10_1 := blk_frozen BK772.out 1;have hfz10_2 := blk_frozen BK772.out 2;have hfz10_3 := blk_frozen BK772.out 3));go_upto_if 15 with (first | ((with_reducible refine gate_dst (N := 1) rfl ?_);refine box_event ?hg (N := 1) ?hd (cs := #[.int .u8 a0_0,.int .i64 a0_1,.int .i64 a0_2,.int .i64 a0_3]) (t := 78) ?hr ?_;(case hd => rfl);(case hg => rfl);(case hr => first | (go_simp;done) | (go_simp;rfl));intro gb772 hg w9 hbox hb;have n0_ := Aside0.mk (below_step (by repeat (first | (with_reducible first | exact HB.out | apply below_alloc | apply pw_below_drewN | apply below_drew1) | exact HB.out)) hb);have n1_ := Aside0.mk (hbox);have n2_ := Aside0.mk ((by rw [hg];exact (below_size (by repeat (first | (with_reducible first | exact HB.out | apply below_alloc | apply pw_below_drewN | apply below_drew1) | exact HB.out))) : w.heap.size ≤ gb772));have n3_ := Aside0.mk ((by rw [hg];exact (below_size (by repeat (first | (with_reducible first | exact HB.out | apply below_alloc | apply pw_below_drewN | apply below_drew1) | exact HB.out))) : w.heap.size ≤ gb772));clear HB;have HB := n0_;have BK772 := n1_;have GW772 := n2_;have GE772 := n3_;clear n0_ n1_ n2_ n3_;clear hb hbox hg;have hcz10_0 : w9.cell? ⟨gb772,0,none⟩ = some (.int .u8 a0_0) := (blk_cell BK772.out 0).trans rfl;have hcz10_1 : w9.cell? ⟨gb772,1,none⟩ = some (.int .i64 a0_1) := (blk_cell BK772.out 1).trans rfl;have hcz10_2 : w9.cell? ⟨gb772,2,none⟩ = some (.int .i64 a0_2) := (blk_cell BK772.out 2).trans rfl;have hcz10_3 : w9.cell? ⟨gb772,3,none⟩ = some (.int .i64 a0_3) := (blk_cell BK772.out 3).trans rfl;have hfz10_0 := blk_frozen BK772.out 0;have hfz10_1 := blk_frozen BK772.out 1;have hfz10_2 := blk_frozen BK772.out 2;have hfz10_3 := blk_frozen BK772.out 3)))
      (try simp only [Act.put,List.setIfInBounds_toArray,List.set_cons_zero,List.set_cons_succ])
      go_cut [15] (fun v15 wc => ∃ (kq : Nat) (x15_7 : Bool),v15 = .bool x15_7 ∧ Aside0 (model_Op_Span.j0 kq a0_0 x15_7 a0_0 a0_1 a0_2 a0_3 = some (r1,r2,r3)) ∧ Aside0 (kq ≤ k) ∧ Aside0 (wc.heap[gb772]? = some (.cells #[.int .u8 a0_0,.int .i64 a0_1,.int .i64 a0_2,.int .i64 a0_3] 78 (0,0))) ∧ Aside0 (Below w.heap.size w wc))
      case first =>
        have H := HC8.out
        clear HC8
        by_cases c11 : a0_0 = 6
        · rw [if_pos c11] at H
          have c11b0 : (a0_0 == 6) = true := beq_iff_eq.mpr c11
          have c11b1 : (a0_0 != 6) = false := bne_eq_false_iff_eq.mpr c11
          clear c11
          (first | rw [c11b0] | (simp only [i64_w,i32_w];rw [c11b0]) | skip)
          have H' := Aside0.mk H
          clear H
          go_wp2
          repeat (go_quiet (fail);try go_wp2)
          go_meet
          case rel => exact ⟨_,((a0_0 == 6)),(by first | rfl | (simp;done) | (simp [*];done)),H',⟨by first | omega | exact Nat.le_refl _⟩,⟨by (with_reducible repeat (first | refine blk_drewN ?_ _ | refine blk_drew ?_ | refine blk_alloc ?_ _));exact BK772.out⟩,⟨by repeat (first | (with_reducible first | exact HB.out | apply below_alloc | apply pw_below_drewN | apply below_drew1 | refine below_set ?_ GE772.out) | exact HB.out)⟩⟩
        · rw [if_neg c11] at H
          have c11b0 : (a0_0 == 6) = false := beq_eq_false_iff_ne.mpr c11
          have c11b1 : (a0_0 != 6) = true := bne_iff_ne.mpr c11
          (first | rw [c11b0] | (simp only [i64_w,i32_w];rw [c11b0]) | skip)
          by_cases c12 : a0_0 = 7
          · rw [if_pos c12] at H
            have c12b0 : (a0_0 == 7) = true := beq_iff_eq.mpr c12
            have c12b1 : (a0_0 != 7) = false := bne_eq_false_iff_eq.mpr c12
            clear c12
            have H' := Aside0.mk H
            clear H
            go_wp2
            repeat (go_quiet (fail);try go_wp2)
            go_meet
            case rel => exact ⟨_,((a0_0 == 7)),(by first | rfl | (simp;done) | (simp [*];done)),H',⟨by first | omega | exact Nat.le_refl _⟩,⟨by (with_reducible repeat (first | refine blk_drewN ?_ _ | refine blk_drew ?_ | refine blk_alloc ?_ _));exact BK772.out⟩,⟨by repeat (first | (with_reducible first | exact HB.out | apply below_alloc | apply pw_below_drewN | apply below_drew1 | refine below_set ?_ GE772.out) | exact HB.out)⟩⟩
          · rw [if_neg c12] at H
            have c12b0 : (a0_0 == 7) = false := beq_eq_false_iff_ne.mpr c12
            have c12b1 : (a0_0 != 7) = true := bne_iff_ne.mpr c12
            have H' := Aside0.mk H
            clear H
            go_wp2
            repeat (go_quiet (fail);try go_wp2)
            go_meet
            case rel => exact ⟨_,((a0_0 == 9)),(by first | rfl | (simp;done) | (simp [*];done)),H',⟨by first | omega | exact Nat.le_refl _⟩,⟨by (with_reducible repeat (first | refine blk_drewN ?_ _ | refine blk_drew ?_ | refine blk_alloc ?_ _));exact BK772.out⟩,⟨by repeat (first | (with_reducible first | exact HB.out | apply below_alloc | apply pw_below_drewN | apply below_drew1 | refine below_set ?_ GE772.out) | exact HB.out)⟩⟩
      case rest =>
        clear HC8
        try clear c1
        try clear c2
        try clear c2b0
        try clear c2b1
        try clear p2
        try clear c5
        try clear c5b0
        try clear c5b1
        try clear c7
        try clear c11
        try clear c11b0
        try clear c11b1
        try clear c12
        try clear c12b0
        try clear c12b1
        try clear hcz10_0
        try clear hcz10_1
        try clear hcz10_2
        try clear hcz10_3
        try clear hcz4_0
        try clear hcz4_1
        try clear hcz4_2
        try clear hcz4_3
        try clear hcz7_0
        try clear hcz7_1
        try clear hcz7_2
        try clear hcz7_3
        try clear hfz10_0
        try clear hfz10_1
        try clear hfz10_2
        try clear hfz10_3
        try clear hfz4_0
        try clear hfz4_1
        try clear hfz4_2
        try clear hfz4_3
        try clear hfz7_0
        try clear hfz7_1
        try clear hfz7_2
        try clear hfz7_3
        obtain ⟨kq,x15_7,rfl,HA,HJ7,BK772,HB⟩ := hcut
        cases kq with
        | zero => exact absurd HA.out (by simp [model_Op_Span.j0])
        | succ kj7 =>
          have H := HA.out
          clear HA
          simp only [model_Op_Span.j0] at H
          by_cases c13 : x15_7 = true
          · subst c13
            have H1 : (some ((-9223372036854775808),9223372036854775807,true)) = some (r1,r2,r3) := by rw [if_pos rfl] at H;exact H
            clear H
            have H := H1
            clear H1
            simp only [Option.some.injEq,Prod.mk.injEq] at H
            obtain ⟨rfl,rfl,rfl⟩ := H
            go_wp2
            repeat (go_quiet (fail);try go_wp2)
            go_ret3
            exact ⟨by first | rfl | (simp [errW_none,errW_some] <;> rfl) | (simp [*,errW_none,errW_some] <;> rfl),by repeat (first | (with_reducible first | exact HB.out | apply below_alloc | apply pw_below_drewN | apply below_drew1 | refine below_set ?_ GE772.out) | exact HB.out)⟩
          · replace c13 := Bool.eq_false_iff.mpr c13
            subst c13
            have H1 : (if a0_0 = 8 then (if a0_1 = (-9223372036854775808) then (some (1,0,true)) else (some ((-9223372036854775808),wrap64 (a0_1 - 1),true))) else (if a0_0 = 10 then (some (a0_1,a0_2,true)) else (if a0_0 = 11 then (some (a0_1,a0_2,true)) else (some (0,0,false))))) = some (r1,r2,r3) := by rw [if_neg (show ¬ (false = true) by decide)] at H;exact H
            clear H
            have H := H1
            clear H1
            by_cases c14 : a0_0 = 8
            · rw [if_pos c14] at H
              have c14b0 : (a0_0 == 8) = true := beq_iff_eq.mpr c14
              have c14b1 : (a0_0 != 8) = false := bne_eq_false_iff_eq.mpr c14
              clear c14
              by_cases c15 : a0_1 = (-9223372036854775808)
              · rw [if_pos c15] at H
                have c15b0 : (a0_1 == (-9223372036854775808)) = true := beq_iff_eq.mpr c15
                have c15b1 : (a0_1 != (-9223372036854775808)) = false := bne_eq_false_iff_eq.mpr c15
                clear c15
                simp only [Option.some.injEq,Prod.mk.injEq] at H
                obtain ⟨rfl,rfl,rfl⟩ := H
                have hcz16_0 : wc.cell? ⟨gb772,0,none⟩ = some (.int .u8 a0_0) := (blk_cell BK772.out 0).trans rfl
                have hcz16_1 : wc.cell? ⟨gb772,1,none⟩ = some (.int .i64 a0_1) := (blk_cell BK772.out 1).trans rfl
                have hcz16_2 : wc.cell? ⟨gb772,2,none⟩ = some (.int .i64 a0_2) := (blk_cell BK772.out 2).trans rfl
                have hcz16_3 : wc.cell? ⟨gb772,3,none⟩ = some (.int .i64 a0_3) := (blk_cell BK772.out 3).trans rfl
                have hfz16_0 := blk_frozen BK772.out 0
                have hfz16_1 := blk_frozen BK772.out 1
                have hfz16_2 := blk_frozen BK772.out 2
                have hfz16_3 := blk_frozen BK772.out 3
                go_wp2
                repeat (go_quiet (fail);try go_wp2)
                go_ret3
                exact ⟨by first | rfl | (simp [errW_none,errW_some] <;> rfl) | (simp [*,errW_none,errW_some] <;> rfl),by repeat (first | (with_reducible first | exact HB.out | apply below_alloc | apply pw_below_drewN | apply below_drew1 | refine below_set ?_ GE772.out) | exact HB.out)⟩
              · rw [if_neg c15] at H
                have c15b0 : (a0_1 == (-9223372036854775808)) = false := beq_eq_false_iff_ne.mpr c15
                have c15b1 : (a0_1 != (-9223372036854775808)) = true := bne_iff_ne.mpr c15
                simp only [Option.some.injEq,Prod.mk.injEq] at H
                obtain ⟨rfl,rfl,rfl⟩ := H
                have hcz17_0 : wc.cell? ⟨gb772,0,none⟩ = some (.int .u8 a0_0) := (blk_cell BK772.out 0).trans rfl
                have hcz17_1 : wc.cell? ⟨gb772,1,none⟩ = some (.int .i64 a0_1) := (blk_cell BK772.out 1).trans rfl
                have hcz17_2 : wc.cell? ⟨gb772,2,none⟩ = some (.int .i64 a0_2) := (blk_cell BK772.out 2).trans rfl
                have hcz17_3 : wc.cell? ⟨gb772,3,none⟩ = some (.int .i64 a0_3) := (blk_cell BK772.out 3).trans rfl
                have hfz17_0 := blk_frozen BK772.out 0
                have hfz17_1 := blk_frozen BK772.out 1
                have hfz17_2 := blk_frozen BK772.out 2
                have hfz17_3 := blk_frozen BK772.out 3
                go_wp2
                repeat (go_quiet (fail);try go_wp2)
                go_ret3
                exact ⟨by first | rfl | (simp [errW_none,errW_some] <;> rfl) | (simp [*,errW_none,errW_some] <;> rfl),by repeat (first | (with_reducible first | exact HB.out | apply below_alloc | apply pw_below_drewN | apply below_drew1 | refine below_set ?_ GE772.out) | exact HB.out)⟩
            · rw [if_neg c14] at H
              have c14b0 : (a0_0 == 8) = false := beq_eq_false_iff_ne.mpr c14
              have c14b1 : (a0_0 != 8) = true := bne_iff_ne.mpr c14
              by_cases c18 : a0_0 = 10
              · rw [if_pos c18] at H
                have c18b0 : (a0_0 == 10) = true := beq_iff_eq.mpr c18
                have c18b1 : (a0_0 != 10) = false := bne_eq_false_iff_eq.mpr c18
                clear c18
                simp only [Option.some.injEq,Prod.mk.injEq] at H
                obtain ⟨rfl,rfl,rfl⟩ := H
                have hcz19_0 : wc.cell? ⟨gb772,0,none⟩ = some (.int .u8 a0_0) := (blk_cell BK772.out 0).trans rfl
                have hcz19_1 : wc.cell? ⟨gb772,1,none⟩ = some (.int .i64 a0_1) := (blk_cell BK772.out 1).trans rfl
                have hcz19_2 : wc.cell? ⟨gb772,2,none⟩ = some (.int .i64 a0_2) := (blk_cell BK772.out 2).trans rfl
                have hcz19_3 : wc.cell? ⟨gb772,3,none⟩ = some (.int .i64 a0_3) := (blk_cell BK772.out 3).trans rfl
                have hfz19_0 := blk_frozen BK772.out 0
                have hfz19_1 := blk_frozen BK772.out 1
                have hfz19_2 := blk_frozen BK772.out 2
                have hfz19_3 := blk_frozen BK772.out 3
                go_wp2
                repeat (go_quiet (fail);try go_wp2)
                go_ret3
                exact ⟨by first | rfl | (simp [errW_none,errW_some] <;> rfl) | (simp [*,errW_none,errW_some] <;> rfl),by repeat (first | (with_reducible first | exact HB.out | apply below_alloc | apply pw_below_drewN | apply below_drew1 | refine below_set ?_ GE772.out) | exact HB.out)⟩
              · rw [if_neg c18] at H
                have c18b0 : (a0_0 == 10) = false := beq_eq_false_iff_ne.mpr c18
                have c18b1 : (a0_0 != 10) = true := bne_iff_ne.mpr c18
                by_cases c20 : a0_0 = 11
                · rw [if_pos c20] at H
                  have c20b0 : (a0_0 == 11) = true := beq_iff_eq.mpr c20
                  have c20b1 : (a0_0 != 11) = false := bne_eq_false_iff_eq.mpr c20
                  clear c20
                  simp only [Option.some.injEq,Prod.mk.injEq] at H
                  obtain ⟨rfl,rfl,rfl⟩ := H
                  have hcz21_0 : wc.cell? ⟨gb772,0,none⟩ = some (.int .u8 a0_0) := (blk_cell BK772.out 0).trans rfl
                  have hcz21_1 : wc.cell? ⟨gb772,1,none⟩ = some (.int .i64 a0_1) := (blk_cell BK772.out 1).trans rfl
                  have hcz21_2 : wc.cell? ⟨gb772,2,none⟩ = some (.int .i64 a0_2) := (blk_cell BK772.out 2).trans rfl
                  have hcz21_3 : wc.cell? ⟨gb772,3,none⟩ = some (.int .i64 a0_3) := (blk_cell BK772.out 3).trans rfl
                  have hfz21_0 := blk_frozen BK772.out 0
                  have hfz21_1 := blk_frozen BK772.out 1
                  have hfz21_2 := blk_frozen BK772.out 2
                  have hfz21_3 := blk_frozen BK772.out 3
                  go_wp2
                  repeat (go_quiet (fail);try go_wp2)
                  go_ret3
                  exact ⟨by first | rfl | (simp [errW_none,errW_some] <;> rfl) | (simp [*,errW_none,errW_some] <;> rfl),by repeat (first | (with_reducible first | exact HB.out | apply below_alloc | apply pw_below_drewN | apply below_drew1 | refine below_set ?_ GE772.out) | exact HB.out)⟩
                · rw [if_neg c20] at H
                  have c20b0 : (a0_0 == 11) = false := beq_eq_false_iff_ne.mpr c20
                  have c20b1 : (a0_0 != 11) = true := bne_iff_ne.mpr c20
                  simp only [Option.some.injEq,Prod.mk.injEq] at H
                  obtain ⟨rfl,rfl,rfl⟩ := H
                  go_wp2
                  repeat (go_quiet (fail);try go_wp2)
                  go_ret3
                  exact ⟨by first | rfl | (simp [errW_none,errW_some] <;> rfl) | (simp [*,errW_none,errW_some] <;> rfl),by repeat (first | (with_reducible first | exact HB.out | apply below_alloc | apply pw_below_drewN | apply below_drew1 | refine below_set ?_ GE772.out) | exact HB.out)⟩

end Go.Proofs.Ytkoiffkonjpoiaa.Q
namespace Go.Proofs.Ytkoiffkonjpoiaa.Q
open Go.RowKit Go.Proofs.YtkoiffkonjpoiaaW.PrintWords Go.Proofs.YtkoiffkonjpoiaaW.PrintLast Go.Proofs.YtkoiffkonjpoiaaW.PrintMore Go.Proofs.YtkoiffkonjpoiaaX
attribute [local go_sem] max2_int min2_int max_two min_two max_three min_three max_four min_four   -- for this text's walks alone
set_option linter.unusedVariables false
set_option linter.unusedSimpArgs false

def model_Same.f (k : Nat) (a0_0 : Int) (a0_1 : Bool) (a0_2 : Int) (a0_3 : Int) (l0_4 : List (S40)) (a0_5 : Bool) (a1_0 : Int) (a1_1 : Bool) (a1_2 : Int) (a1_3 : Int) (l1_4 : List (S40)) (a1_5 : Bool) : Option (Bool) := if a0_0 = a1_0 then (if (a0_1 == a1_1) = true then (if a0_2 = a1_2 then (if a0_3 = a1_3 then ((leaf_Pair_115.f k l0_4 l1_4).bind fun t1195 => (some t1195)) else (some false)) else (some false)) else (some false)) else (some false)
set_option maxHeartbeats 8000000 in
set_option maxRecDepth 100000 in
theorem model_Same.calls (k : Nat) (a0_0 : Int) (a0_1 : Bool) (a0_2 : Int) (a0_3 : Int) (A0_4 : Option Addr) (c0_4 : Nat) (l0_4 : List (S40)) (a0_5 : Bool) (a1_0 : Int) (a1_1 : Bool) (a1_2 : Int) (a1_3 : Int) (A1_4 : Option Addr) (c1_4 : Nat) (l1_4 : List (S40)) (a1_5 : Bool) (r : Bool) (w : World) (hr0_4 : Kd.C k40 w A0_4 l0_4.length l0_4) (hc0_4 : l0_4.length ≤ c0_4) (hr1_4 : Kd.C k40 w A1_4 l1_4.length l1_4) (hc1_4 : l1_4.length ≤ c1_4) (h : model_Same.f k a0_0 a0_1 a0_2 a0_3 l0_4 a0_5 a1_0 a1_1 a1_2 a1_3 l1_4 a1_5 = some r) :
    Calls Try.prog 81 #[.agg #[.int .i64 a0_0,.bool a0_1,.int .i64 a0_2,.int .i64 a0_3,.slice A0_4 l0_4.length c0_4,.bool a0_5],.agg #[.int .i64 a1_0,.bool a1_1,.int .i64 a1_2,.int .i64 a1_3,.slice A1_4 l1_4.length c1_4,.bool a1_5]] w fun e w' => e = .returned (.bool r) ∧ Below w.heap.size w w' := by
  have hu84 := Try.underlying84
  have HR0_4 := Aside0.mk hr0_4
  have HC0_4 := Aside0.mk hc0_4
  clear hr0_4 hc0_4
  have HR1_4 := Aside0.mk hr1_4
  have HC1_4 := Aside0.mk hc1_4
  clear hr1_4 hc1_4
  have HB := Aside0.mk (Below.refl w.heap.size w)
  have H : (if a0_0 = a1_0 then (if (a0_1 == a1_1) = true then (if a0_2 = a1_2 then (if a0_3 = a1_3 then ((leaf_Pair_115.f k l0_4 l1_4).bind fun t1195 => (some t1195)) else (some false)) else (some false)) else (some false)) else (some false)) = some r := h
  clear h
  by_cases c3 : a0_0 = a1_0
  · rw [if_pos c3] at H
    have c3b0 : (a0_0 == a1_0) = true := beq_iff_eq.mpr c3
    have c3b1 : (a0_0 != a1_0) = false := bne_eq_false_iff_eq.mpr c3
    clear c3
    by_cases c4 : (a0_1 == a1_1) = true
    · rw [if_pos c4] at H
      have c4b0 : (a0_1 == a1_1) = true := c4
      (try (have c4b1 : decide (a0_1 = a1_1) = true := by simpa using c4))
      (try (have c4b2 : (a0_1 == a1_1) = true := by simpa using c4))
      clear c4
      by_cases c5 : a0_2 = a1_2
      · rw [if_pos c5] at H
        have c5b0 : (a0_2 == a1_2) = true := beq_iff_eq.mpr c5
        have c5b1 : (a0_2 != a1_2) = false := bne_eq_false_iff_eq.mpr c5
        clear c5
        by_cases c6 : a0_3 = a1_3
        · rw [if_pos c6] at H
          have c6b0 : (a0_3 == a1_3) = true := beq_iff_eq.mpr c6
          have c6b1 : (a0_3 != a1_3) = false := bne_eq_false_iff_eq.mpr c6
          clear c6
          replace H := Option.bind_eq_some_iff.mp H
          obtain ⟨t1195,A70,H⟩ := H
          replace H : (some t1195) = some r := H
          have A7 := Aside0.mk A70
          clear A70
          obtain rfl := Option.some.inj H
          go_enter Try.func81,Try.ntmps81
          go_wp2_with (first | ((with_reducible refine gate_dst (N := 2) rfl ?_);refine box_event ?hg (N := 2) ?hd (cs := #[.int .i64 a0_0,.bool a0_1,.int .i64 a0_2,.int .i64 a0_3,.slice A0_4 l0_4.length c0_4,.bool a0_5]) (t := 84) ?hr ?_;(case hd => rfl);(case hg => rfl);(case hr => first | (go_simp;done) | (go_simp;rfl));intro gb1193 hg w8 hbox hb;have n0_ := Aside0.mk (below_step (by repeat (first | (with_reducible first | exact HB.out | apply below_alloc | apply pw_below_drewN | apply below_drew1) | exact HB.out)) hb);have n1_ := Aside0.mk (hbox);have n2_ := Aside0.mk ((by rw [hg];exact (below_size (by repeat (first | (with_reducible first | exact HB.out | apply below_alloc | apply pw_below_drewN | apply below_drew1) | exact HB.out))) : w.heap.size ≤ gb1193));have n3_ := Aside0.mk ((by rw [hg];exact (below_size (by repeat (first | (with_reducible first | exact HB.out | apply below_alloc | apply pw_below_drewN | apply below_drew1) | exact HB.out))) : w.heap.size ≤ gb1193));clear HB;have HB := n0_;have BK1193 := n1_;have GW1193 := n2_;have GE1193 := n3_;clear n0_ n1_ n2_ n3_;clear hb hbox hg) | ((with_reducible refine gate_dst (N := 3) rfl ?_);refine box_event ?hg (N := 3) ?hd (cs := #[.int .i64 a1_0,.bool a1_1,.int .i64 a1_2,.int .i64 a1_3,.slice A1_4 l1_4.length c1_4,.bool a1_5]) (t := 84) ?hr ?_;(case hd => rfl);(case hg => rfl);(case hr => first | (go_simp;done) | (go_simp;rfl));intro gb1194 hg w9 hbox hb;have n0_ := Aside0.mk (blk_below (g := gb1193) (o := .cells #[.int .i64 a0_0,.bool a0_1,.int .i64 a0_2,.int .i64 a0_3,.slice A0_4 l0_4.length c0_4,.bool a0_5] 84 (0,0)) (by (with_reducible repeat (first | refine blk_drewN ?_ _ | refine blk_drew ?_ | refine blk_alloc ?_ _));exact BK1193.out) hb);have n1_ := Aside0.mk (below_step (by repeat (first | (with_reducible first | exact HB.out | apply below_alloc | apply pw_below_drewN | apply below_drew1 | refine below_set ?_ GE1193.out) | exact HB.out)) hb);have n2_ := Aside0.mk (hbox);have n3_ := Aside0.mk ((by rw [hg];exact (below_size (by repeat (first | (with_reducible first | exact HB.out | apply below_alloc | apply pw_below_drewN | apply below_drew1 | refine below_set ?_ GE1193.out) | exact HB.out))) : w.heap.size ≤ gb1194));have n4_ := Aside0.mk ((by rw [hg];exact (below_size (by repeat (first | (with_reducible first | exact HB.out | apply below_alloc | apply pw_below_drewN | apply below_drew1 | refine below_set ?_ GE1193.out) | exact HB.out))) : w.heap.size ≤ gb1194));have n5_ := Aside0.mk ((by rw [hg];exact Nat.ne_of_lt (blk_lt (g := gb1193) (o := .cells #[.int .i64 a0_0,.bool a0_1,.int .i64 a0_2,.int .i64 a0_3,.slice A0_4 l0_4.length c0_4,.bool a0_5] 84 (0,0)) (by (with_reducible repeat (first | refine blk_drewN ?_ _ | refine blk_drew ?_ | refine blk_alloc ?_ _));exact BK1193.out)) : gb1193 ≠ gb1194));have n6_ := Aside0.mk ((by rw [hg];exact Nat.ne_of_gt (blk_lt (g := gb1193) (o := .cells #[.int .i64 a0_0,.bool a0_1,.int .i64 a0_2,.int .i64 a0_3,.slice A0_4 l0_4.length c0_4,.bool a0_5] 84 (0,0)) (by (with_reducible repeat (first | refine blk_drewN ?_ _ | refine blk_drew ?_ | refine blk_alloc ?_ _));exact BK1193.out)) : gb1194 ≠ gb1193));clear BK1193;clear HB;have BK1193 := n0_;have HB := n1_;have BK1194 := n2_;have GW1194 := n3_;have GE1194 := n4_;have NB1193_1194 := n5_;have NB1194_1193 := n6_;clear n0_ n1_ n2_ n3_ n4_ n5_ n6_;clear hb hbox hg;have hnb10 := NB1193_1194.out;have hnc10 := NB1194_1193.out;have hcz11_0 : w9.cell? ⟨gb1193,0,none⟩ = some (.int .i64 a0_0) := (blk_cell BK1193.out 0).trans rfl;have hcz11_1 : w9.cell? ⟨gb1193,1,none⟩ = some (.bool a0_1) := (blk_cell BK1193.out 1).trans rfl;have hcz11_2 : w9.cell? ⟨gb1193,2,none⟩ = some (.int .i64 a0_2) := (blk_cell BK1193.out 2).trans rfl;have hcz11_3 : w9.cell? ⟨gb1193,3,none⟩ = some (.int .i64 a0_3) := (blk_cell BK1193.out 3).trans rfl;have hcz11_4 : w9.cell? ⟨gb1193,4,none⟩ = some (.slice A0_4 l0_4.length c0_4) := (blk_cell BK1193.out 4).trans rfl;have hcz11_5 : w9.cell? ⟨gb1193,5,none⟩ = some (.bool a0_5) := (blk_cell BK1193.out 5).trans rfl;have hfz11_0 := blk_frozen BK1193.out 0;have hfz11_1 := blk_frozen BK1193.out 1;have hfz11_2 := blk_frozen BK1193.out 2;have hfz11_3 := blk_frozen BK1193.out 3;have hfz11_4 := blk_frozen BK1193.out 4;have hfz11_5 := blk_frozen BK1193.out 5;have hcz12_0 : w9.cell? ⟨gb1194,0,none⟩ = some (.int .i64 a1_0) := (blk_cell BK1194.out 0).trans rfl;have hcz12_1 : w9.cell? ⟨gb1194,1,none⟩ = some (.bool a1_1) := (blk_cell BK1194.out 1).trans rfl;have hcz12_2 : w9.cell? ⟨gb1194,2,none⟩ = some (.int .i64 a1_2) := (blk_cell BK1194.out 2).trans rfl;have hcz12_3 : w9.cell? ⟨gb1194,3,none⟩ = some (.int .i64 a1_3) := (blk_cell BK1194.out 3).trans rfl;have hcz12_4 : w9.cell? ⟨gb1194,4,none⟩ = some (.slice A1_4 l1_4.length c1_4) := (blk_cell BK1194.out 4).trans rfl;have hcz12_5 : w9.cell? ⟨gb1194,5,none⟩ = some (.bool a1_5) := (blk_cell BK1194.out 5).trans rfl;have hfz12_0 := blk_frozen BK1194.out 0;have hfz12_1 := blk_frozen BK1194.out 1;have hfz12_2 := blk_frozen BK1194.out 2;have hfz12_3 := blk_frozen BK1194.out 3;have hfz12_4 := blk_frozen BK1194.out 4;have hfz12_5 := blk_frozen BK1194.out 5) | (go_at_call 115;(with_reducible refine (leaf_Pair_115.calls k _ _ l0_4 _ _ l1_4 t1195 _ ?side1 ?side2 ?side3 ?side4 A7.out).mono ?_);(case side1 => repeat (first | exact (Kd.C_below HR0_4.out HB.out) | (with_reducible refine Kd.C_alloc ?_ _) | (with_reducible refine Kd.C_drewN ?_ _) | (with_reducible refine Kd.C_drew ?_)));(case side2 => exact HC0_4.out);(case side3 => repeat (first | exact (Kd.C_below HR1_4.out HB.out) | (with_reducible refine Kd.C_alloc ?_ _) | (with_reducible refine Kd.C_drewN ?_ _) | (with_reducible refine Kd.C_drew ?_)));(case side4 => exact HC1_4.out);rintro e w' ⟨rfl,⟨nd,rfl⟩⟩))
          go_ret
          exact ⟨by first | rfl | (simp [errW_none,errW_some] <;> rfl) | (simp [*,errW_none,errW_some] <;> rfl),by repeat (first | (with_reducible first | exact HB.out | apply below_alloc | apply pw_below_drewN | apply below_drew1 | refine below_set ?_ GE1193.out | refine below_set ?_ GE1194.out) | exact HB.out)⟩
        · rw [if_neg c6] at H
          have c6b0 : (a0_3 == a1_3) = false := beq_eq_false_iff_ne.mpr c6
          have c6b1 : (a0_3 != a1_3) = true := bne_iff_ne.mpr c6
          obtain rfl := Option.some.inj H
          go_enter Try.func81,Try.ntmps81
          go_wp2_with (first | ((with_reducible refine gate_dst (N := 2) rfl ?_);refine box_event ?hg (N := 2) ?hd (cs := #[.int .i64 a0_0,.bool a0_1,.int .i64 a0_2,.int .i64 a0_3,.slice A0_4 l0_4.length c0_4,.bool a0_5]) (t := 84) ?hr ?_;(case hd => rfl);(case hg => rfl);(case hr => first | (go_simp;done) | (go_simp;rfl));intro gb1193 hg w13 hbox hb;have n0_ := Aside0.mk (below_step (by repeat (first | (with_reducible first | exact HB.out | apply below_alloc | apply pw_below_drewN | apply below_drew1) | exact HB.out)) hb);have n1_ := Aside0.mk (hbox);have n2_ := Aside0.mk ((by rw [hg];exact (below_size (by repeat (first | (with_reducible first | exact HB.out | apply below_alloc | apply pw_below_drewN | apply below_drew1) | exact HB.out))) : w.heap.size ≤ gb1193));have n3_ := Aside0.mk ((by rw [hg];exact (below_size (by repeat (first | (with_reducible first | exact HB.out | apply below_alloc | apply pw_below_drewN | apply below_drew1) | exact HB.out))) : w.heap.size ≤ gb1193));clear HB;have HB := n0_;have BK1193 := n1_;have GW1193 := n2_;have GE1193 := n3_;clear n0_ n1_ n2_ n3_;clear hb hbox hg) | ((with_reducible refine gate_dst (N := 3) rfl ?_);refine box_event ?hg (N := 3) ?hd (cs := #[.int .i64 a1_0,.bool a1_1,.int .i64 a1_2,.int .i64 a1_3,.slice A1_4 l1_4.length c1_4,.bool a1_5]) (t := 84) ?hr ?_;(case hd => rfl);(case hg => rfl);(case hr => first | (go_simp;done) | (go_simp;rfl));intro gb1194 hg w14 hbox hb;have n0_ := Aside0.mk (blk_below (g := gb1193) (o := .cells #[.int .i64 a0_0,.bool a0_1,.int .i64 a0_2,.int .i64 a0_3,.slice A0_4 l0_4.length c0_4,.bool a0_5] 84 (0,0)) (by (with_reducible repeat (first | refine blk_drewN ?_ _ | refine blk_drew ?_ | refine blk_alloc ?_ _));exact BK1193.out) hb);have n1_ := Aside0.mk (below_step (by repeat (first | (with_reducible first | exact HB.out | apply below_alloc | apply pw_below_drewN | apply below_drew1 | refine below_set ?_ GE1193.out) | exact HB.out)) hb);have n2_ := Aside0.mk (hbox);have n3_ := Aside0.mk ((by rw [hg];exact (below_size (by repeat (first | (with_reducible first | exact HB.out | apply below_alloc | apply pw_below_drewN | apply below_drew1 | refine below_set ?_ GE1193.out) | exact HB.out))) : w.heap.size ≤ gb1194));have n4_ := Aside0.mk ((by rw [hg];exact (below_size (by repeat (first | (with_reducible first | exact HB.out | apply below_alloc | apply pw_below_drewN | apply below_drew1 | refine below_set ?_ GE1193.out) | exact HB.out))) : w.heap.size ≤ gb1194));have n5_ := Aside0.mk ((by rw [hg];exact Nat.ne_of_lt (blk_lt (g := gb1193) (o := .cells #[.int .i64 a0_0,.bool a0_1,.int .i64 a0_2,.int .i64 a0_3,.slice A0_4 l0_4.length c0_4,.bool a0_5] 84 (0,0)) (by (with_reducible repeat (first | refine blk_drewN ?_ _ | refine blk_drew ?_ | refine blk_alloc ?_ _));exact BK1193.out)) : gb1193 ≠ gb1194));have n6_ := Aside0.mk ((by rw [hg];exact Nat.ne_of_gt (blk_lt (g := gb1193) (o := .cells #[.int .i64 a0_0,.bool a0_1,.int .i64 a0_2,.int .i64 a0_3,.slice A0_4 l0_4.length c0_4,.bool a0_5] 84 (0,0)) (by (with_reducible repeat (first | refine blk_drewN ?_ _ | refine blk_drew ?_ | refine blk_alloc ?_ _));exact BK1193.out)) : gb1194 ≠ gb1193));clear BK1193;clear HB;have BK1193 := n0_;have HB := n1_;have BK1194 := n2_;have GW1194 := n3_;have GE1194 := n4_;have NB1193_1194 := n5_;have NB1194_1193 := n6_;clear n0_ n1_ n2_ n3_ n4_ n5_ n6_;clear hb hbox hg;have hnb15 := NB1193_1194.out;have hnc15 := NB1194_1193.out;have hcz16_0 : w14.cell? ⟨gb1193,0,none⟩ = some (.int .i64 a0_0) := (blk_cell BK1193.out 0).trans rfl;have hcz16_1 : w14.cell? ⟨gb1193,1,none⟩ = some (.bool a0_1) := (blk_cell BK1193.out 1).trans rfl;have hcz16_2 : w14.cell? ⟨gb1193,2,none⟩ = some (.int .i64 a0_2) := (blk_cell BK1193.out 2).trans rfl;have hcz16_3 : w14.cell? ⟨gb1193,3,none⟩ = some (.int .i64 a0_3) := (blk_cell BK1193.out 3).trans rfl;have hcz16_4 : w14.cell? ⟨gb1193,4,none⟩ = some (.slice A0_4 l0_4.length c0_4) := (blk_cell BK1193.out 4).trans rfl;have hcz16_5 : w14.cell? ⟨gb1193,5,none⟩ = some (.bool a0_5) := (blk_cell BK1193.out 5).trans rfl;have hfz16_0 := blk_frozen BK1193.out 0;have hfz16_1 := blk_frozen BK1193.out 1;have hfz16_2 := blk_frozen BK1193.out 2;have hfz16_3 := blk_frozen BK1193.out 3;have hfz16_4 := blk_frozen BK1193.out 4;have hfz16_5 := blk_frozen BK1193.out 5;have hcz17_0 : w14.cell? ⟨gb1194,0,none⟩ = some (.int .i64 a1_0) := (blk_cell BK1194.out 0).trans rfl;have hcz17_1 : w14.cell? ⟨gb1194,1,none⟩ = some (.bool a1_1) := (blk_cell BK1194.out 1).trans rfl;have hcz17_2 : w14.cell? ⟨gb1194,2,none⟩ = some (.int .i64 a1_2) := (blk_cell BK1194.out 2).trans rfl;have hcz17_3 : w14.cell? ⟨gb1194,3,none⟩ = some (.int .i64 a1_3) := (blk_cell BK1194.out 3).trans rfl;have hcz17_4 : w14.cell? ⟨gb1194,4,none⟩ = some (.slice A1_4 l1_4.length c1_4) := (blk_cell BK1194.out 4).trans rfl;have hcz17_5 : w14.cell? ⟨gb1194,5,none⟩ = some (.bool a1_5) := (blk_cell BK1194.out 5).trans rfl;have hfz17_0 := blk_frozen BK1194.out 0;have hfz17_1 := blk_frozen BK1194.out 1;have hfz17_2 := blk_frozen BK1194.out 2;have hfz17_3 := blk_frozen BK1194.out 3;have hfz17_4 := blk_frozen BK1194.out 4;have hfz17_5 := blk_frozen BK1194.out 5))
          go_ret
          exact ⟨by first | rfl | (simp [errW_none,errW_some] <;> rfl) | (simp [*,errW_none,errW_some] <;> rfl),by repeat (first | (with_reducible first | exact HB.out | apply below_alloc | apply pw_below_drewN | apply below_drew1 | refine below_set ?_ GE1193.out | refine below_set ?_ GE1194.out) | exact HB.out)⟩
      · rw [if_neg c5] at H
        have c5b0 : (a0_2 == a1_2) = false := beq_eq_false_iff_ne.mpr c5
        have c5b1 : (a0_2 != a1_2) = true := bne_iff_ne.mpr c5
        obtain rfl := Option.some.inj H
        go_enter Try.func81,Try.ntmps81
        go_wp2_with (first | ((with_reducible refine gate_dst (N := 2) rfl ?_);refine box_event ?hg (N := 2) ?hd (cs := #[.int .i64 a0_0,.bool a0_1,.int .i64 a0_2,.int .i64 a0_3,.slice A0_4 l0_4.length c0_4,.bool a0_5]) (t := 84) ?hr ?_;(case hd => rfl);(case hg => rfl);(case hr => first | (go_simp;done) | (go_simp;rfl));intro gb1193 hg w18 hbox hb;have n0_ := Aside0.mk (below_step (by repeat (first | (with_reducible first | exact HB.out | apply below_alloc | apply pw_below_drewN | apply below_drew1) | exact HB.out)) hb);have n1_ := Aside0.mk (hbox);have n2_ := Aside0.mk ((by rw [hg];exact (below_size (by repeat (first | (with_reducible first | exact HB.out | apply below_alloc | apply pw_below_drewN | apply below_drew1) | exact HB.out))) : w.heap.size ≤ gb1193));have n3_ := Aside0.mk ((by rw [hg];exact (below_size (by repeat (first | (with_reducible first | exact HB.out | apply below_alloc | apply pw_below_drewN | apply below_drew1) | exact HB.out))) : w.heap.size ≤ gb1193));clear HB;have HB := n0_;have BK1193 := n1_;have GW1193 := n2_;have GE1193 := n3_;clear n0_ n1_ n2_ n3_;clear hb hbox hg) | ((with_reducible refine gate_dst (N := 3) rfl ?_);refine box_event ?hg (N := 3) ?hd (cs := #[.int .i64 a1_0,.bool a1_1,.int .i64 a1_2,.int .i64 a1_3,.slice A1_4 l1_4.length c1_4,.bool a1_5]) (t := 84) ?hr ?_;(case hd => rfl);(case hg => rfl);(case hr => first | (go_simp;done) | (go_simp;rfl));intro gb1194 hg w19 hbox hb;have n0_ := Aside0.mk (blk_below (g := gb1193) (o := .cells #[.int .i64 a0_0,.bool a0_1,.int .i64 a0_2,.int .i64 a0_3,.slice A0_4 l0_4.length c0_4,.bool a0_5] 84 (0,0)) (by (with_reducible repeat (first | refine blk_drewN ?_ _ | refine blk_drew ?_ | refine blk_alloc ?_ _));exact BK1193.out) hb);have n1_ := Aside0.mk (below_step (by repeat (first | (with_reducible first | exact HB.out | apply below_alloc | apply pw_below_drewN | apply below_drew1 | refine below_set ?_ GE1193.out) | exact HB.out)) hb);have n2_ := Aside0.mk (hbox);have n3_ := Aside0.mk ((by rw [hg];exact (below_size (by repeat (first | (with_reducible first | exact HB.out | apply below_alloc | apply pw_below_drewN | apply below_drew1 | refine below_set ?_ GE1193.out) | exact HB.out))) : w.heap.size ≤ gb1194));have n4_ := Aside0.mk ((by rw [hg];exact (below_size (by repeat (first | (with_reducible first | exact HB.out | apply below_alloc | apply pw_below_drewN | apply below_drew1 | refine below_set ?_ GE1193.out) | exact HB.out))) : w.heap.size ≤ gb1194));have n5_ := Aside0.mk ((by rw [hg];exact Nat.ne_of_lt (blk_lt (g := gb1193) (o := .cells #[.int .i64 a0_0,.bool a0_1,.int .i64 a0_2,.int .i64 a0_3,.slice A0_4 l0_4.length c0_4,.bool a0_5] 84 (0,0)) (by (with_reducible repeat (first | refine blk_drewN ?_ _ | refine blk_drew ?_ | refine blk_alloc ?_ _));exact BK1193.out)) : gb1193 ≠ gb1194));have n6_ := Aside0.mk ((by rw [hg];exact Nat.ne_of_gt (blk_lt (g := gb1193) (o := .cells #[.int .i64 a0_0,.bool a0_1,.int .i64 a0_2,.int .i64 a0_3,.slice A0_4 l0_4.length c0_4,.bool a0_5] 84 (0,0)) (by (with_reducible repeat (first | refine blk_drewN ?_ _ | refine blk_drew ?_ | refine blk_alloc ?_ _));exact BK1193.out)) : gb1194 ≠ gb1193));clear BK1193;clear HB;have BK1193 := n0_;have HB := n1_;have BK1194 := n2_;have GW1194 := n3_;have GE1194 := n4_;have NB1193_1194 := n5_;have NB1194_1193 := n6_;clear n0_ n1_ n2_ n3_ n4_ n5_ n6_;clear hb hbox hg;have hnb20 := NB1193_1194.out;have hnc20 := NB1194_1193.out;have hcz21_0 : w19.cell? ⟨gb1193,0,none⟩ = some (.int .i64 a0_0) := (blk_cell BK1193.out 0).trans rfl;have hcz21_1 : w19.cell? ⟨gb1193,1,none⟩ = some (.bool a0_1) := (blk_cell BK1193.out 1).trans rfl;have hcz21_2 : w19.cell? ⟨gb1193,2,none⟩ = some (.int .i64 a0_2) := (blk_cell BK1193.out 2).trans rfl;have hcz21_3 : w19.cell? ⟨gb1193,3,none⟩ = some (.int .i64 a0_3) := (blk_cell BK1193.out 3).trans rfl;have hcz21_4 : w19.cell? ⟨gb1193,4,none⟩ = some (.slice A0_4 l0_4.length c0_4) := (blk_cell BK1193.out 4).trans rfl;have hcz21_5 : w19.cell? ⟨gb1193,5,none⟩ = some (.bool a0_5) := (blk_cell BK1193.out 5).trans rfl;have hfz21_0 := blk_frozen BK1193.out 0;have hfz21_1 := blk_frozen BK1193.out 1;have hfz21_2 := blk_frozen BK1193.out 2;have hfz21_3 := blk_frozen BK1193.out 3;have hfz21_4 := blk_frozen BK1193.out 4;have hfz21_5 := blk_frozen BK1193.out 5;have hcz22_0 : w19.cell? ⟨gb1194,0,none⟩ = some (.int .i64 a1_0) := (blk_cell BK1194.out 0).trans rfl;have hcz22_1 : w19.cell? ⟨gb1194,1,none⟩ = some (.bool a1_1) := (blk_cell BK1194.out 1).trans rfl;have hcz22_2 : w19.cell? ⟨gb1194,2,none⟩ = some (.int .i64 a1_2) := (blk_cell BK1194.out 2).trans rfl;have hcz22_3 : w19.cell? ⟨gb1194,3,none⟩ = some (.int .i64 a1_3) := (blk_cell BK1194.out 3).trans rfl;have hcz22_4 : w19.cell? ⟨gb1194,4,none⟩ = some (.slice A1_4 l1_4.length c1_4) := (blk_cell BK1194.out 4).trans rfl;have hcz22_5 : w19.cell? ⟨gb1194,5,none⟩ = some (.bool a1_5) := (blk_cell BK1194.out 5).trans rfl;have hfz22_0 := blk_frozen BK1194.out 0;have hfz22_1 := blk_frozen BK1194.out 1;have hfz22_2 := blk_frozen BK1194.out 2;have hfz22_3 := blk_frozen BK1194.out 3;have hfz22_4 := blk_frozen BK1194.out 4;have hfz22_5 := blk_frozen BK1194.out 5))
        go_ret
        exact ⟨by first | rfl | (simp [errW_none,errW_some] <;> rfl) | (simp [*,errW_none,errW_some] <;> rfl),by repeat (first | (with_reducible first | exact HB.out | apply below_alloc | apply pw_below_drewN | apply below_drew1 | refine below_set ?_ GE1193.out | refine below_set ?_ GE1194.out) | exact HB.out)⟩
    · rw [if_neg c4] at H
      have c4b0 : (a0_1 == a1_1) = false := by simpa using c4
      (try (have c4b1 : decide (a0_1 = a1_1) = false := by simpa using c4))
      (try (have c4b2 : (a0_1 == a1_1) = false := by simpa using c4))
      (try (have c4b3 : ¬ (a0_1 = a1_1) := by simpa using c4))
      clear c4
      obtain rfl := Option.some.inj H
      go_enter Try.func81,Try.ntmps81
      go_wp2_with (first | ((with_reducible refine gate_dst (N := 2) rfl ?_);refine box_event ?hg (N := 2) ?hd (cs := #[.int .i64 a0_0,.bool a0_1,.int .i64 a0_2,.int .i64 a0_3,.slice A0_4 l0_4.length c0_4,.bool a0_5]) (t := 84) ?hr ?_;(case hd => rfl);(case hg => rfl);(case hr => first | (go_simp;done) | (go_simp;rfl));intro gb1193 hg w23 hbox hb;have n0_ := Aside0.mk (below_step (by repeat (first | (with_reducible first | exact HB.out | apply below_alloc | apply pw_below_drewN | apply below_drew1) | exact HB.out)) hb);have n1_ := Aside0.mk (hbox);have n2_ := Aside0.mk ((by rw [hg];exact (below_size (by repeat (first | (with_reducible first | exact HB.out | apply below_alloc | apply pw_below_drewN | apply below_drew1) | exact HB.out))) : w.heap.size ≤ gb1193));have n3_ := Aside0.mk ((by rw [hg];exact (below_size (by repeat (first | (with_reducible first | exact HB.out | apply below_alloc | apply pw_below_drewN | apply below_drew1) | exact HB.out))) : w.heap.size ≤ gb1193));clear HB;have HB := n0_;have BK1193 := n1_;have GW1193 := n2_;have GE1193 := n3_;clear n0_ n1_ n2_ n3_;clear hb hbox hg) | ((with_reducible refine gate_dst (N := 3) rfl ?_);refine box_event ?hg (N := 3) ?hd (cs := #[.int .i64 a1_0,.bool a1_1,.int .i64 a1_2,.int .i64 a1_3,.slice A1_4 l1_4.length c1_4,.bool a1_5]) (t := 84) ?hr ?_;(case hd => rfl);(case hg => rfl);(case hr => first | (go_simp;done) | (go_simp;rfl));intro gb1194 hg w24 hbox hb;have n0_ := Aside0.mk (blk_below (g := gb1193) (o := .cells #[.int .i64 a0_0,.bool a0_1,.int .i64 a0_2,.int .i64 a0_3,.slice A0_4 l0_4.length c0_4,.bool a0_5] 84 (0,0)) (by (with_reducible repeat (first | refine blk_drewN ?_ _ | refine blk_drew ?_ | refine blk_alloc ?_ _));exact BK1193.out) hb);have n1_ := Aside0.mk (below_step (by repeat (first | (with_reducible first | exact HB.out | apply below_alloc | apply pw_below_drewN | apply below_drew1 | refine below_set ?_ GE1193.out) | exact HB.out)) hb);have n2_ := Aside0.mk (hbox);have n3_ := Aside0.mk ((by rw [hg];exact (below_size (by repeat (first | (with_reducible first | exact HB.out | apply below_alloc | apply pw_below_drewN | apply below_drew1 | refine below_set ?_ GE1193.out) | exact HB.out))) : w.heap.size ≤ gb1194));have n4_ := Aside0.mk ((by rw [hg];exact (below_size (by repeat (first | (with_reducible first | exact HB.out | apply below_alloc | apply pw_below_drewN | apply below_drew1 | refine below_set ?_ GE1193.out) | exact HB.out))) : w.heap.size ≤ gb1194));have n5_ := Aside0.mk ((by rw [hg];exact Nat.ne_of_lt (blk_lt (g := gb1193) (o := .cells #[.int .i64 a0_0,.bool a0_1,.int .i64 a0_2,.int .i64 a0_3,.slice A0_4 l0_4.length c0_4,.bool a0_5] 84 (0,0)) (by (with_reducible repeat (first | refine blk_drewN ?_ _ | refine blk_drew ?_ | refine blk_alloc ?_ _));exact BK1193.out)) : gb1193 ≠ gb1194));have n6_ := Aside0.mk ((by rw [hg];exact Nat.ne_of_gt (blk_lt (g := gb1193) (o := .cells #[.int .i64 a0_0,.bool a0_1,.int .i64 a0_2,.int .i64 a0_3,.slice A0_4 l0_4.length c0_4,.bool a0_5] 84 (0,0)) (by (with_reducible repeat (first | refine blk_drewN ?_ _ | refine blk_drew ?_ | refine blk_alloc ?_ _));exact BK1193.out)) : gb1194 ≠ gb1193));clear BK1193;clear HB;have BK1193 := n0_;have HB := n1_;have BK1194 := n2_;have GW1194 := n3_;have GE1194 := n4_;have NB1193_1194 := n5_;have NB1194_1193 := n6_;clear n0_ n1_ n2_ n3_ n4_ n5_ n6_;clear hb hbox hg;have hnb25 := NB1193_1194.out;have hnc25 := NB1194_1193.out;have hcz26_0 : w24.cell? ⟨gb1193,0,none⟩ = some (.int .i64 a0_0) := (blk_cell BK1193.out 0).trans rfl;have hcz26_1 : w24.cell? ⟨gb1193,1,none⟩ = some (.bool a0_1) := (blk_cell BK1193.out 1).trans rfl;have hcz26_2 : w24.cell? ⟨gb1193,2,none⟩ = some (.int .i64 a0_2) := (blk_cell BK1193.out 2).trans rfl;have hcz26_3 : w24.cell? ⟨gb1193,3,none⟩ = some (.int .i64 a0_3) := (blk_cell BK1193.out 3).trans rfl;have hcz26_4 : w24.cell? ⟨gb1193,4,none⟩ = some (.slice A0_4 l0_4.length c0_4) := (blk_cell BK1193.out 4).trans rfl;have hcz26_5 : w24.cell? ⟨gb1193,5,none⟩ = some (.bool a0_5) := (blk_cell BK1193.out 5).trans rfl;have hfz26_0 := blk_frozen BK1193.out 0;have hfz26_1 := blk_frozen BK1193.out 1;have hfz26_2 := blk_frozen BK1193.out 2;have hfz26_3 := blk_frozen BK1193.out 3;have hfz26_4 := blk_frozen BK1193.out 4;have hfz26_5 := blk_frozen BK1193.out 5;have hcz27_0 : w24.cell? ⟨gb1194,0,none⟩ = some (.int .i64 a1_0) := (blk_cell BK1194.out 0).trans rfl;have hcz27_1 : w24.cell? ⟨gb1194,1,none⟩ = some (.bool a1_1) := (blk_cell BK1194.out 1).trans rfl;have hcz27_2 : w24.cell? ⟨gb1194,2,none⟩ = some (.int .i64 a1_2) := (blk_cell BK1194.out 2).trans rfl;have hcz27_3 : w24.cell? ⟨gb1194,3,none⟩ = some (.int .i64 a1_3) := (blk_cell BK1194.out 3).trans rfl;have hcz27_4 : w24.cell? ⟨gb1194,4,none⟩ = some (.slice A1_4 l1_4.length c1_4) := (blk_cell BK1194.out 4).trans rfl;have hcz27_5 : w24.cell? ⟨gb1194,5,none⟩ = some (.bool a1_5) := (blk_cell BK1194.out 5).trans rfl;have hfz27_0 := blk_frozen BK1194.out 0;have hfz27_1 := blk_frozen BK1194.out 1;have hfz27_2 := blk_frozen BK1194.out 2;have hfz27_3 := blk_frozen BK1194.out 3;have hfz27_4 := blk_frozen BK1194.out 4;have hfz27_5 := blk_frozen BK1194.out 5))
      go_ret
      exact ⟨by first | rfl | (simp [errW_none,errW_some] <;> rfl) | (simp [*,errW_none,errW_some] <;> rfl),by repeat (first | (with_reducible first | exact HB.out | apply below_alloc | apply pw_below_drewN | apply below_drew1 | refine below_set ?_ GE1193.out | refine below_set ?_ GE1194.out) | exact HB.out)⟩
  · rw [if_neg c3] at H
    have c3b0 : (a0_0 == a1_0) = false := beq_eq_false_iff_ne.mpr c3
    have c3b1 : (a0_0 != a1_0) = true := bne_iff_ne.mpr c3
    obtain rfl := Option.some.inj H
    go_enter Try.func81,Try.ntmps81
    go_wp2_with (first | ((with_reducible refine gate_dst (N := 2) rfl ?_);refine box_event ?hg (N := 2) ?hd (cs := #[.int .i64 a0_0,.bool a0_1,.int .i64 a0_2,.int .i64 a0_3,.slice A0_4 l0_4.length c0_4,.bool a0_5]) (t := 84) ?hr ?_;(case hd => rfl);(case hg => rfl);(case hr => first | (go_simp;done) | (go_simp;rfl));intro gb1193 hg w28 hbox hb;have n0_ := Aside0.mk (below_step (by repeat (first | (with_reducible first | exact HB.out | apply below_alloc | apply pw_below_drewN | apply below_drew1) | exact HB.out)) hb);have n1_ := Aside0.mk (hbox);have n2_ := Aside0.mk ((by rw [hg];exact (below_size (by repeat (first | (with_reducible first | exact HB.out | apply below_alloc | apply pw_below_drewN | apply below_drew1) | exact HB.out))) : w.heap.size ≤ gb1193));have n3_ := Aside0.mk ((by rw [hg];exact (below_size (by repeat (first | (with_reducible first | exact HB.out | apply below_alloc | apply pw_below_drewN | apply below_drew1) | exact HB.out))) : w.heap.size ≤ gb1193));clear HB;have HB := n0_;have BK1193 := n1_;have GW1193 := n2_;have GE1193 := n3_;clear n0_ n1_ n2_ n3_;clear hb hbox hg) | ((with_reducible refine gate_dst (N := 3) rfl ?_);refine box_event ?hg (N := 3) ?hd (cs := #[.int .i64 a1_0,.bool a1_1,.int .i64 a1_2,.int .i64 a1_3,.slice A1_4 l1_4.length c1_4,.bool a1_5]) (t := 84) ?hr ?_;(case hd => rfl);(case hg => rfl);(case hr => first | (go_simp;done) | (go_simp;rfl));intro gb1194 hg w29 hbox hb;have n0_ := Aside0.mk (blk_below (g := gb1193) (o := .cells #[.int .i64 a0_0,.bool a0_1,.int .i64 a0_2,.int .i64 a0_3,.slice A0_4 l0_4.length c0_4,.bool a0_5] 84 (0,0)) (by (with_reducible repeat (first | refine blk_drewN ?_ _ | refine blk_drew ?_ | refine blk_alloc ?_ _));exact BK1193.out) hb);have n1_ := Aside0.mk (below_step (by repeat (first | (with_reducible first | exact HB.out | apply below_alloc | apply pw_below_drewN | apply below_drew1 | refine below_set ?_ GE1193.out) | exact HB.out)) hb);have n2_ := Aside0.mk (hbox);have n3_ := Aside0.mk ((by rw [hg];exact (below_size (by repeat (first | (with_reducible first | exact HB.out | apply below_alloc | apply pw_below_drewN | apply below_drew1 | refine below_set ?_ GE1193.out) | exact HB.out))) : w.heap.size ≤ gb1194));have n4_ := Aside0.mk ((by rw [hg];exact (below_size (by repeat (first | (with_reducible first | exact HB.out | apply below_alloc | apply pw_below_drewN | apply below_drew1 | refine below_set ?_ GE1193.out) | exact HB.out))) : w.heap.size ≤ gb1194));have n5_ := Aside0.mk ((by rw [hg];exact Nat.ne_of_lt (blk_lt (g := gb1193) (o := .cells #[.int .i64 a0_0,.bool a0_1,.int .i64 a0_2,.int .i64 a0_3,.slice A0_4 l0_4.length c0_4,.bool a0_5] 84 (0,0)) (by (with_reducible repeat (first | refine blk_drewN ?_ _ | refine blk_drew ?_ | refine blk_alloc ?_ _));exact BK1193.out)) : gb1193 ≠ gb1194));have n6_ := Aside0.mk ((by rw [hg];exact Nat.ne_of_gt (blk_lt (g := gb1193) (o := .cells #[.int .i64 a0_0,.bool a0_1,.int .i64 a0_2,.int .i64 a0_3,.slice A0_4 l0_4.length c0_4,.bool a0_5] 84 (0,0)) (by (with_reducible repeat (first | refine blk_drewN ?_ _ | refine blk_drew ?_ | refine blk_alloc ?_ _));exact BK1193.out)) : gb1194 ≠ gb1193));clear BK1193;clear HB;have BK1193 := n0_;have HB := n1_;have BK1194 := n2_;have GW1194 := n3_;have GE1194 := n4_;have NB1193_1194 := n5_;have NB1194_1193 := n6_;clear n0_ n1_ n2_ n3_ n4_ n5_ n6_;clear hb hbox hg;have hnb30 := NB1193_1194.out;have hnc30 := NB1194_1193.out;have hcz31_0 : w29.cell? ⟨gb1193,0,none⟩ = some (.int .i64 a0_0) := (blk_cell BK1193.out 0).trans rfl;have hcz31_1 : w29.cell? ⟨gb1193,1,none⟩ = some (.bool a0_1) := (blk_cell BK1193.out 1).trans rfl;have hcz31_2 : w29.cell? ⟨gb1193,2,none⟩ = some (.int .i64 a0_2) := (blk_cell BK1193.out 2).trans rfl;have hcz31_3 : w29.cell? ⟨gb1193,3,none⟩ = some (.int .i64 a0_3) := (blk_cell BK1193.out 3).trans rfl;have hcz31_4 : w29.cell? ⟨gb1193,4,none⟩ = some (.slice A0_4 l0_4.length c0_4) := (blk_cell BK1193.out 4).trans rfl;have hcz31_5 : w29.cell? ⟨gb1193,5,none⟩ = some (.bool a0_5) := (blk_cell BK1193.out 5).trans rfl;have hfz31_0 := blk_frozen BK1193.out 0;have hfz31_1 := blk_frozen BK1193.out 1;have hfz31_2 := blk_frozen BK1193.out 2;have hfz31_3 := blk_frozen BK1193.out 3;have hfz31_4 := blk_frozen BK1193.out 4;have hfz31_5 := blk_frozen BK1193.out 5;have hcz32_0 : w29.cell? ⟨gb1194,0,none⟩ = some (.int .i64 a1_0) := (blk_cell BK1194.out 0).trans rfl;have hcz32_1 : w29.cell? ⟨gb1194,1,none⟩ = some (.bool a1_1) := (blk_cell BK1194.out 1).trans rfl;have hcz32_2 : w29.cell? ⟨gb1194,2,none⟩ = some (.int .i64 a1_2) := (blk_cell BK1194.out 2).trans rfl;have hcz32_3 : w29.cell? ⟨gb1194,3,none⟩ = some (.int .i64 a1_3) := (blk_cell BK1194.out 3).trans rfl;have hcz32_4 : w29.cell? ⟨gb1194,4,none⟩ = some (.slice A1_4 l1_4.length c1_4) := (blk_cell BK1194.out 4).trans rfl;have hcz32_5 : w29.cell? ⟨gb1194,5,none⟩ = some (.bool a1_5) := (blk_cell BK1194.out 5).trans rfl;have hfz32_0 := blk_frozen BK1194.out 0;have hfz32_1 := blk_frozen BK1194.out 1;have hfz32_2 := blk_frozen BK1194.out 2;have hfz32_3 := blk_frozen BK1194.out 3;have hfz32_4 := blk_frozen BK1194.out 4;have hfz32_5 := blk_frozen BK1194.out 5))
    go_ret
    exact ⟨by first | rfl | (simp [errW_none,errW_some] <;> rfl) | (simp [*,errW_none,errW_some] <;> rfl),by repeat (first | (with_reducible first | exact HB.out | apply below_alloc | apply pw_below_drewN | apply below_drew1 | refine below_set ?_ GE1193.out | refine below_set ?_ GE1194.out) | exact HB.out)⟩

end Go.Proofs.Ytkoiffkonjpoiaa.Q
namespace Go.Proofs.Ytkoiffkonjpoiaa.Q
open Go.RowKit Go.Proofs.YtkoiffkonjpoiaaW.PrintWords Go.Proofs.YtkoiffkonjpoiaaW.PrintLast Go.Proofs.YtkoiffkonjpoiaaW.PrintMore Go.Proofs.YtkoiffkonjpoiaaX
attribute [local go_sem] max2_int min2_int max_two min_two max_three min_three max_four min_four   -- for this text's walks alone
set_option linter.unusedVariables false
set_option linter.unusedSimpArgs false

set_option maxHeartbeats 2000000 in
set_option maxRecDepth 100000 in
theorem one_none (gl : Nat) (A1 : Option Addr) (c1 : Nat) (l1 : List S40) (i : Int) (w : World) (hb : w.heap[gl]? = some (.cells #[.slice A1 l1.length c1] 34 (0,0))) (hi : i < 0 ∨ (l1.length : Int) ≤ i) :
    Calls Try.prog 110 #[.int .i64 i,.pointer (some ⟨gl,0,none⟩)] w fun e w' => e = .returned (.agg #[.int .i64 0,.bool false,.int .i64 0,.int .i64 0,.slice none 0 0,.bool false]) ∧ Below w.heap.size w w' := by
  have hu84 := Try.underlying84
  have hcell : w.cell? ⟨gl,0,none⟩ = some (.slice A1 l1.length c1) := by simp [World.cell?,hb]
  have hlt : gl < w.heap.size := (Array.getElem?_eq_some_iff.1 hb).1
  have hcell' : ∀ o,(w.alloc o).cell? ⟨gl,0,none⟩ = some (.slice A1 l1.length c1) := fun o => by rw [World.cell?_alloc_past _ _ _ hlt];exact hcell
  clear hb
  by_cases h1 : i < 0
  · have hd : decide (i < 0) = true := decide_eq_true h1
    go_enter Try.func110,Try.ntmps110
    go_wp2
    exact bodyPost_ret (v := .agg #[.int .i64 0,.bool false,.int .i64 0,.int .i64 0,.slice none 0 0,.bool false]) (by simp [results,Try.results110,go_sem]) rfl ⟨rfl,(Below.refl _ _).alloc (Nat.le_refl _) _⟩
  · have hd : decide (i < 0) = false := decide_eq_false h1
    have h2 : (l1.length : Int) ≤ i := by omega
    have hd2 : decide ((l1.length : Int) ≤ i) = true := decide_eq_true h2
    clear hi
    go_enter Try.func110,Try.ntmps110
    go_wp2
    exact bodyPost_ret (v := .agg #[.int .i64 0,.bool false,.int .i64 0,.int .i64 0,.slice none 0 0,.bool false]) (by simp [results,Try.results110,go_sem]) rfl ⟨rfl,(Below.refl _ _).alloc (Nat.le_refl _) _⟩
set_option maxHeartbeats 2000000 in
set_option maxRecDepth 100000 in
theorem one_some (gl : Nat) (A1 : Option Addr) (c1 : Nat) (l1 : List S40) (i : Nat) (p : S40) (w : World) (hr : Kd.C k40 w A1 l1.length l1) (hb : w.heap[gl]? = some (.cells #[.slice A1 l1.length c1] 34 (0,0))) (hp : l1[i]? = some p) :
    Calls Try.prog 110 #[.int .i64 i,.pointer (some ⟨gl,0,none⟩)] w fun e w' => e = .returned (.agg #[.int .i64 0,.bool true,.int .i64 p.f0,.int .i64 p.f1,.slice none 0 0,.bool false]) ∧ Below w.heap.size w w' := by
  have hu84 := Try.underlying84
  have hcell : w.cell? ⟨gl,0,none⟩ = some (.slice A1 l1.length c1) := by simp [World.cell?,hb]
  have hlt : gl < w.heap.size := (Array.getElem?_eq_some_iff.1 hb).1
  have hcell' : ∀ o,(w.alloc o).cell? ⟨gl,0,none⟩ = some (.slice A1 l1.length c1) := fun o => by rw [World.cell?_alloc_past _ _ _ hlt];exact hcell
  have hil : i < l1.length := (List.getElem?_eq_some_iff.1 hp).1
  have hml := C_len hr
  obtain ⟨b,o,rfl,hx0,hx1⟩ := at40 hr (Below.refl _ _) i p hp
  have hblt : b < w.heap.size := World.block_lt_of_cell? w _ hx0
  have hy0 : ∀ ob,(w.alloc ob).cell? ⟨b,o + i * 2,none⟩ = some (.int .i64 p.f0) := fun ob => by rw [World.cell?_alloc_past _ _ _ hblt];exact hx0
  have hy1 : ∀ ob,(w.alloc ob).cell? ⟨b,o + i * 2 + 1,none⟩ = some (.int .i64 p.f1) := fun ob => by rw [World.cell?_alloc_past _ _ _ hblt];exact hx1
  have h1 : ¬ ((i : Int) < 0) := by omega
  have hd : decide ((i : Int) < 0) = false := decide_eq_false h1
  have hd2 : decide ((l1.length : Int) ≤ (i : Int)) = false := decide_eq_false (by omega)
  have hd3 : decide (l1.length ≤ i) = false := decide_eq_false (by omega)
  clear hb hp hr
  generalize p.f0 = pa at *
  generalize p.f1 = pb at *
  go_enter Try.func110,Try.ntmps110
  go_wp2
  have g0 := hcell' (.cells #[.int .i64 0,.bool false,.int .i64 0,.int .i64 0,.slice none 0 0,.bool false] 84)
  have x0 := hy0 (.cells #[.int .i64 0,.bool false,.int .i64 0,.int .i64 0,.slice none 0 0,.bool false] 84)
  have x1 := hy1 (.cells #[.int .i64 0,.bool false,.int .i64 0,.int .i64 0,.slice none 0 0,.bool false] 84)
  have n0 : (w.alloc (.cells #[.int .i64 0,.bool false,.int .i64 0,.int .i64 0,.slice none 0 0,.bool false] 84)).cell? ⟨w.heap.size,0,none⟩ = some (.int .i64 0) := by rw [World.cell?_alloc_at _ _ _ _ rfl];rfl
  have f0 : (w.alloc (.cells #[.int .i64 0,.bool false,.int .i64 0,.int .i64 0,.slice none 0 0,.bool false] 84)).frozen? ⟨w.heap.size,0,none⟩ = false := World.frozen?_alloc_at _ _ _ _ rfl
  have n1 : (w.alloc (.cells #[.int .i64 0,.bool false,.int .i64 0,.int .i64 0,.slice none 0 0,.bool false] 84)).cell? ⟨w.heap.size,1,none⟩ = some (.bool false) := by rw [World.cell?_alloc_at _ _ _ _ rfl];rfl
  have f1 : (w.alloc (.cells #[.int .i64 0,.bool false,.int .i64 0,.int .i64 0,.slice none 0 0,.bool false] 84)).frozen? ⟨w.heap.size,1,none⟩ = false := World.frozen?_alloc_at _ _ _ _ rfl
  have n2 : (w.alloc (.cells #[.int .i64 0,.bool false,.int .i64 0,.int .i64 0,.slice none 0 0,.bool false] 84)).cell? ⟨w.heap.size,2,none⟩ = some (.int .i64 0) := by rw [World.cell?_alloc_at _ _ _ _ rfl];rfl
  have f2 : (w.alloc (.cells #[.int .i64 0,.bool false,.int .i64 0,.int .i64 0,.slice none 0 0,.bool false] 84)).frozen? ⟨w.heap.size,2,none⟩ = false := World.frozen?_alloc_at _ _ _ _ rfl
  have n3 : (w.alloc (.cells #[.int .i64 0,.bool false,.int .i64 0,.int .i64 0,.slice none 0 0,.bool false] 84)).cell? ⟨w.heap.size,3,none⟩ = some (.int .i64 0) := by rw [World.cell?_alloc_at _ _ _ _ rfl];rfl
  have f3 : (w.alloc (.cells #[.int .i64 0,.bool false,.int .i64 0,.int .i64 0,.slice none 0 0,.bool false] 84)).frozen? ⟨w.heap.size,3,none⟩ = false := World.frozen?_alloc_at _ _ _ _ rfl
  have n4 : (w.alloc (.cells #[.int .i64 0,.bool false,.int .i64 0,.int .i64 0,.slice none 0 0,.bool false] 84)).cell? ⟨w.heap.size,4,none⟩ = some (.slice none 0 0) := by rw [World.cell?_alloc_at _ _ _ _ rfl];rfl
  have f4 : (w.alloc (.cells #[.int .i64 0,.bool false,.int .i64 0,.int .i64 0,.slice none 0 0,.bool false] 84)).frozen? ⟨w.heap.size,4,none⟩ = false := World.frozen?_alloc_at _ _ _ _ rfl
  have n5 : (w.alloc (.cells #[.int .i64 0,.bool false,.int .i64 0,.int .i64 0,.slice none 0 0,.bool false] 84)).cell? ⟨w.heap.size,5,none⟩ = some (.bool false) := by rw [World.cell?_alloc_at _ _ _ _ rfl];rfl
  have f5 : (w.alloc (.cells #[.int .i64 0,.bool false,.int .i64 0,.int .i64 0,.slice none 0 0,.bool false] 84)).frozen? ⟨w.heap.size,5,none⟩ = false := World.frozen?_alloc_at _ _ _ _ rfl
  have HB : Below w.heap.size w (w.alloc (.cells #[.int .i64 0,.bool false,.int .i64 0,.int .i64 0,.slice none 0 0,.bool false] 84)) := (Below.refl _ _).alloc (Nat.le_refl _) _
  clear hcell hcell' hx0 hx1 hy0 hy1
  refine wp_region_still_tail 11 (by kernel_rfl) (by kernel_rfl) ?_
  change wpStill _ _ (World.drew (w.alloc (.cells #[.int .i64 0,.bool false,.int .i64 0,.int .i64 0,.slice none 0 0,.bool false] 84))) (fun a' => wpList _ _ _ _ a' (World.drew (w.alloc (.cells #[.int .i64 0,.bool false,.int .i64 0,.int .i64 0,.slice none 0 0,.bool false] 84)))) _ _
  change World.cell? (World.drew (w.alloc (.cells #[.int .i64 0,.bool false,.int .i64 0,.int .i64 0,.slice none 0 0,.bool false] 84))) _ = _ at g0 x0 x1 n0 n1 n2 n3 n4 n5
  change World.frozen? (World.drew (w.alloc (.cells #[.int .i64 0,.bool false,.int .i64 0,.int .i64 0,.slice none 0 0,.bool false] 84))) _ = _ at f0 f1 f2 f3 f4 f5
  replace HB : Below w.heap.size w (World.drew (w.alloc (.cells #[.int .i64 0,.bool false,.int .i64 0,.int .i64 0,.slice none 0 0,.bool false] 84))) := below_drew1 HB
  generalize World.drew (w.alloc (.cells #[.int .i64 0,.bool false,.int .i64 0,.int .i64 0,.slice none 0 0,.bool false] 84)) = W at *
  simp only [List.take_succ_cons,List.take_zero,List.drop_succ_cons,List.drop_zero]
  repeat still_step
  refine wpStill_nil ?_
  go_wp2
  exact bodyPost_ret (v := .agg #[.int .i64 0,.bool true,.int .i64 pa,.int .i64 pb,.slice none 0 0,.bool false]) (by simp [results,Try.results110,go_sem,n0,n1,n2,n3,n4,n5]) rfl ⟨rfl,(((((HB.setCell (Nat.le_refl _) _).setCell (Nat.le_refl _) _).setCell (Nat.le_refl _) _).setCell (Nat.le_refl _) _).setCell (Nat.le_refl _) _).setCell (Nat.le_refl _) _⟩

/-- Element i, as an answer: whether it is there, its key, its value. -/
def oneR (l : List S40) (i : Int) : Bool × Int × Int := if 0 ≤ i then match l[i.toNat]? with
  | some p => (true,p.f0,p.f1)
  | none => (false,0,0) else (false,0,0)
theorem one_any (gl : Nat) (A1 : Option Addr) (c1 : Nat) (l1 : List S40) (i : Int) (w : World) (hr : Kd.C k40 w A1 l1.length l1) (hb : w.heap[gl]? = some (.cells #[.slice A1 l1.length c1] 34 (0,0))) :
    Calls Try.prog 110 #[.int .i64 i,.pointer (some ⟨gl,0,none⟩)] w fun e w' => e = .returned (.agg #[.int .i64 0,.bool (oneR l1 i).1,.int .i64 (oneR l1 i).2.1,.int .i64 (oneR l1 i).2.2,.slice none 0 0,.bool false]) ∧ Below w.heap.size w w' := by
  by_cases h0 : 0 ≤ i
  · obtain ⟨n,rfl⟩ := Int.eq_ofNat_of_zero_le h0
    cases hp : l1[n]? with
    | none =>
      have e : oneR l1 n = (false,0,0) := by simp [oneR,hp]
      rw [e]
      exact one_none gl A1 c1 l1 n w hb (.inr (by have := List.getElem?_eq_none_iff.1 hp;omega))
    | some p =>
      have e : oneR l1 n = (true,p.f0,p.f1) := by simp [oneR,hp]
      rw [e]
      exact one_some gl A1 c1 l1 n p w hr hb hp
  · have e : oneR l1 i = (false,0,0) := by simp [oneR,h0]
    rw [e]
    exact one_none gl A1 c1 l1 i w hb (.inl (by omega))
theorem bcell {W w1 : World} (hb : Below W.heap.size W w1) : (∀ b o,b < W.heap.size → w1.cell? ⟨b,o,none⟩ = W.cell? ⟨b,o,none⟩) ∧ (∀ b o,b < W.heap.size → w1.frozen? ⟨b,o,none⟩ = W.frozen? ⟨b,o,none⟩) :=
  ⟨fun b o h => hb.cell (p := ⟨b,o,none⟩) h,fun b o h => hb.frozen (p := ⟨b,o,none⟩) h⟩
set_option maxHeartbeats 4000000 in
set_option maxRecDepth 100000 in
theorem of_last (k key upto v : Int) (A1 : Option Addr) (c1 : Nat) (l1 : List S40) (w : World) (hr : Kd.C k40 w A1 l1.length l1) (hl : l1.length < 8796093022208) (hk : k = 4 ∨ k = 7) :
    Calls Try.prog 72 #[.agg #[.int .u8 k,.int .i64 key,.int .i64 upto,.int .i64 v],.slice A1 l1.length c1] w fun e w' => e = .returned (.agg #[.int .i64 0,.bool (oneR l1 ((l1.length : Int) - 1)).1,.int .i64 (oneR l1 ((l1.length : Int) - 1)).2.1,.int .i64 (oneR l1 ((l1.length : Int) - 1)).2.2,.slice none 0 0,.bool false]) ∧ Below w.heap.size w w' := by
  have hu84 := Try.underlying84
  have hu78 := Try.underlying78
  have HB1 : Below w.heap.size w (((w.alloc (.cells #[.int .u8 k,.int .i64 key,.int .i64 upto,.int .i64 v] 78)).alloc (.cells #[.slice A1 l1.length c1] 34)).alloc (.cells #[.int .i64 0,.bool false,.int .i64 0,.int .i64 0,.slice none 0 0,.bool false] 84)) := (((Below.refl _ _).alloc (Nat.le_refl _) _).alloc (by simp) _).alloc (by simp;omega) _
  have hc := one_any (w.heap.size + 1) A1 c1 l1 ((l1.length : Int) - 1) _ (Kd.C_below hr HB1) (by
    have h := heap_alloc_new (w.alloc (.cells #[.int .u8 k,.int .i64 key,.int .i64 upto,.int .i64 v] 78)) (.cells #[.slice A1 l1.length c1] 34)
    rw [show (w.alloc (.cells #[.int .u8 k,.int .i64 key,.int .i64 upto,.int .i64 v] 78)).heap.size = w.heap.size + 1 by simp] at h
    exact blk_alloc h _)
  clear hr
  generalize oneR l1 ((l1.length : Int) - 1) = q at hc ⊢
  obtain ⟨qb,qk,qv⟩ := q
  dsimp only at hc ⊢
  have HC := Lib.hid hc
  have HB2 := Lib.hid HB1
  clear hc HB1
  rcases hk with rfl | rfl
  all_goals
    go_enter Try.func72,Try.ntmps72
    go_wp2_with (go_at_call 110;refine HC.out.mono ?_;rintro e w' ⟨rfl,hb⟩;have hcf := bcell hb;obtain ⟨hcc,hff⟩ := hcf;have hz : w.heap.size + 2 < w'.heap.size := by have := hb.size;simp at this;omega)
    exact bodyPost_ret (v := .agg #[.int .i64 0,.bool qb,.int .i64 qk,.int .i64 qv,.slice none 0 0,.bool false]) (by simp [results,Try.results72,go_sem,hcc,hff,hz]) rfl ⟨rfl,(((((((below_then HB2.out HB2.out.size hb).setCell (p := ⟨w.heap.size + 2,_,none⟩) (by simp) _).setCell (p := ⟨w.heap.size + 2,_,none⟩) (by simp) _).setCell (p := ⟨w.heap.size + 2,_,none⟩) (by simp) _).setCell (p := ⟨w.heap.size + 2,_,none⟩) (by simp) _).setCell (p := ⟨w.heap.size + 2,_,none⟩) (by simp) _).setCell (p := ⟨w.heap.size + 2,_,none⟩) (by simp) _)⟩
set_option maxHeartbeats 4000000 in
set_option maxRecDepth 100000 in
theorem of_first (k key upto v : Int) (A1 : Option Addr) (c1 : Nat) (l1 : List S40) (w : World) (hr : Kd.C k40 w A1 l1.length l1) (hl : l1.length < 8796093022208) (hk : k = 5 ∨ k = 6) :
    Calls Try.prog 72 #[.agg #[.int .u8 k,.int .i64 key,.int .i64 upto,.int .i64 v],.slice A1 l1.length c1] w fun e w' => e = .returned (.agg #[.int .i64 0,.bool (oneR l1 (0 : Int)).1,.int .i64 (oneR l1 (0 : Int)).2.1,.int .i64 (oneR l1 (0 : Int)).2.2,.slice none 0 0,.bool false]) ∧ Below w.heap.size w w' := by
  have hu84 := Try.underlying84
  have hu78 := Try.underlying78
  have HB1 : Below w.heap.size w (((w.alloc (.cells #[.int .u8 k,.int .i64 key,.int .i64 upto,.int .i64 v] 78)).alloc (.cells #[.slice A1 l1.length c1] 34)).alloc (.cells #[.int .i64 0,.bool false,.int .i64 0,.int .i64 0,.slice none 0 0,.bool false] 84)) := (((Below.refl _ _).alloc (Nat.le_refl _) _).alloc (by simp) _).alloc (by simp;omega) _
  have hc := one_any (w.heap.size + 1) A1 c1 l1 (0 : Int) _ (Kd.C_below hr HB1) (by
    have h := heap_alloc_new (w.alloc (.cells #[.int .u8 k,.int .i64 key,.int .i64 upto,.int .i64 v] 78)) (.cells #[.slice A1 l1.length c1] 34)
    rw [show (w.alloc (.cells #[.int .u8 k,.int .i64 key,.int .i64 upto,.int .i64 v] 78)).heap.size = w.heap.size + 1 by simp] at h
    exact blk_alloc h _)
  clear hr
  generalize oneR l1 (0 : Int) = q at hc ⊢
  obtain ⟨qb,qk,qv⟩ := q
  dsimp only at hc ⊢
  have HC := Lib.hid hc
  have HB2 := Lib.hid HB1
  clear hc HB1
  rcases hk with rfl | rfl
  all_goals
    go_enter Try.func72,Try.ntmps72
    go_wp2_with (go_at_call 110;refine HC.out.mono ?_;rintro e w' ⟨rfl,hb⟩;have hcf := bcell hb;obtain ⟨hcc,hff⟩ := hcf;have hz : w.heap.size + 2 < w'.heap.size := by have := hb.size;simp at this;omega)
    exact bodyPost_ret (v := .agg #[.int .i64 0,.bool qb,.int .i64 qk,.int .i64 qv,.slice none 0 0,.bool false]) (by simp [results,Try.results72,go_sem,hcc,hff,hz]) rfl ⟨rfl,(((((((below_then HB2.out HB2.out.size hb).setCell (p := ⟨w.heap.size + 2,_,none⟩) (by simp) _).setCell (p := ⟨w.heap.size + 2,_,none⟩) (by simp) _).setCell (p := ⟨w.heap.size + 2,_,none⟩) (by simp) _).setCell (p := ⟨w.heap.size + 2,_,none⟩) (by simp) _).setCell (p := ⟨w.heap.size + 2,_,none⟩) (by simp) _).setCell (p := ⟨w.heap.size + 2,_,none⟩) (by simp) _)⟩
set_option maxHeartbeats 4000000 in
set_option maxRecDepth 100000 in
theorem of_at (k key upto v : Int) (A1 : Option Addr) (c1 : Nat) (l1 : List S40) (w : World) (hr : Kd.C k40 w A1 l1.length l1) (hl : l1.length < 8796093022208) (hk : k = 9) (h0 : 0 ≤ key) (h1 : key < (l1.length : Int)) :
    Calls Try.prog 72 #[.agg #[.int .u8 k,.int .i64 key,.int .i64 upto,.int .i64 v],.slice A1 l1.length c1] w fun e w' => e = .returned (.agg #[.int .i64 0,.bool (oneR l1 key).1,.int .i64 (oneR l1 key).2.1,.int .i64 (oneR l1 key).2.2,.slice none 0 0,.bool false]) ∧ Below w.heap.size w w' := by
  have hu84 := Try.underlying84
  have hu78 := Try.underlying78
  have HB1 : Below w.heap.size w (((w.alloc (.cells #[.int .u8 k,.int .i64 key,.int .i64 upto,.int .i64 v] 78)).alloc (.cells #[.slice A1 l1.length c1] 34)).alloc (.cells #[.int .i64 0,.bool false,.int .i64 0,.int .i64 0,.slice none 0 0,.bool false] 84)) := (((Below.refl _ _).alloc (Nat.le_refl _) _).alloc (by simp) _).alloc (by simp;omega) _
  have hc := one_any (w.heap.size + 1) A1 c1 l1 key _ (Kd.C_below hr HB1) (by
    have h := heap_alloc_new (w.alloc (.cells #[.int .u8 k,.int .i64 key,.int .i64 upto,.int .i64 v] 78)) (.cells #[.slice A1 l1.length c1] 34)
    rw [show (w.alloc (.cells #[.int .u8 k,.int .i64 key,.int .i64 upto,.int .i64 v] 78)).heap.size = w.heap.size + 1 by simp] at h
    exact blk_alloc h _)
  clear hr
  generalize oneR l1 key = q at hc ⊢
  obtain ⟨qb,qk,qv⟩ := q
  dsimp only at hc ⊢
  have HC := Lib.hid hc
  have HB2 := Lib.hid HB1
  clear hc HB1
  have hd1 : decide (key < 0) = false := decide_eq_false (by omega)
  have hd2 : decide ((l1.length : Int) ≤ key) = false := decide_eq_false (by omega)
  subst hk
  all_goals
    go_enter Try.func72,Try.ntmps72
    go_wp2_with (go_at_call 110;refine HC.out.mono ?_;rintro e w' ⟨rfl,hb⟩;have hcf := bcell hb;obtain ⟨hcc,hff⟩ := hcf;have hz : w.heap.size + 2 < w'.heap.size := by have := hb.size;simp at this;omega)
    exact bodyPost_ret (v := .agg #[.int .i64 0,.bool qb,.int .i64 qk,.int .i64 qv,.slice none 0 0,.bool false]) (by simp [results,Try.results72,go_sem,hcc,hff,hz]) rfl ⟨rfl,(((((((below_then HB2.out HB2.out.size hb).setCell (p := ⟨w.heap.size + 2,_,none⟩) (by simp) _).setCell (p := ⟨w.heap.size + 2,_,none⟩) (by simp) _).setCell (p := ⟨w.heap.size + 2,_,none⟩) (by simp) _).setCell (p := ⟨w.heap.size + 2,_,none⟩) (by simp) _).setCell (p := ⟨w.heap.size + 2,_,none⟩) (by simp) _).setCell (p := ⟨w.heap.size + 2,_,none⟩) (by simp) _)⟩
set_option maxHeartbeats 4000000 in
set_option maxRecDepth 100000 in
theorem of_out (k key upto v : Int) (A1 : Option Addr) (c1 : Nat) (l1 : List S40) (w : World) (hl : l1.length < 8796093022208) (hk : k = 9) (h0 : key < 0 ∨ (l1.length : Int) ≤ key) :
    Calls Try.prog 72 #[.agg #[.int .u8 k,.int .i64 key,.int .i64 upto,.int .i64 v],.slice A1 l1.length c1] w fun e w' => e = .returned (.agg #[.int .i64 0,.bool false,.int .i64 0,.int .i64 0,.slice none 0 0,.bool false]) ∧ Below w.heap.size w w' := by
  have hu84 := Try.underlying84
  have hu78 := Try.underlying78
  subst hk
  by_cases hneg : key < 0
  · have hd1 : decide (key < 0) = true := decide_eq_true hneg
    clear h0
    go_enter Try.func72,Try.ntmps72
    go_wp2
    exact bodyPost_ret (v := .agg #[.int .i64 0,.bool false,.int .i64 0,.int .i64 0,.slice none 0 0,.bool false]) (by simp [results,Try.results72,go_sem]) rfl ⟨rfl,(((Below.refl _ _).alloc (Nat.le_refl _) _).alloc (by simp) _).alloc (by simp;omega) _⟩
  have hge : (l1.length : Int) ≤ key := by omega
  have hd1 : decide (key < 0) = false := decide_eq_false hneg
  have hd2 : decide ((l1.length : Int) ≤ key) = true := decide_eq_true hge
  clear h0
  all_goals
    go_enter Try.func72,Try.ntmps72
    go_wp2
    exact bodyPost_ret (v := .agg #[.int .i64 0,.bool false,.int .i64 0,.int .i64 0,.slice none 0 0,.bool false]) (by simp [results,Try.results72,go_sem]) rfl ⟨rfl,(((Below.refl _ _).alloc (Nat.le_refl _) _).alloc (by simp) _).alloc (by simp;omega) _⟩
set_option maxHeartbeats 4000000 in
set_option maxRecDepth 100000 in
theorem of_count (k key upto v : Int) (A1 : Option Addr) (c1 : Nat) (l1 : List S40) (w : World) (hl : l1.length < 8796093022208) (hk : k = 8 ∨ k = 10) :
    Calls Try.prog 72 #[.agg #[.int .u8 k,.int .i64 key,.int .i64 upto,.int .i64 v],.slice A1 l1.length c1] w fun e w' => e = .returned (.agg #[.int .i64 0,.bool true,.int .i64 (l1.length : Int),.int .i64 0,.slice none 0 0,.bool false]) ∧ Below w.heap.size w w' := by
  have hu84 := Try.underlying84
  have hu78 := Try.underlying78
  rcases hk with rfl | rfl
  all_goals
    go_enter Try.func72,Try.ntmps72
    go_wp2
    exact bodyPost_ret (v := .agg #[.int .i64 0,.bool true,.int .i64 (l1.length : Int),.int .i64 0,.slice none 0 0,.bool false]) (by simp [results,Try.results72,go_sem]) rfl ⟨rfl,(((Below.refl _ _).alloc (Nat.le_refl _) _).alloc (by simp) _).alloc (by simp;omega) _⟩
set_option maxHeartbeats 4000000 in
set_option maxRecDepth 100000 in
theorem of_other (k key upto v : Int) (A1 : Option Addr) (c1 : Nat) (l1 : List S40) (w : World) (hl : l1.length < 8796093022208) (h4 : k ≠ 4) (h5 : k ≠ 5) (h6 : k ≠ 6) (h7 : k ≠ 7) (h8 : k ≠ 8) (h9 : k ≠ 9) (h10 : k ≠ 10) (h11 : k ≠ 11) :
    Calls Try.prog 72 #[.agg #[.int .u8 k,.int .i64 key,.int .i64 upto,.int .i64 v],.slice A1 l1.length c1] w fun e w' => e = .returned (.agg #[.int .i64 0,.bool false,.int .i64 0,.int .i64 0,.slice none 0 0,.bool false]) ∧ Below w.heap.size w w' := by
  have hu84 := Try.underlying84
  have hu78 := Try.underlying78
  have b4 : (k == 4) = false := beq_eq_false_iff_ne.2 h4
  have b5 : (k == 5) = false := beq_eq_false_iff_ne.2 h5
  have b6 : (k == 6) = false := beq_eq_false_iff_ne.2 h6
  have b7 : (k == 7) = false := beq_eq_false_iff_ne.2 h7
  have b8 : (k == 8) = false := beq_eq_false_iff_ne.2 h8
  have b9 : (k == 9) = false := beq_eq_false_iff_ne.2 h9
  have b10 : (k == 10) = false := beq_eq_false_iff_ne.2 h10
  have b11 : (k == 11) = false := beq_eq_false_iff_ne.2 h11
  skip
  all_goals
    go_enter Try.func72,Try.ntmps72
    go_wp2
    exact bodyPost_ret (v := .agg #[.int .i64 0,.bool false,.int .i64 0,.int .i64 0,.slice none 0 0,.bool false]) (by simp [results,Try.results72,go_sem]) rfl ⟨rfl,(((Below.refl _ _).alloc (Nat.le_refl _) _).alloc (by simp) _).alloc (by simp;omega) _⟩
set_option maxHeartbeats 4000000 in
set_option maxRecDepth 100000 in
theorem of_range (key upto v : Int) (A1 : Option Addr) (c1 : Nat) (l1 : List S40) (w : World) (hr : Kd.C k40 w A1 l1.length l1) (hc1 : l1.length ≤ c1) (hl : l1.length < 8796093022208) :
    Calls Try.prog 72 #[.agg #[.int .u8 11,.int .i64 key,.int .i64 upto,.int .i64 v],.slice A1 l1.length c1] w fun e w' => ∃ v4 : Value,e = .returned (.agg #[.int .i64 0,.bool true,.int .i64 (l1.length : Int),.int .i64 0,v4,.bool false]) ∧ Kd.R k40 40 w' w.heap.size (fun _ => True) v4 l1 ∧ Below w.heap.size w w' := by
  have hu84 := Try.underlying84
  have hu78 := Try.underlying78
  have HB1 : Below w.heap.size w (((w.alloc (.cells #[.int .u8 11,.int .i64 key,.int .i64 upto,.int .i64 v] 78)).alloc (.cells #[.slice A1 l1.length c1] 34)).alloc (.cells #[.int .i64 0,.bool false,.int .i64 0,.int .i64 0,.slice none 0 0,.bool false] 84)) := (((Below.refl _ _).alloc (Nat.le_refl _) _).alloc (by simp) _).alloc (by simp;omega) _
  have hrn : ∀ n,Kd.C k40 (World.drewN (((w.alloc (.cells #[.int .u8 11,.int .i64 key,.int .i64 upto,.int .i64 v] 78)).alloc (.cells #[.slice A1 l1.length c1] 34)).alloc (.cells #[.int .i64 0,.bool false,.int .i64 0,.int .i64 0,.slice none 0 0,.bool false] 84)) n) A1 l1.length l1 := fun n => Kd.C_below hr (pw_below_drewN HB1 n)
  have hcl : leaf_Pair_99.f l1 = some l1 := by unfold leaf_Pair_99.f;rw [if_pos hl]
  have HCL := Lib.hid hcl
  have HR := Lib.hid hr
  have HB2 := Lib.hid HB1
  clear hcl hr hrn HB1
  go_enter Try.func72,Try.ntmps72
  go_wp2
  go_region_with (go_at_call 99;refine (leaf_Pair_99.calls A1 c1 l1 l1 _ (Kd.C_below HR.out (below_drew1 HB2.out)) hc1 HCL.out).mono ?_;rintro e w' ⟨v0,rfl,hR,hb⟩;obtain ⟨Av,cv,rfl⟩ := Kd.R_slice hR;have hR0 := Lib.hid hR;clear hR;have hcf := bcell hb;obtain ⟨hcc,hff⟩ := hcf;have hz : w.heap.size + 2 < w'.heap.size := by have := hb.size;simp at this;omega)
  all_goals go_wp2
  all_goals
    have hn : ∀ k,(fun k => True ∧ w.heap.size + 3 ≤ k) k → k ≠ w.heap.size + 2 := fun k hk => by have := hk.2;omega
    have hR1 : Kd.R k40 40 w' w.heap.size (fun k => True ∧ w.heap.size + 3 ≤ k) (.slice Av l1.length cv) l1 := Kd.R_lower (Kd.R_mono (Kd.R_bound hR0.out) (fun k hk => ⟨trivial,by have := hk.2.1;simp at this;omega⟩)) (by simp;omega)
    exact bodyPost_ret (v := .agg #[.int .i64 0,.bool true,.int .i64 (l1.length : Int),.int .i64 0,.slice Av l1.length cv,.bool false]) (by simp [results,Try.results72,go_sem,hcc,hff,hz]) rfl ⟨_,rfl,Kd.R_mono (Kd.R_far (p := ⟨w.heap.size + 2,_,none⟩) (Kd.R_far (p := ⟨w.heap.size + 2,_,none⟩) (Kd.R_far (p := ⟨w.heap.size + 2,_,none⟩) (Kd.R_far (p := ⟨w.heap.size + 2,_,none⟩) (Kd.R_far (p := ⟨w.heap.size + 2,_,none⟩) (Kd.R_far (p := ⟨w.heap.size + 2,_,none⟩) hR1 hn _) hn _) hn _) hn _) hn _) hn _) (fun _ _ => trivial),(((((((below_then (below_drew1 HB2.out) (below_drew1 HB2.out).size hb).setCell (p := ⟨w.heap.size + 2,_,none⟩) (by simp) _).setCell (p := ⟨w.heap.size + 2,_,none⟩) (by simp) _).setCell (p := ⟨w.heap.size + 2,_,none⟩) (by simp) _).setCell (p := ⟨w.heap.size + 2,_,none⟩) (by simp) _).setCell (p := ⟨w.heap.size + 2,_,none⟩) (by simp) _).setCell (p := ⟨w.heap.size + 2,_,none⟩) (by simp) _)⟩
/-- What an operation answers, of the pairs that it looks at. -/
def ofR (k key : Int) (l : List S40) : Int × Bool × Int × Int × List S40 × Bool :=
  if k = 4 ∨ k = 7 then (0,(oneR l ((l.length : Int) - 1)).1,(oneR l ((l.length : Int) - 1)).2.1,(oneR l ((l.length : Int) - 1)).2.2,[],false)
  else if k = 5 ∨ k = 6 then (0,(oneR l 0).1,(oneR l 0).2.1,(oneR l 0).2.2,[],false)
  else if k = 9 then (0,(oneR l key).1,(oneR l key).2.1,(oneR l key).2.2,[],false)
  else if k = 8 ∨ k = 10 then (0,true,(l.length : Int),0,[],false)
  else if k = 11 then (0,true,(l.length : Int),0,l,false)
  else (0,false,0,0,[],false)
def model_Op_Of.f (a0_0 a0_1 a0_2 a0_3 : Int) (l1 : List S40) : Option (Int × Bool × Int × Int × (List S40) × Bool) := if l1.length < 8796093022208 then some (ofR a0_0 a0_1 l1) else none
theorem model_Op_Of.calls (a0_0 a0_1 a0_2 a0_3 : Int) (A1 : Option Addr) (c1 : Nat) (l1 : List S40) (r1 : Int) (r2 : Bool) (r3 : Int) (r4 : Int) (r5 : List S40) (r6 : Bool) (w : World) (hr1 : Kd.C k40 w A1 l1.length l1) (hc1 : l1.length ≤ c1) (h : model_Op_Of.f a0_0 a0_1 a0_2 a0_3 l1 = some (r1,r2,r3,r4,r5,r6)) :
    Calls Try.prog 72 #[.agg #[.int .u8 a0_0,.int .i64 a0_1,.int .i64 a0_2,.int .i64 a0_3],.slice A1 l1.length c1] w fun e w' => ∃ v4_ : Value,e = .returned (.agg #[.int .i64 r1,.bool r2,.int .i64 r3,.int .i64 r4,v4_,.bool r6]) ∧ Kd.R k40 40 w' w.heap.size (fun _ => True) v4_ r5 ∧ Below w.heap.size w w' := by
  unfold model_Op_Of.f at h
  split at h
  · rename_i hl
    have h := Option.some.inj h
    unfold ofR at h
    split at h
    · rename_i hk
      simp only [Prod.mk.injEq] at h
      obtain ⟨rfl,rfl,rfl,rfl,rfl,rfl⟩ := h
      exact (of_last a0_0 a0_1 a0_2 a0_3 A1 c1 l1 w hr1 hl hk).mono fun e w' he => ⟨_,he.1,Kd.R_nil _ _ _ _ _,he.2⟩
    · rename_i hk1
      split at h
      · rename_i hk
        simp only [Prod.mk.injEq] at h
        obtain ⟨rfl,rfl,rfl,rfl,rfl,rfl⟩ := h
        exact (of_first a0_0 a0_1 a0_2 a0_3 A1 c1 l1 w hr1 hl hk).mono fun e w' he => ⟨_,he.1,Kd.R_nil _ _ _ _ _,he.2⟩
      · rename_i hk2
        split at h
        · rename_i hk
          simp only [Prod.mk.injEq] at h
          obtain ⟨rfl,rfl,rfl,rfl,rfl,rfl⟩ := h
          by_cases hin : 0 ≤ a0_1 ∧ a0_1 < (l1.length : Int)
          · exact (of_at a0_0 a0_1 a0_2 a0_3 A1 c1 l1 w hr1 hl hk hin.1 hin.2).mono fun e w' he => ⟨_,he.1,Kd.R_nil _ _ _ _ _,he.2⟩
          · have e0 : oneR l1 a0_1 = (false,0,0) := by
              unfold oneR
              split
              · rw [List.getElem?_eq_none (by omega)]
              · rfl
            rw [e0]
            exact (of_out a0_0 a0_1 a0_2 a0_3 A1 c1 l1 w hl hk (by omega)).mono fun e w' he => ⟨_,he.1,Kd.R_nil _ _ _ _ _,he.2⟩
        · rename_i hk3
          split at h
          · rename_i hk
            simp only [Prod.mk.injEq] at h
            obtain ⟨rfl,rfl,rfl,rfl,rfl,rfl⟩ := h
            exact (of_count a0_0 a0_1 a0_2 a0_3 A1 c1 l1 w hl hk).mono fun e w' he => ⟨_,he.1,Kd.R_nil _ _ _ _ _,he.2⟩
          · rename_i hk4
            split at h
            · rename_i hk
              simp only [Prod.mk.injEq] at h
              obtain ⟨rfl,rfl,rfl,rfl,rfl,rfl⟩ := h
              subst hk
              exact of_range a0_1 a0_2 a0_3 A1 c1 l1 w hr1 hc1 hl
            · rename_i hk5
              simp only [Prod.mk.injEq] at h
              obtain ⟨rfl,rfl,rfl,rfl,rfl,rfl⟩ := h
              exact (of_other a0_0 a0_1 a0_2 a0_3 A1 c1 l1 w hl (by omega) (by omega) (by omega) (by omega) (by omega) (by omega) (by omega) hk5).mono fun e w' he => ⟨_,he.1,Kd.R_nil _ _ _ _ _,he.2⟩
  · cases h

end Go.Proofs.Ytkoiffkonjpoiaa.Q
namespace Go.Proofs.Ytkoiffkonjpoiaa.Q
open Go.RowKit Go.Proofs.YtkoiffkonjpoiaaW.PrintWords Go.Proofs.YtkoiffkonjpoiaaW.PrintLast Go.Proofs.YtkoiffkonjpoiaaW.PrintMore Go.Proofs.YtkoiffkonjpoiaaX
attribute [local go_sem] max2_int min2_int max_two min_two max_three min_three max_four min_four   -- for this text's walks alone
set_option linter.unusedVariables false
set_option linter.unusedSimpArgs false

def model_Apply.f (k : Nat) (l0 : List (S40)) (a1_0 : Int) (a1_1 : Int) (a1_2 : Int) (a1_3 : Int) : Option ((List (S40)) × Int × Bool × Int × Int × (List (S40)) × Bool) := (model_Op_Span.f k a1_0 a1_1 a1_2 a1_3).bind fun bt775 => (if bt775.2.2 = true then ((leaf_Pair_99.f l0).bind fun t778 => ((leaf_Leaf_Between.f k l0 bt775.1 bt775.2.1).bind fun t781 => ((model_Op_Of.f a1_0 a1_1 a1_2 a1_3 t781).bind fun bt784 => (some (t778,bt784.1,bt784.2.1,bt784.2.2.1,bt784.2.2.2.1,bt784.2.2.2.2.1,bt784.2.2.2.2.2))))) else (if a1_0 = 0 then ((leaf_Leaf_Get.f l0 a1_1).bind fun bt792 => ((leaf_Pair_99.f l0).bind fun t794 => (some (t794,0,bt792.2,0,bt792.1,([] : List (S40)),false)))) else (if a1_0 = 1 then ((leaf_Leaf_Put.f l0 a1_1 a1_3).bind fun bt797 => (some (bt797.1,0,bt797.2.2,0,bt797.2.1,([] : List (S40)),false))) else (if a1_0 = 2 then ((leaf_Leaf_Get.f l0 a1_1).bind fun bt802 => (if bt802.2 = true then ((leaf_Pair_99.f l0).bind fun t804 => (some (t804,0,true,0,bt802.1,([] : List (S40)),false))) else ((leaf_Leaf_Put.f l0 a1_1 a1_3).bind fun bt807 => (some (bt807.1,0,false,0,0,([] : List (S40)),false))))) else (if a1_0 = 3 then ((leaf_Leaf_Cut.f l0 a1_1).bind fun bt812 => (some (bt812.1,0,bt812.2.2,0,bt812.2.1,([] : List (S40)),false))) else ((leaf_Pair_99.f l0).bind fun t817 => (some (t817,10,false,0,0,([] : List (S40)),false))))))))
def model_Apply.T3 : Bool × List (List Nat × List Nat) := (true,[([],[]),([0],[0]),([],[]),([],[]),([],[]),([],[]),([3,4,5,1],[3,4,5]),([2,6,6],[2,6]),([1,7,0,1],[1]),([7,8,0,1,2,3,4,5,6,7,8],[7])])
def model_Apply.B3 : List Nat := [0,1,0,0,0,0,59,127,255,511]
theorem model_Apply.tab3 : rtab .any (opsOf Try.f74 3) = model_Apply.T3 := by kernel_rfl
theorem model_Apply.bits3 : waitsOk model_Apply.T3.2 model_Apply.B3 = true := by kernel_rfl
set_option maxHeartbeats 8000000 in
set_option maxRecDepth 100000 in
theorem model_Apply.calls (k : Nat) (A0 : Option Addr) (c0 : Nat) (l0 : List (S40)) (a1_0 : Int) (a1_1 : Int) (a1_2 : Int) (a1_3 : Int) (r1 : List (S40)) (r2 : Int) (r3 : Bool) (r4 : Int) (r5 : Int) (r6 : List (S40)) (r7 : Bool) (w : World) (hr0 : Kd.C k40 w A0 l0.length l0) (hc0 : l0.length ≤ c0) (h : model_Apply.f k l0 a1_0 a1_1 a1_2 a1_3 = some (r1,r2,r3,r4,r5,r6,r7)) :
    Calls Try.prog 74 #[.slice A0 l0.length c0,.agg #[.int .u8 a1_0,.int .i64 a1_1,.int .i64 a1_2,.int .i64 a1_3]] w fun e w' => ∃ v0_ v5_ : Value,e = .returned (.tuple #[v0_,.agg #[.int .i64 r2,.bool r3,.int .i64 r4,.int .i64 r5,v5_,.bool r7]]) ∧ Kd.R k40 40 w' w.heap.size (fun k_ => some k_ ≠ (v5_ : Value).ownBlock) v0_ r1 ∧ Kd.R k40 40 w' w.heap.size (fun k_ => some k_ ≠ (v0_ : Value).ownBlock) v5_ r6 ∧ Below w.heap.size w w' := by
  have hu78 := Try.underlying78
  have hu84 := Try.underlying84
  have HR0 := Aside0.mk hr0
  have HC0 := Aside0.mk hc0
  clear hr0 hc0
  have HB := Aside0.mk (Below.refl w.heap.size w)
  have H : ((model_Op_Span.f k a1_0 a1_1 a1_2 a1_3).bind fun bt775 => (if bt775.2.2 = true then ((leaf_Pair_99.f l0).bind fun t778 => ((leaf_Leaf_Between.f k l0 bt775.1 bt775.2.1).bind fun t781 => ((model_Op_Of.f a1_0 a1_1 a1_2 a1_3 t781).bind fun bt784 => (some (t778,bt784.1,bt784.2.1,bt784.2.2.1,bt784.2.2.2.1,bt784.2.2.2.2.1,bt784.2.2.2.2.2))))) else (if a1_0 = 0 then ((leaf_Leaf_Get.f l0 a1_1).bind fun bt792 => ((leaf_Pair_99.f l0).bind fun t794 => (some (t794,0,bt792.2,0,bt792.1,([] : List (S40)),false)))) else (if a1_0 = 1 then ((leaf_Leaf_Put.f l0 a1_1 a1_3).bind fun bt797 => (some (bt797.1,0,bt797.2.2,0,bt797.2.1,([] : List (S40)),false))) else (if a1_0 = 2 then ((leaf_Leaf_Get.f l0 a1_1).bind fun bt802 => (if bt802.2 = true then ((leaf_Pair_99.f l0).bind fun t804 => (some (t804,0,true,0,bt802.1,([] : List (S40)),false))) else ((leaf_Leaf_Put.f l0 a1_1 a1_3).bind fun bt807 => (some (bt807.1,0,false,0,0,([] : List (S40)),false))))) else (if a1_0 = 3 then ((leaf_Leaf_Cut.f l0 a1_1).bind fun bt812 => (some (bt812.1,0,bt812.2.2,0,bt812.2.1,([] : List (S40)),false))) else ((leaf_Pair_99.f l0).bind fun t817 => (some (t817,10,false,0,0,([] : List (S40)),false))))))))) = some (r1,r2,r3,r4,r5,r6,r7) := h
  clear h
  replace H := Option.bind_eq_some_iff.mp H
  obtain ⟨⟨t775,t776,t777⟩,A30,H⟩ := H
  replace H : (if t777 = true then ((leaf_Pair_99.f l0).bind fun t778 => ((leaf_Leaf_Between.f k l0 t775 t776).bind fun t781 => ((model_Op_Of.f a1_0 a1_1 a1_2 a1_3 t781).bind fun bt784 => (some (t778,bt784.1,bt784.2.1,bt784.2.2.1,bt784.2.2.2.1,bt784.2.2.2.2.1,bt784.2.2.2.2.2))))) else (if a1_0 = 0 then ((leaf_Leaf_Get.f l0 a1_1).bind fun bt792 => ((leaf_Pair_99.f l0).bind fun t794 => (some (t794,0,bt792.2,0,bt792.1,([] : List (S40)),false)))) else (if a1_0 = 1 then ((leaf_Leaf_Put.f l0 a1_1 a1_3).bind fun bt797 => (some (bt797.1,0,bt797.2.2,0,bt797.2.1,([] : List (S40)),false))) else (if a1_0 = 2 then ((leaf_Leaf_Get.f l0 a1_1).bind fun bt802 => (if bt802.2 = true then ((leaf_Pair_99.f l0).bind fun t804 => (some (t804,0,true,0,bt802.1,([] : List (S40)),false))) else ((leaf_Leaf_Put.f l0 a1_1 a1_3).bind fun bt807 => (some (bt807.1,0,false,0,0,([] : List (S40)),false))))) else (if a1_0 = 3 then ((leaf_Leaf_Cut.f l0 a1_1).bind fun bt812 => (some (bt812.1,0,bt812.2.2,0,bt812.2.1,([] : List (S40)),false))) else ((leaf_Pair_99.f l0).bind fun t817 => (some (t817,10,false,0,0,([] : List (S40)),false)))))))) = some (r1,r2,r3,r4,r5,r6,r7) := H
  have A3 := Aside0.mk A30
  clear A30
  by_cases c4 : t777 = true
  · subst c4
    have H1 : ((leaf_Pair_99.f l0).bind fun t778 => ((leaf_Leaf_Between.f k l0 t775 t776).bind fun t781 => ((model_Op_Of.f a1_0 a1_1 a1_2 a1_3 t781).bind fun bt784 => (some (t778,bt784.1,bt784.2.1,bt784.2.2.1,bt784.2.2.2.1,bt784.2.2.2.2.1,bt784.2.2.2.2.2))))) = some (r1,r2,r3,r4,r5,r6,r7) := by rw [if_pos rfl] at H;exact H
    clear H
    have H := H1
    clear H1
    replace H := Option.bind_eq_some_iff.mp H
    obtain ⟨t778,A50,H⟩ := H
    replace H : ((leaf_Leaf_Between.f k l0 t775 t776).bind fun t781 => ((model_Op_Of.f a1_0 a1_1 a1_2 a1_3 t781).bind fun bt784 => (some (t778,bt784.1,bt784.2.1,bt784.2.2.1,bt784.2.2.2.1,bt784.2.2.2.2.1,bt784.2.2.2.2.2)))) = some (r1,r2,r3,r4,r5,r6,r7) := H
    have A5 := Aside0.mk A50
    clear A50
    replace H := Option.bind_eq_some_iff.mp H
    obtain ⟨t781,A60,H⟩ := H
    replace H : ((model_Op_Of.f a1_0 a1_1 a1_2 a1_3 t781).bind fun bt784 => (some (t778,bt784.1,bt784.2.1,bt784.2.2.1,bt784.2.2.2.1,bt784.2.2.2.2.1,bt784.2.2.2.2.2))) = some (r1,r2,r3,r4,r5,r6,r7) := H
    have A6 := Aside0.mk A60
    clear A60
    replace H := Option.bind_eq_some_iff.mp H
    obtain ⟨⟨t784,t785,t786,t787,t788,t791⟩,A70,H⟩ := H
    replace H : (some (t778,t784,t785,t786,t787,t788,t791)) = some (r1,r2,r3,r4,r5,r6,r7) := H
    have A7 := Aside0.mk A70
    clear A70
    simp only [Option.some.injEq,Prod.mk.injEq] at H
    obtain ⟨rfl,rfl,rfl,rfl,rfl,rfl,rfl⟩ := H
    go_enter Try.func74,Try.ntmps74
    try go_wp2_with (first | ((with_reducible refine gate_dst (N := 3) rfl ?_);refine box_event ?hg (N := 3) ?hd (cs := #[.int .u8 a1_0,.int .i64 a1_1,.int .i64 a1_2,.int .i64 a1_3]) (t := 78) ?hr ?_;(case hd => rfl);(case hg => rfl);(case hr => first | (go_simp;done) | (go_simp;rfl));intro gb773 hg w8 hbox hb;have n0_ := Aside0.mk (below_step (by repeat (first | (with_reducible first | exact HB.out | apply below_alloc | apply pw_below_drewN | apply below_drew1) | exact HB.out)) hb);have n1_ := Aside0.mk (hbox);have n2_ := Aside0.mk ((by rw [hg];exact (below_size (by repeat (first | (with_reducible first | exact HB.out | apply below_alloc | apply pw_below_drewN | apply below_drew1) | exact HB.out))) : w.heap.size ≤ gb773));have n3_ := Aside0.mk ((by rw [hg];exact (below_size (by repeat (first | (with_reducible first | exact HB.out | apply below_alloc | apply pw_below_drewN | apply below_drew1) | exact HB.out))) : w.heap.size ≤ gb773));clear HB;have HB := n0_;have BK773 := n1_;have GW773 := n2_;have GE773 := n3_;clear n0_ n1_ n2_ n3_;clear hb hbox hg) | ((with_reducible refine gate_dst (N := 5) rfl ?_);refine box_event ?hg (N := 5) ?hd (cs := #[.int .i64 0,.bool false,.int .i64 0,.int .i64 0,.slice none 0 0,.bool false]) (t := 84) ?hr ?_;(case hd => rfl);(case hg => rfl);(case hr => first | (go_simp;done) | (go_simp;rfl));intro gb774 hg w9 hbox hb;have n0_ := Aside0.mk (blk_below (g := gb773) (o := .cells #[.int .u8 a1_0,.int .i64 a1_1,.int .i64 a1_2,.int .i64 a1_3] 78 (0,0)) (by (with_reducible repeat (first | refine blk_drewN ?_ _ | refine blk_drew ?_ | refine blk_alloc ?_ _));exact BK773.out) hb);have n1_ := Aside0.mk (below_step (by repeat (first | (with_reducible first | exact HB.out | apply below_alloc | apply pw_below_drewN | apply below_drew1 | refine below_set ?_ GE773.out) | exact HB.out)) hb);have n2_ := Aside0.mk (hbox);have n3_ := Aside0.mk ((by rw [hg];exact (below_size (by repeat (first | (with_reducible first | exact HB.out | apply below_alloc | apply pw_below_drewN | apply below_drew1 | refine below_set ?_ GE773.out) | exact HB.out))) : w.heap.size ≤ gb774));have n4_ := Aside0.mk ((by rw [hg];exact (below_size (by repeat (first | (with_reducible first | exact HB.out | apply below_alloc | apply pw_below_drewN | apply below_drew1 | refine below_set ?_ GE773.out) | exact HB.out))) : w.heap.size ≤ gb774));have n5_ := Aside0.mk ((by rw [hg];exact Nat.ne_of_lt (blk_lt (g := gb773) (o := .cells #[.int .u8 a1_0,.int .i64 a1_1,.int .i64 a1_2,.int .i64 a1_3] 78 (0,0)) (by (with_reducible repeat (first | refine blk_drewN ?_ _ | refine blk_drew ?_ | refine blk_alloc ?_ _));exact BK773.out)) : gb773 ≠ gb774));have n6_ := Aside0.mk ((by rw [hg];exact Nat.ne_of_gt (blk_lt (g := gb773) (o := .cells #[.int .u8 a1_0,.int .i64 a1_1,.int .i64 a1_2,.int .i64 a1_3] 78 (0,0)) (by (with_reducible repeat (first | refine blk_drewN ?_ _ | refine blk_drew ?_ | refine blk_alloc ?_ _));exact BK773.out)) : gb774 ≠ gb773));clear BK773;clear HB;have BK773 := n0_;have HB := n1_;have BK774 := n2_;have GW774 := n3_;have GE774 := n4_;have NB773_774 := n5_;have NB774_773 := n6_;clear n0_ n1_ n2_ n3_ n4_ n5_ n6_;clear hb hbox hg;have hnb10 := NB773_774.out;have hnc10 := NB774_773.out;have hcz11_0 : w9.cell? ⟨gb773,0,none⟩ = some (.int .u8 a1_0) := (blk_cell BK773.out 0).trans rfl;have hcz11_1 : w9.cell? ⟨gb773,1,none⟩ = some (.int .i64 a1_1) := (blk_cell BK773.out 1).trans rfl;have hcz11_2 : w9.cell? ⟨gb773,2,none⟩ = some (.int .i64 a1_2) := (blk_cell BK773.out 2).trans rfl;have hcz11_3 : w9.cell? ⟨gb773,3,none⟩ = some (.int .i64 a1_3) := (blk_cell BK773.out 3).trans rfl;have hfz11_0 := blk_frozen BK773.out 0;have hfz11_1 := blk_frozen BK773.out 1;have hfz11_2 := blk_frozen BK773.out 2;have hfz11_3 := blk_frozen BK773.out 3) | ((with_reducible refine gate_callee (f := 71) rfl ?_);refine goesL_ (some 24) rfl rfl Try.func71 (by kernel_rfl) rfl #[.agg #[.int .u8 a1_0,.int .i64 a1_1,.int .i64 a1_2,.int .i64 a1_3]] rfl (by (try simp only [List.map_toArray,List.map_cons,List.map_nil]);first | done | rfl | (simp only [List.length_drop,List.length_take];rfl)) ?_;(with_reducible refine (model_Op_Span.calls k a1_0 a1_1 a1_2 a1_3 t775 t776 true _ A3.out).mono ?_);rintro e w12 ⟨rfl,hb⟩;refine ⟨_,rfl,?_⟩;have n0_ := Aside0.mk (blk_below (g := gb773) (o := .cells #[.int .u8 a1_0,.int .i64 a1_1,.int .i64 a1_2,.int .i64 a1_3] 78 (0,0)) (by (with_reducible repeat (first | refine blk_drewN ?_ _ | refine blk_drew ?_ | refine blk_alloc ?_ _));exact BK773.out) hb);have n1_ := Aside0.mk (blk_below (g := gb774) (o := .cells #[.int .i64 0,.bool false,.int .i64 0,.int .i64 0,.slice none 0 0,.bool false] 84 (0,0)) (by (with_reducible repeat (first | refine blk_drewN ?_ _ | refine blk_drew ?_ | refine blk_alloc ?_ _));exact BK774.out) hb);have n2_ := Aside0.mk (below_step (by repeat (first | (with_reducible first | exact HB.out | apply below_alloc | apply pw_below_drewN | apply below_drew1 | refine below_set ?_ GE773.out | refine below_set ?_ GE774.out) | exact HB.out)) hb);clear BK773;clear BK774;clear HB;have BK773 := n0_;have BK774 := n1_;have HB := n2_;clear n0_ n1_ n2_;(try clear hb);(try clear hb2);(try clear hk);(try clear hi)))
    have n0_ := Aside0.mk (blk_drew BK773.out)
    have n1_ := Aside0.mk (blk_drew BK774.out)
    have n2_ := Aside0.mk (below_drew1 HB.out)
    clear BK773
    clear BK774
    clear HB
    have BK773 := n0_
    have BK774 := n1_
    have HB := n2_
    clear n0_ n1_ n2_
    refine start_ (n := 10) (S := fun w' => w'.cell? ⟨gb773,0,none⟩ = some (.int .u8 a1_0) ∧ w'.cell? ⟨gb773,1,none⟩ = some (.int .i64 a1_1) ∧ w'.cell? ⟨gb773,2,none⟩ = some (.int .i64 a1_2) ∧ w'.cell? ⟨gb773,3,none⟩ = some (.int .i64 a1_3)) (ds := []) #[false,false,false,false,false,false,false,false,false,false] (by kernel_rfl) rfl rfl ⟨(blk_cell BK773.out 0).trans rfl,(blk_cell BK773.out 1).trans rfl,(blk_cell BK773.out 2).trans rfl,(blk_cell BK773.out 3).trans rfl⟩ (fun hHeld => ?_);refine with_tabW model_Apply.tab3 model_Apply.bits3 (fun HT_ HW_ => ?_)
    generalize w12.drew = w13 at BK773 BK774 HB hHeld ⊢
    refine pure_ (i := 0) (N := some 29) (v := ?_) (a' := ?_) #[true,false,false,false,false,false,false,false,false,false] rfl rfl (any_of HT_.out (by kernel_rfl)) (fun _ _ _ h => h) (Or.inl ⟨by rfl,?_⟩) ?_ ?_
    rotate_left
    · intro w'
      go_simp
      with_reducible rfl
    rotate_left
    · simp only [Act.put,List.setIfInBounds_toArray,List.set_cons_zero,List.set_cons_succ,i64_w,i32_w]
      rfl
    refine pure_ (i := 3) (N := some 32) (v := ?_) (a' := ?_) #[true,false,false,true,false,false,false,false,false,false] rfl rfl (any_of HT_.out (by kernel_rfl)) (fun _ _ _ h => h) (Or.inl ⟨by rfl,?_⟩) ?_ ?_
    rotate_left
    · intro w'
      go_simp
      with_reducible rfl
    rotate_left
    · simp only [Act.put,List.setIfInBounds_toArray,List.set_cons_zero,List.set_cons_succ,i64_w,i32_w]
      rfl
    refine pure_ (i := 4) (N := some 33) (v := ?_) (a' := ?_) #[true,false,false,true,true,false,false,false,false,false] rfl rfl (any_of HT_.out (by kernel_rfl)) (fun _ _ _ h => h) (Or.inl ⟨by rfl,?_⟩) ?_ ?_
    rotate_left
    · intro w'
      go_simp
      with_reducible rfl
    rotate_left
    · simp only [Act.put,List.setIfInBounds_toArray,List.set_cons_zero,List.set_cons_succ,i64_w,i32_w]
      rfl
    refine pure_ (i := 5) (N := some 34) (v := ?_) (a' := ?_) #[true,false,false,true,true,true,false,false,false,false] rfl rfl (any_of HT_.out (by kernel_rfl)) (fun _ _ _ h => h) (Or.inl ⟨by rfl,?_⟩) ?_ ?_
    rotate_left
    · intro w'
      go_simp
      with_reducible rfl
    rotate_left
    · simp only [Act.put,List.setIfInBounds_toArray,List.set_cons_zero,List.set_cons_succ,i64_w,i32_w]
      rfl
    refine take_ (i := 2) (N := some 31) (v := ?_) (a' := ?_) #[true,false,true,true,true,true,false,false,false,false] rfl rfl (take_ofW HT_.out HW_.out (by kernel_rfl)) (fun _ _ _ h => h) (Or.inl ⟨by rfl,?_⟩) hHeld ?_ ?_
    rotate_left
    · rintro w' ⟨s0,s1,s2,s3⟩
      go_simp
      with_reducible rfl
    rotate_left
    · simp only [Act.put,List.setIfInBounds_toArray,List.set_cons_zero,List.set_cons_succ,i64_w,i32_w]
      rfl
    refine one_ (i := 1) (N := some 30) #[true,true,true,true,true,true,false,false,false,false] rfl rfl (one_of HT_.out (by kernel_rfl)) (by decide) (fun K hK => ?_)
    refine goes_ Try.func99 (by kernel_rfl) rfl #[.slice A0 l0.length c0] (by rfl) rfl rfl (by (try simp only [List.map_toArray,List.map_cons,List.map_nil]);first | done | rfl | (simp only [List.length_drop,List.length_take];rfl)) ?_
    with_reducible refine (leaf_Pair_99.calls _ _ l0 t778 _ ?side1 ?side2 A5.out).mono ?_
    (case side1 => repeat (first | exact (Kd.C_below HR0.out HB.out) | (with_reducible refine Kd.C_alloc ?_ _) | (with_reducible refine Kd.C_drewN ?_ _) | (with_reducible refine Kd.C_drew ?_)))
    (case side2 => exact HC0.out)
    rintro e w14 ⟨v779,rfl,ho0,hb⟩
    refine ⟨_,rfl,?_⟩
    have n0_ := Aside0.mk (Kd.R_lower ho0 (below_size (by repeat (first | (with_reducible first | exact HB.out | apply below_alloc | apply pw_below_drewN | apply below_drew1 | refine below_set ?_ GE773.out | refine below_set ?_ GE774.out) | exact HB.out))))
    have n1_ := Aside0.mk (blk_below (g := gb773) (o := .cells #[.int .u8 a1_0,.int .i64 a1_1,.int .i64 a1_2,.int .i64 a1_3] 78 (0,0)) (by (with_reducible repeat (first | refine blk_drewN ?_ _ | refine blk_drew ?_ | refine blk_alloc ?_ _));exact BK773.out) hb)
    have n2_ := Aside0.mk (blk_below (g := gb774) (o := .cells #[.int .i64 0,.bool false,.int .i64 0,.int .i64 0,.slice none 0 0,.bool false] 84 (0,0)) (by (with_reducible repeat (first | refine blk_drewN ?_ _ | refine blk_drew ?_ | refine blk_alloc ?_ _));exact BK774.out) hb)
    have n3_ := Aside0.mk (below_step (by repeat (first | (with_reducible first | exact HB.out | apply below_alloc | apply pw_below_drewN | apply below_drew1 | refine below_set ?_ GE773.out | refine below_set ?_ GE774.out) | exact HB.out)) hb)
    clear BK773
    clear BK774
    clear HB
    have HO780 := n0_
    have BK773 := n1_
    have BK774 := n2_
    have HB := n3_
    clear n0_ n1_ n2_ n3_
    (try clear hb)
    (try clear hb2)
    (try clear hk)
    (try clear hi)
    (try clear ho0)
    refine hK.out _ _ ⟨(blk_cell BK773.out 0).trans rfl,(blk_cell BK773.out 1).trans rfl,(blk_cell BK773.out 2).trans rfl,(blk_cell BK773.out 3).trans rfl⟩ (fun hHeld => ?_)
    clear hK K
    refine norm_ (a' := ?_) ?_ ?_
    rotate_left
    · show Act.put _ (some 30) _ = _
      simp only [Act.put,List.setIfInBounds_toArray,List.set_cons_zero,List.set_cons_succ,i64_w,i32_w]
      rfl
    refine one_ (i := 6) (N := some 35) #[true,true,true,true,true,true,true,false,false,false] rfl rfl (one_of HT_.out (by kernel_rfl)) (by decide) (fun K hK => ?_)
    refine goes_ Try.func64 (by kernel_rfl) rfl #[.slice A0 l0.length c0,.int .i64 t775,.int .i64 t776] (by rfl) rfl rfl (by (try simp only [List.map_toArray,List.map_cons,List.map_nil]);first | done | rfl | (simp only [List.length_drop,List.length_take];rfl)) ?_
    with_reducible refine (leaf_Leaf_Between.calls k _ _ l0 t775 t776 t781 _ ?side1 ?side2 A6.out).mono ?_
    (case side1 => repeat (first | exact (Kd.C_below HR0.out HB.out) | (with_reducible refine Kd.C_alloc ?_ _) | (with_reducible refine Kd.C_drewN ?_ _) | (with_reducible refine Kd.C_drew ?_)))
    (case side2 => exact HC0.out)
    rintro e w15 ⟨v782,rfl,ho0,hb⟩
    refine ⟨_,rfl,?_⟩
    have n0_ := Aside0.mk (Kd.R_elder' (by (with_reducible repeat (first | apply Kd.R_alloc | apply Kd.R_drewN | apply Kd.R_drew));exact HO780.out) (Kd.R_base ho0) hb)
    have n1_ := Aside0.mk (Kd.R_lower (Kd.R_new' ho0 (Kd.R_lt (by (with_reducible repeat (first | apply Kd.R_alloc | apply Kd.R_drewN | apply Kd.R_drew));exact HO780.out))) (below_size (by repeat (first | (with_reducible first | exact HB.out | apply below_alloc | apply pw_below_drewN | apply below_drew1 | refine below_set ?_ GE773.out | refine below_set ?_ GE774.out) | exact HB.out))))
    have n2_ := Aside0.mk (blk_below (g := gb773) (o := .cells #[.int .u8 a1_0,.int .i64 a1_1,.int .i64 a1_2,.int .i64 a1_3] 78 (0,0)) (by (with_reducible repeat (first | refine blk_drewN ?_ _ | refine blk_drew ?_ | refine blk_alloc ?_ _));exact BK773.out) hb)
    have n3_ := Aside0.mk (blk_below (g := gb774) (o := .cells #[.int .i64 0,.bool false,.int .i64 0,.int .i64 0,.slice none 0 0,.bool false] 84 (0,0)) (by (with_reducible repeat (first | refine blk_drewN ?_ _ | refine blk_drew ?_ | refine blk_alloc ?_ _));exact BK774.out) hb)
    have n4_ := Aside0.mk (below_step (by repeat (first | (with_reducible first | exact HB.out | apply below_alloc | apply pw_below_drewN | apply below_drew1 | refine below_set ?_ GE773.out | refine below_set ?_ GE774.out) | exact HB.out)) hb)
    clear HO780
    clear BK773
    clear BK774
    clear HB
    have HO780 := n0_
    have HO783 := n1_
    have BK773 := n2_
    have BK774 := n3_
    have HB := n4_
    clear n0_ n1_ n2_ n3_ n4_
    (try clear hb)
    (try clear hb2)
    (try clear hk)
    (try clear hi)
    (try clear ho0)
    obtain ⟨Ao16,co16,eo16⟩ := Kd.R_slice HO783.out
    (first | subst eo16 | (injection eo16 with f1_ f2_ f3_;have f4_ := f1_.symm;have f5_ := f3_.symm;clear f1_ f2_ f3_;subst f4_;subst f5_))
    refine hK.out _ _ ⟨(blk_cell BK773.out 0).trans rfl,(blk_cell BK773.out 1).trans rfl,(blk_cell BK773.out 2).trans rfl,(blk_cell BK773.out 3).trans rfl⟩ (fun hHeld => ?_)
    clear hK K
    refine norm_ (a' := ?_) ?_ ?_
    rotate_left
    · show Act.put _ (some 35) _ = _
      simp only [Act.put,List.setIfInBounds_toArray,List.set_cons_zero,List.set_cons_succ,i64_w,i32_w]
      rfl
    refine one_ (i := 7) (N := some 36) #[true,true,true,true,true,true,true,true,false,false] rfl rfl (one_of HT_.out (by kernel_rfl)) (by decide) (fun K hK => ?_)
    refine goes_ Try.func72 (by kernel_rfl) rfl #[.agg #[.int .u8 a1_0,.int .i64 a1_1,.int .i64 a1_2,.int .i64 a1_3],.slice Ao16 t781.length co16] (by rfl) rfl rfl (by (try simp only [List.map_toArray,List.map_cons,List.map_nil]);first | done | rfl | (simp only [List.length_drop,List.length_take];rfl)) ?_
    with_reducible refine (model_Op_Of.calls a1_0 a1_1 a1_2 a1_3 _ _ t781 t784 t785 t786 t787 t788 t791 _ ?side1 ?side2 A7.out).mono ?_
    (case side1 => repeat (first | exact (Kd.R_reads' HO783.out).2.2 | (with_reducible refine Kd.C_alloc ?_ _) | (with_reducible refine Kd.C_drewN ?_ _) | (with_reducible refine Kd.C_drew ?_)))
    (case side2 => exact (Kd.R_reads' HO783.out).2.1)
    rintro e w17 ⟨v789,rfl,ho0,hb⟩
    refine ⟨_,rfl,?_⟩
    have n0_ := Aside0.mk (Kd.R_elder' (by (with_reducible repeat (first | apply Kd.R_alloc | apply Kd.R_drewN | apply Kd.R_drew));exact HO780.out) (Kd.R_base ho0) hb)
    have n1_ := Aside0.mk (Kd.R_elder' (by (with_reducible repeat (first | apply Kd.R_alloc | apply Kd.R_drewN | apply Kd.R_drew));exact HO783.out) (Kd.R_base ho0) hb)
    have n2_ := Aside0.mk (Kd.R_lower (Kd.R_new' (Kd.R_new' ho0 (Kd.R_lt (by (with_reducible repeat (first | apply Kd.R_alloc | apply Kd.R_drewN | apply Kd.R_drew));exact HO780.out))) (Kd.R_lt (by (with_reducible repeat (first | apply Kd.R_alloc | apply Kd.R_drewN | apply Kd.R_drew));exact HO783.out))) (below_size (by repeat (first | (with_reducible first | exact HB.out | apply below_alloc | apply pw_below_drewN | apply below_drew1 | refine below_set ?_ GE773.out | refine below_set ?_ GE774.out) | exact HB.out))))
    have n3_ := Aside0.mk (blk_below (g := gb773) (o := .cells #[.int .u8 a1_0,.int .i64 a1_1,.int .i64 a1_2,.int .i64 a1_3] 78 (0,0)) (by (with_reducible repeat (first | refine blk_drewN ?_ _ | refine blk_drew ?_ | refine blk_alloc ?_ _));exact BK773.out) hb)
    have n4_ := Aside0.mk (blk_below (g := gb774) (o := .cells #[.int .i64 0,.bool false,.int .i64 0,.int .i64 0,.slice none 0 0,.bool false] 84 (0,0)) (by (with_reducible repeat (first | refine blk_drewN ?_ _ | refine blk_drew ?_ | refine blk_alloc ?_ _));exact BK774.out) hb)
    have n5_ := Aside0.mk (below_step (by repeat (first | (with_reducible first | exact HB.out | apply below_alloc | apply pw_below_drewN | apply below_drew1 | refine below_set ?_ GE773.out | refine below_set ?_ GE774.out) | exact HB.out)) hb)
    clear HO780
    clear HO783
    clear BK773
    clear BK774
    clear HB
    have HO780 := n0_
    have HO783 := n1_
    have HO790 := n2_
    have BK773 := n3_
    have BK774 := n4_
    have HB := n5_
    clear n0_ n1_ n2_ n3_ n4_ n5_
    (try clear hb)
    (try clear hb2)
    (try clear hk)
    (try clear hi)
    (try clear ho0)
    obtain ⟨Ao22,co22,eo22⟩ := Kd.R_slice HO790.out
    (first | subst eo22 | (injection eo22 with f1_ f2_ f3_;have f4_ := f1_.symm;have f5_ := f3_.symm;clear f1_ f2_ f3_;subst f4_;subst f5_))
    refine hK.out _ _ ⟨(blk_cell BK773.out 0).trans rfl,(blk_cell BK773.out 1).trans rfl,(blk_cell BK773.out 2).trans rfl,(blk_cell BK773.out 3).trans rfl⟩ (fun hHeld => ?_)
    clear hK K
    refine norm_ (a' := ?_) ?_ ?_
    rotate_left
    · show Act.put _ (some 36) _ = _
      simp only [Act.put,List.setIfInBounds_toArray,List.set_cons_zero,List.set_cons_succ,i64_w,i32_w]
      rfl
    refine pure_ (i := 8) (N := some 4) (v := ?_) (a' := ?_) #[true,true,true,true,true,true,true,true,true,false] rfl rfl (any_of HT_.out (by kernel_rfl)) (fun _ _ _ h => h) (Or.inl ⟨by rfl,?_⟩) ?_ ?_
    rotate_left
    · intro w'
      go_simp
      with_reducible rfl
    rotate_left
    · simp only [Act.put,List.setIfInBounds_toArray,List.set_cons_zero,List.set_cons_succ,i64_w,i32_w]
      rfl
    refine one_ (i := 9) (N := none) #[true,true,true,true,true,true,true,true,true,true] rfl rfl (one_of HT_.out (by kernel_rfl)) (by decide) (fun K hK => ?_)
    have hs18 : w17.cell? ⟨gb774,0,none⟩ = some (.int .i64 0) := (blk_cell BK774.out 0).trans rfl
    have hfs18 := blk_frozen BK774.out 0
    have hns18_0 := NB773_774.out
    have hms18_0 := NB774_773.out
    have hs19 : w17.cell? ⟨gb774,1,none⟩ = some (.bool false) := (blk_cell BK774.out 1).trans rfl
    have hfs19 := blk_frozen BK774.out 1
    have hns19_0 := NB773_774.out
    have hms19_0 := NB774_773.out
    have hs20 : w17.cell? ⟨gb774,2,none⟩ = some (.int .i64 0) := (blk_cell BK774.out 2).trans rfl
    have hfs20 := blk_frozen BK774.out 2
    have hns20_0 := NB773_774.out
    have hms20_0 := NB774_773.out
    have hs21 : w17.cell? ⟨gb774,3,none⟩ = some (.int .i64 0) := (blk_cell BK774.out 3).trans rfl
    have hfs21 := blk_frozen BK774.out 3
    have hns21_0 := NB773_774.out
    have hms21_0 := NB774_773.out
    have hs23 : w17.cell? ⟨gb774,4,none⟩ = some (.slice none 0 0) := (blk_cell BK774.out 4).trans rfl
    have hfs23 := blk_frozen BK774.out 4
    have hns23_0 := NB773_774.out
    have hms23_0 := NB774_773.out
    have hs24 : w17.cell? ⟨gb774,5,none⟩ = some (.bool false) := (blk_cell BK774.out 5).trans rfl
    have hfs24 := blk_frozen BK774.out 5
    have hns24_0 := NB773_774.out
    have hms24_0 := NB774_773.out
    refine skip_ (w1 := ?_) (by rfl) rfl ?_ ?_
    rotate_left
    · go_simp
      rfl
    refine hK.out _ _ ⟨((cell_far (p := ⟨gb774,_,none⟩) NB773_774.out _).trans (((cell_far (p := ⟨gb774,_,none⟩) NB773_774.out _).trans (((cell_far (p := ⟨gb774,_,none⟩) NB773_774.out _).trans (((cell_far (p := ⟨gb774,_,none⟩) NB773_774.out _).trans (((cell_far (p := ⟨gb774,_,none⟩) NB773_774.out _).trans (((cell_far (p := ⟨gb774,_,none⟩) NB773_774.out _).trans (hHeld.1)))))))))))),((cell_far (p := ⟨gb774,_,none⟩) NB773_774.out _).trans (((cell_far (p := ⟨gb774,_,none⟩) NB773_774.out _).trans (((cell_far (p := ⟨gb774,_,none⟩) NB773_774.out _).trans (((cell_far (p := ⟨gb774,_,none⟩) NB773_774.out _).trans (((cell_far (p := ⟨gb774,_,none⟩) NB773_774.out _).trans (((cell_far (p := ⟨gb774,_,none⟩) NB773_774.out _).trans (hHeld.2.1)))))))))))),((cell_far (p := ⟨gb774,_,none⟩) NB773_774.out _).trans (((cell_far (p := ⟨gb774,_,none⟩) NB773_774.out _).trans (((cell_far (p := ⟨gb774,_,none⟩) NB773_774.out _).trans (((cell_far (p := ⟨gb774,_,none⟩) NB773_774.out _).trans (((cell_far (p := ⟨gb774,_,none⟩) NB773_774.out _).trans (((cell_far (p := ⟨gb774,_,none⟩) NB773_774.out _).trans (hHeld.2.2.1)))))))))))),((cell_far (p := ⟨gb774,_,none⟩) NB773_774.out _).trans (((cell_far (p := ⟨gb774,_,none⟩) NB773_774.out _).trans (((cell_far (p := ⟨gb774,_,none⟩) NB773_774.out _).trans (((cell_far (p := ⟨gb774,_,none⟩) NB773_774.out _).trans (((cell_far (p := ⟨gb774,_,none⟩) NB773_774.out _).trans (((cell_far (p := ⟨gb774,_,none⟩) NB773_774.out _).trans (hHeld.2.2.2))))))))))))⟩ (fun hHeld => ?_)
    clear hK K
    refine done_ (done_of HT_.out (by kernel_rfl)) ?_
    try go_wp2
    refine bodyPost_ret (results_tc rfl _ _ gb774 84 #[.int .i64 t784,.bool t785,.int .i64 t786,.int .i64 t787,.slice Ao22 t788.length co22,.bool t791] (0,0) _ rfl (by (with_reducible repeat (first | refine blk_drewN ?_ _ | refine blk_drew ?_ | refine blk_alloc ?_ _));refine blk_put (cs := #[.int .i64 t784,.bool t785,.int .i64 t786,.int .i64 t787,.slice Ao22 t788.length co22,.bool false]) ?_ 5 _ rfl;(with_reducible repeat (first | refine blk_drewN ?_ _ | refine blk_drew ?_ | refine blk_alloc ?_ _));refine blk_put (cs := #[.int .i64 t784,.bool t785,.int .i64 t786,.int .i64 t787,.slice none 0 0,.bool false]) ?_ 4 _ rfl;(with_reducible repeat (first | refine blk_drewN ?_ _ | refine blk_drew ?_ | refine blk_alloc ?_ _));refine blk_put (cs := #[.int .i64 t784,.bool t785,.int .i64 t786,.int .i64 0,.slice none 0 0,.bool false]) ?_ 3 _ rfl;(with_reducible repeat (first | refine blk_drewN ?_ _ | refine blk_drew ?_ | refine blk_alloc ?_ _));refine blk_put (cs := #[.int .i64 t784,.bool t785,.int .i64 0,.int .i64 0,.slice none 0 0,.bool false]) ?_ 2 _ rfl;(with_reducible repeat (first | refine blk_drewN ?_ _ | refine blk_drew ?_ | refine blk_alloc ?_ _));refine blk_put (cs := #[.int .i64 t784,.bool false,.int .i64 0,.int .i64 0,.slice none 0 0,.bool false]) ?_ 1 _ rfl;(with_reducible repeat (first | refine blk_drewN ?_ _ | refine blk_drew ?_ | refine blk_alloc ?_ _));refine blk_put (cs := #[.int .i64 0,.bool false,.int .i64 0,.int .i64 0,.slice none 0 0,.bool false]) ?_ 0 _ rfl;(with_reducible repeat (first | refine blk_drewN ?_ _ | refine blk_drew ?_ | refine blk_alloc ?_ _));exact BK774.out) Try.underlying84 rfl (by kernel_rfl)) rfl ?_
    exact ⟨_,_,by first | rfl | (simp [errW_none,errW_some] <;> rfl) | (simp [*,errW_none,errW_some] <;> rfl),by (with_reducible repeat (first | apply Kd.R_alloc | apply Kd.R_drewN | apply Kd.R_drew));exact Kd.R_mono (Kd.R_far (p := ⟨gb774,5,none⟩) (Kd.R_far (p := ⟨gb774,4,none⟩) (Kd.R_far (p := ⟨gb774,3,none⟩) (Kd.R_far (p := ⟨gb774,2,none⟩) (Kd.R_far (p := ⟨gb774,1,none⟩) (Kd.R_far (p := ⟨gb774,0,none⟩) (Kd.R_types HO780.out BK774.out (by decide)) (fun _ hk => hk.2) (.int .i64 t784)) (fun _ hk => hk.2) (.bool t785)) (fun _ hk => hk.2) (.int .i64 t786)) (fun _ hk => hk.2) (.int .i64 t787)) (fun _ hk => hk.2) (.slice Ao22 t788.length co22)) (fun _ hk => hk.2) (.bool t791)) (fun _ hk => hk.1.2),by (with_reducible repeat (first | apply Kd.R_alloc | apply Kd.R_drewN | apply Kd.R_drew));exact Kd.R_mono (Kd.R_far (p := ⟨gb774,5,none⟩) (Kd.R_far (p := ⟨gb774,4,none⟩) (Kd.R_far (p := ⟨gb774,3,none⟩) (Kd.R_far (p := ⟨gb774,2,none⟩) (Kd.R_far (p := ⟨gb774,1,none⟩) (Kd.R_far (p := ⟨gb774,0,none⟩) (Kd.R_types HO790.out BK774.out (by decide)) (fun _ hk => hk.2) (.int .i64 t784)) (fun _ hk => hk.2) (.bool t785)) (fun _ hk => hk.2) (.int .i64 t786)) (fun _ hk => hk.2) (.int .i64 t787)) (fun _ hk => hk.2) (.slice Ao22 t788.length co22)) (fun _ hk => hk.2) (.bool t791)) (fun _ hk => hk.1.1.2),by repeat (first | (with_reducible first | exact HB.out | apply below_alloc | apply pw_below_drewN | apply below_drew1 | refine below_set ?_ GE773.out | refine below_set ?_ GE774.out) | exact HB.out)⟩
  · replace c4 := Bool.eq_false_iff.mpr c4
    subst c4
    have H1 : (if a1_0 = 0 then ((leaf_Leaf_Get.f l0 a1_1).bind fun bt792 => ((leaf_Pair_99.f l0).bind fun t794 => (some (t794,0,bt792.2,0,bt792.1,([] : List (S40)),false)))) else (if a1_0 = 1 then ((leaf_Leaf_Put.f l0 a1_1 a1_3).bind fun bt797 => (some (bt797.1,0,bt797.2.2,0,bt797.2.1,([] : List (S40)),false))) else (if a1_0 = 2 then ((leaf_Leaf_Get.f l0 a1_1).bind fun bt802 => (if bt802.2 = true then ((leaf_Pair_99.f l0).bind fun t804 => (some (t804,0,true,0,bt802.1,([] : List (S40)),false))) else ((leaf_Leaf_Put.f l0 a1_1 a1_3).bind fun bt807 => (some (bt807.1,0,false,0,0,([] : List (S40)),false))))) else (if a1_0 = 3 then ((leaf_Leaf_Cut.f l0 a1_1).bind fun bt812 => (some (bt812.1,0,bt812.2.2,0,bt812.2.1,([] : List (S40)),false))) else ((leaf_Pair_99.f l0).bind fun t817 => (some (t817,10,false,0,0,([] : List (S40)),false))))))) = some (r1,r2,r3,r4,r5,r6,r7) := by rw [if_neg (show ¬ (false = true) by decide)] at H;exact H
    clear H
    have H := H1
    clear H1
    by_cases c25 : a1_0 = 0
    · rw [if_pos c25] at H
      have c25b0 : (a1_0 == 0) = true := beq_iff_eq.mpr c25
      have c25b1 : (a1_0 != 0) = false := bne_eq_false_iff_eq.mpr c25
      clear c25
      replace H := Option.bind_eq_some_iff.mp H
      obtain ⟨⟨t792,t793⟩,A260,H⟩ := H
      replace H : ((leaf_Pair_99.f l0).bind fun t794 => (some (t794,0,t793,0,t792,([] : List (S40)),false))) = some (r1,r2,r3,r4,r5,r6,r7) := H
      have A26 := Aside0.mk A260
      clear A260
      replace H := Option.bind_eq_some_iff.mp H
      obtain ⟨t794,A270,H⟩ := H
      replace H : (some (t794,0,t793,0,t792,([] : List (S40)),false)) = some (r1,r2,r3,r4,r5,r6,r7) := H
      have A27 := Aside0.mk A270
      clear A270
      simp only [Option.some.injEq,Prod.mk.injEq] at H
      obtain ⟨rfl,rfl,rfl,rfl,rfl,rfl,rfl⟩ := H
      go_enter Try.func74,Try.ntmps74
      go_wp2_with (first | ((with_reducible refine gate_dst (N := 3) rfl ?_);refine box_event ?hg (N := 3) ?hd (cs := #[.int .u8 a1_0,.int .i64 a1_1,.int .i64 a1_2,.int .i64 a1_3]) (t := 78) ?hr ?_;(case hd => rfl);(case hg => rfl);(case hr => first | (go_simp;done) | (go_simp;rfl));intro gb773 hg w28 hbox hb;have n0_ := Aside0.mk (below_step (by repeat (first | (with_reducible first | exact HB.out | apply below_alloc | apply pw_below_drewN | apply below_drew1) | exact HB.out)) hb);have n1_ := Aside0.mk (hbox);have n2_ := Aside0.mk ((by rw [hg];exact (below_size (by repeat (first | (with_reducible first | exact HB.out | apply below_alloc | apply pw_below_drewN | apply below_drew1) | exact HB.out))) : w.heap.size ≤ gb773));have n3_ := Aside0.mk ((by rw [hg];exact (below_size (by repeat (first | (with_reducible first | exact HB.out | apply below_alloc | apply pw_below_drewN | apply below_drew1) | exact HB.out))) : w.heap.size ≤ gb773));clear HB;have HB := n0_;have BK773 := n1_;have GW773 := n2_;have GE773 := n3_;clear n0_ n1_ n2_ n3_;clear hb hbox hg) | ((with_reducible refine gate_dst (N := 5) rfl ?_);refine box_event ?hg (N := 5) ?hd (cs := #[.int .i64 0,.bool false,.int .i64 0,.int .i64 0,.slice none 0 0,.bool false]) (t := 84) ?hr ?_;(case hd => rfl);(case hg => rfl);(case hr => first | (go_simp;done) | (go_simp;rfl));intro gb774 hg w29 hbox hb;have n0_ := Aside0.mk (blk_below (g := gb773) (o := .cells #[.int .u8 a1_0,.int .i64 a1_1,.int .i64 a1_2,.int .i64 a1_3] 78 (0,0)) (by (with_reducible repeat (first | refine blk_drewN ?_ _ | refine blk_drew ?_ | refine blk_alloc ?_ _));exact BK773.out) hb);have n1_ := Aside0.mk (below_step (by repeat (first | (with_reducible first | exact HB.out | apply below_alloc | apply pw_below_drewN | apply below_drew1 | refine below_set ?_ GE773.out) | exact HB.out)) hb);have n2_ := Aside0.mk (hbox);have n3_ := Aside0.mk ((by rw [hg];exact (below_size (by repeat (first | (with_reducible first | exact HB.out | apply below_alloc | apply pw_below_drewN | apply below_drew1 | refine below_set ?_ GE773.out) | exact HB.out))) : w.heap.size ≤ gb774));have n4_ := Aside0.mk ((by rw [hg];exact (below_size (by repeat (first | (with_reducible first | exact HB.out | apply below_alloc | apply pw_below_drewN | apply below_drew1 | refine below_set ?_ GE773.out) | exact HB.out))) : w.heap.size ≤ gb774));have n5_ := Aside0.mk ((by rw [hg];exact Nat.ne_of_lt (blk_lt (g := gb773) (o := .cells #[.int .u8 a1_0,.int .i64 a1_1,.int .i64 a1_2,.int .i64 a1_3] 78 (0,0)) (by (with_reducible repeat (first | refine blk_drewN ?_ _ | refine blk_drew ?_ | refine blk_alloc ?_ _));exact BK773.out)) : gb773 ≠ gb774));have n6_ := Aside0.mk ((by rw [hg];exact Nat.ne_of_gt (blk_lt (g := gb773) (o := .cells #[.int .u8 a1_0,.int .i64 a1_1,.int .i64 a1_2,.int .i64 a1_3] 78 (0,0)) (by (with_reducible repeat (first | refine blk_drewN ?_ _ | refine blk_drew ?_ | refine blk_alloc ?_ _));exact BK773.out)) : gb774 ≠ gb773));clear BK773;clear HB;have BK773 := n0_;have HB := n1_;have BK774 := n2_;have GW774 := n3_;have GE774 := n4_;have NB773_774 := n5_;have NB774_773 := n6_;clear n0_ n1_ n2_ n3_ n4_ n5_ n6_;clear hb hbox hg;have hnb30 := NB773_774.out;have hnc30 := NB774_773.out;have hcz31_0 : w29.cell? ⟨gb773,0,none⟩ = some (.int .u8 a1_0) := (blk_cell BK773.out 0).trans rfl;have hcz31_1 : w29.cell? ⟨gb773,1,none⟩ = some (.int .i64 a1_1) := (blk_cell BK773.out 1).trans rfl;have hcz31_2 : w29.cell? ⟨gb773,2,none⟩ = some (.int .i64 a1_2) := (blk_cell BK773.out 2).trans rfl;have hcz31_3 : w29.cell? ⟨gb773,3,none⟩ = some (.int .i64 a1_3) := (blk_cell BK773.out 3).trans rfl;have hfz31_0 := blk_frozen BK773.out 0;have hfz31_1 := blk_frozen BK773.out 1;have hfz31_2 := blk_frozen BK773.out 2;have hfz31_3 := blk_frozen BK773.out 3) | ((with_reducible refine gate_callee (f := 71) rfl ?_);refine goesL_ (some 24) rfl rfl Try.func71 (by kernel_rfl) rfl #[.agg #[.int .u8 a1_0,.int .i64 a1_1,.int .i64 a1_2,.int .i64 a1_3]] rfl (by (try simp only [List.map_toArray,List.map_cons,List.map_nil]);first | done | rfl | (simp only [List.length_drop,List.length_take];rfl)) ?_;(with_reducible refine (model_Op_Span.calls k a1_0 a1_1 a1_2 a1_3 t775 t776 false _ A3.out).mono ?_);rintro e w32 ⟨rfl,hb⟩;refine ⟨_,rfl,?_⟩;have n0_ := Aside0.mk (blk_below (g := gb773) (o := .cells #[.int .u8 a1_0,.int .i64 a1_1,.int .i64 a1_2,.int .i64 a1_3] 78 (0,0)) (by (with_reducible repeat (first | refine blk_drewN ?_ _ | refine blk_drew ?_ | refine blk_alloc ?_ _));exact BK773.out) hb);have n1_ := Aside0.mk (blk_below (g := gb774) (o := .cells #[.int .i64 0,.bool false,.int .i64 0,.int .i64 0,.slice none 0 0,.bool false] 84 (0,0)) (by (with_reducible repeat (first | refine blk_drewN ?_ _ | refine blk_drew ?_ | refine blk_alloc ?_ _));exact BK774.out) hb);have n2_ := Aside0.mk (below_step (by repeat (first | (with_reducible first | exact HB.out | apply below_alloc | apply pw_below_drewN | apply below_drew1 | refine below_set ?_ GE773.out | refine below_set ?_ GE774.out) | exact HB.out)) hb);clear BK773;clear BK774;clear HB;have BK773 := n0_;have BK774 := n1_;have HB := n2_;clear n0_ n1_ n2_;(try clear hb);(try clear hb2);(try clear hk);(try clear hi);have hcz33_0 : w32.cell? ⟨gb773,0,none⟩ = some (.int .u8 a1_0) := (blk_cell BK773.out 0).trans rfl;have hcz33_1 : w32.cell? ⟨gb773,1,none⟩ = some (.int .i64 a1_1) := (blk_cell BK773.out 1).trans rfl;have hcz33_2 : w32.cell? ⟨gb773,2,none⟩ = some (.int .i64 a1_2) := (blk_cell BK773.out 2).trans rfl;have hcz33_3 : w32.cell? ⟨gb773,3,none⟩ = some (.int .i64 a1_3) := (blk_cell BK773.out 3).trans rfl;have hfz33_0 := blk_frozen BK773.out 0;have hfz33_1 := blk_frozen BK773.out 1;have hfz33_2 := blk_frozen BK773.out 2;have hfz33_3 := blk_frozen BK773.out 3) | ((with_reducible refine gate_callee (f := 45) rfl ?_);refine goesL_ (some 45) rfl rfl Try.func45 (by kernel_rfl) rfl #[.slice A0 l0.length c0,.int .i64 a1_1] rfl (by (try simp only [List.map_toArray,List.map_cons,List.map_nil]);first | done | rfl | (simp only [List.length_drop,List.length_take];rfl)) ?_;(with_reducible refine (leaf_Leaf_Get.calls _ _ l0 a1_1 t792 t793 _ ?side1 ?side2 A26.out).mono ?_);(case side1 => repeat (first | exact (Kd.C_below HR0.out HB.out) | (with_reducible refine Kd.C_alloc ?_ _) | (with_reducible refine Kd.C_drewN ?_ _) | (with_reducible refine Kd.C_drew ?_)));(case side2 => exact HC0.out);rintro e w34 ⟨rfl,hb⟩;refine ⟨_,rfl,?_⟩;have n0_ := Aside0.mk (blk_below (g := gb773) (o := .cells #[.int .u8 a1_0,.int .i64 a1_1,.int .i64 a1_2,.int .i64 a1_3] 78 (0,0)) (by (with_reducible repeat (first | refine blk_drewN ?_ _ | refine blk_drew ?_ | refine blk_alloc ?_ _));exact BK773.out) hb);have n1_ := Aside0.mk (blk_below (g := gb774) (o := .cells #[.int .i64 0,.bool false,.int .i64 0,.int .i64 0,.slice none 0 0,.bool false] 84 (0,0)) (by (with_reducible repeat (first | refine blk_drewN ?_ _ | refine blk_drew ?_ | refine blk_alloc ?_ _));exact BK774.out) hb);have n2_ := Aside0.mk (below_step (by repeat (first | (with_reducible first | exact HB.out | apply below_alloc | apply pw_below_drewN | apply below_drew1 | refine below_set ?_ GE773.out | refine below_set ?_ GE774.out) | exact HB.out)) hb);clear BK773;clear BK774;clear HB;have BK773 := n0_;have BK774 := n1_;have HB := n2_;clear n0_ n1_ n2_;(try clear hb);(try clear hb2);(try clear hk);(try clear hi)) | ((with_reducible refine gate_callee (f := 99) rfl ?_);refine goesL_ (some 49) rfl rfl Try.func99 (by kernel_rfl) rfl #[.slice A0 l0.length c0] rfl (by (try simp only [List.map_toArray,List.map_cons,List.map_nil]);first | done | rfl | (simp only [List.length_drop,List.length_take];rfl)) ?_;(with_reducible refine (leaf_Pair_99.calls _ _ l0 t794 _ ?side1 ?side2 A27.out).mono ?_);(case side1 => repeat (first | exact (Kd.C_below HR0.out HB.out) | (with_reducible refine Kd.C_alloc ?_ _) | (with_reducible refine Kd.C_drewN ?_ _) | (with_reducible refine Kd.C_drew ?_)));(case side2 => exact HC0.out);rintro e w35 ⟨v795,rfl,ho0,hb⟩;refine ⟨_,rfl,?_⟩;have n0_ := Aside0.mk (Kd.R_lower ho0 (below_size (by repeat (first | (with_reducible first | exact HB.out | apply below_alloc | apply pw_below_drewN | apply below_drew1 | refine below_set ?_ GE773.out | refine below_set ?_ GE774.out) | exact HB.out))));have n1_ := Aside0.mk (blk_below (g := gb773) (o := .cells #[.int .u8 a1_0,.int .i64 a1_1,.int .i64 a1_2,.int .i64 a1_3] 78 (0,0)) (by (with_reducible repeat (first | refine blk_drewN ?_ _ | refine blk_drew ?_ | refine blk_alloc ?_ _));exact BK773.out) hb);have n2_ := Aside0.mk (blk_below (g := gb774) (o := .cells #[.int .i64 0,.bool false,.int .i64 0,.int .i64 0,.slice none 0 0,.bool false] 84 (0,0)) (by (with_reducible repeat (first | refine blk_drewN ?_ _ | refine blk_drew ?_ | refine blk_alloc ?_ _));exact BK774.out) hb);have n3_ := Aside0.mk (below_step (by repeat (first | (with_reducible first | exact HB.out | apply below_alloc | apply pw_below_drewN | apply below_drew1 | refine below_set ?_ GE773.out | refine below_set ?_ GE774.out) | exact HB.out)) hb);clear BK773;clear BK774;clear HB;have HO796 := n0_;have BK773 := n1_;have BK774 := n2_;have HB := n3_;clear n0_ n1_ n2_ n3_;(try clear hb);(try clear hb2);(try clear hk);(try clear hi);(try clear ho0);have hcz36_0 : w35.cell? ⟨gb774,0,none⟩ = some (.int .i64 0) := (blk_cell BK774.out 0).trans rfl;have hcz36_1 : w35.cell? ⟨gb774,1,none⟩ = some (.bool false) := (blk_cell BK774.out 1).trans rfl;have hcz36_2 : w35.cell? ⟨gb774,2,none⟩ = some (.int .i64 0) := (blk_cell BK774.out 2).trans rfl;have hcz36_3 : w35.cell? ⟨gb774,3,none⟩ = some (.int .i64 0) := (blk_cell BK774.out 3).trans rfl;have hcz36_4 : w35.cell? ⟨gb774,4,none⟩ = some (.slice none 0 0) := (blk_cell BK774.out 4).trans rfl;have hcz36_5 : w35.cell? ⟨gb774,5,none⟩ = some (.bool false) := (blk_cell BK774.out 5).trans rfl;have hfz36_0 := blk_frozen BK774.out 0;have hfz36_1 := blk_frozen BK774.out 1;have hfz36_2 := blk_frozen BK774.out 2;have hfz36_3 := blk_frozen BK774.out 3;have hfz36_4 := blk_frozen BK774.out 4;have hfz36_5 := blk_frozen BK774.out 5))
      refine bodyPost_ret (results_tc rfl _ _ gb774 84 #[.int .i64 0,.bool t793,.int .i64 0,.int .i64 t792,.slice none 0 0,.bool false] (0,0) _ rfl (by (with_reducible repeat (first | refine blk_drewN ?_ _ | refine blk_drew ?_ | refine blk_alloc ?_ _));refine blk_put (cs := #[.int .i64 0,.bool t793,.int .i64 0,.int .i64 t792,.slice none 0 0,.bool false]) ?_ 5 _ rfl;(with_reducible repeat (first | refine blk_drewN ?_ _ | refine blk_drew ?_ | refine blk_alloc ?_ _));refine blk_put (cs := #[.int .i64 0,.bool t793,.int .i64 0,.int .i64 t792,.slice none 0 0,.bool false]) ?_ 4 _ rfl;(with_reducible repeat (first | refine blk_drewN ?_ _ | refine blk_drew ?_ | refine blk_alloc ?_ _));refine blk_put (cs := #[.int .i64 0,.bool t793,.int .i64 0,.int .i64 0,.slice none 0 0,.bool false]) ?_ 3 _ rfl;(with_reducible repeat (first | refine blk_drewN ?_ _ | refine blk_drew ?_ | refine blk_alloc ?_ _));refine blk_put (cs := #[.int .i64 0,.bool t793,.int .i64 0,.int .i64 0,.slice none 0 0,.bool false]) ?_ 2 _ rfl;(with_reducible repeat (first | refine blk_drewN ?_ _ | refine blk_drew ?_ | refine blk_alloc ?_ _));refine blk_put (cs := #[.int .i64 0,.bool false,.int .i64 0,.int .i64 0,.slice none 0 0,.bool false]) ?_ 1 _ rfl;(with_reducible repeat (first | refine blk_drewN ?_ _ | refine blk_drew ?_ | refine blk_alloc ?_ _));refine blk_put (cs := #[.int .i64 0,.bool false,.int .i64 0,.int .i64 0,.slice none 0 0,.bool false]) ?_ 0 _ rfl;(with_reducible repeat (first | refine blk_drewN ?_ _ | refine blk_drew ?_ | refine blk_alloc ?_ _));exact BK774.out) Try.underlying84 rfl (by kernel_rfl)) rfl ?_
      exact ⟨_,_,by first | rfl | (simp [errW_none,errW_some] <;> rfl) | (simp [*,errW_none,errW_some] <;> rfl),by (with_reducible repeat (first | apply Kd.R_alloc | apply Kd.R_drewN | apply Kd.R_drew));exact Kd.R_mono (Kd.R_far (p := ⟨gb774,5,none⟩) (Kd.R_far (p := ⟨gb774,4,none⟩) (Kd.R_far (p := ⟨gb774,3,none⟩) (Kd.R_far (p := ⟨gb774,2,none⟩) (Kd.R_far (p := ⟨gb774,1,none⟩) (Kd.R_far (p := ⟨gb774,0,none⟩) (Kd.R_types HO796.out BK774.out (by decide)) (fun _ hk => hk.2) (.int .i64 0)) (fun _ hk => hk.2) (.bool t793)) (fun _ hk => hk.2) (.int .i64 0)) (fun _ hk => hk.2) (.int .i64 t792)) (fun _ hk => hk.2) (.slice none 0 0)) (fun _ hk => hk.2) (.bool false)) (fun _ hk => (by simp [Value.ownBlock])),by first | exact Kd.R_nil _ _ _ _ _ | exact Kd.N_nil _ _ _ _ _ | exact Kd.V_nil _ _ _ _ _ | exact Kd.Q_nil _ _ _ _ _ | exact Kd.S_nil _ _ _ _ _,by repeat (first | (with_reducible first | exact HB.out | apply below_alloc | apply pw_below_drewN | apply below_drew1 | refine below_set ?_ GE773.out | refine below_set ?_ GE774.out) | exact HB.out)⟩
    · rw [if_neg c25] at H
      have c25b0 : (a1_0 == 0) = false := beq_eq_false_iff_ne.mpr c25
      have c25b1 : (a1_0 != 0) = true := bne_iff_ne.mpr c25
      by_cases c37 : a1_0 = 1
      · rw [if_pos c37] at H
        have c37b0 : (a1_0 == 1) = true := beq_iff_eq.mpr c37
        have c37b1 : (a1_0 != 1) = false := bne_eq_false_iff_eq.mpr c37
        clear c37
        replace H := Option.bind_eq_some_iff.mp H
        obtain ⟨⟨t797,t798,t799⟩,A380,H⟩ := H
        replace H : (some (t797,0,t799,0,t798,([] : List (S40)),false)) = some (r1,r2,r3,r4,r5,r6,r7) := H
        have A38 := Aside0.mk A380
        clear A380
        simp only [Option.some.injEq,Prod.mk.injEq] at H
        obtain ⟨rfl,rfl,rfl,rfl,rfl,rfl,rfl⟩ := H
        go_enter Try.func74,Try.ntmps74
        go_wp2_with (first | ((with_reducible refine gate_dst (N := 3) rfl ?_);refine box_event ?hg (N := 3) ?hd (cs := #[.int .u8 a1_0,.int .i64 a1_1,.int .i64 a1_2,.int .i64 a1_3]) (t := 78) ?hr ?_;(case hd => rfl);(case hg => rfl);(case hr => first | (go_simp;done) | (go_simp;rfl));intro gb773 hg w39 hbox hb;have n0_ := Aside0.mk (below_step (by repeat (first | (with_reducible first | exact HB.out | apply below_alloc | apply pw_below_drewN | apply below_drew1) | exact HB.out)) hb);have n1_ := Aside0.mk (hbox);have n2_ := Aside0.mk ((by rw [hg];exact (below_size (by repeat (first | (with_reducible first | exact HB.out | apply below_alloc | apply pw_below_drewN | apply below_drew1) | exact HB.out))) : w.heap.size ≤ gb773));have n3_ := Aside0.mk ((by rw [hg];exact (below_size (by repeat (first | (with_reducible first | exact HB.out | apply below_alloc | apply pw_below_drewN | apply below_drew1) | exact HB.out))) : w.heap.size ≤ gb773));clear HB;have HB := n0_;have BK773 := n1_;have GW773 := n2_;have GE773 := n3_;clear n0_ n1_ n2_ n3_;clear hb hbox hg) | ((with_reducible refine gate_dst (N := 5) rfl ?_);refine box_event ?hg (N := 5) ?hd (cs := #[.int .i64 0,.bool false,.int .i64 0,.int .i64 0,.slice none 0 0,.bool false]) (t := 84) ?hr ?_;(case hd => rfl);(case hg => rfl);(case hr => first | (go_simp;done) | (go_simp;rfl));intro gb774 hg w40 hbox hb;have n0_ := Aside0.mk (blk_below (g := gb773) (o := .cells #[.int .u8 a1_0,.int .i64 a1_1,.int .i64 a1_2,.int .i64 a1_3] 78 (0,0)) (by (with_reducible repeat (first | refine blk_drewN ?_ _ | refine blk_drew ?_ | refine blk_alloc ?_ _));exact BK773.out) hb);have n1_ := Aside0.mk (below_step (by repeat (first | (with_reducible first | exact HB.out | apply below_alloc | apply pw_below_drewN | apply below_drew1 | refine below_set ?_ GE773.out) | exact HB.out)) hb);have n2_ := Aside0.mk (hbox);have n3_ := Aside0.mk ((by rw [hg];exact (below_size (by repeat (first | (with_reducible first | exact HB.out | apply below_alloc | apply pw_below_drewN | apply below_drew1 | refine below_set ?_ GE773.out) | exact HB.out))) : w.heap.size ≤ gb774));have n4_ := Aside0.mk ((by rw [hg];exact (below_size (by repeat (first | (with_reducible first | exact HB.out | apply below_alloc | apply pw_below_drewN | apply below_drew1 | refine below_set ?_ GE773.out) | exact HB.out))) : w.heap.size ≤ gb774));have n5_ := Aside0.mk ((by rw [hg];exact Nat.ne_of_lt (blk_lt (g := gb773) (o := .cells #[.int .u8 a1_0,.int .i64 a1_1,.int .i64 a1_2,.int .i64 a1_3] 78 (0,0)) (by (with_reducible repeat (first | refine blk_drewN ?_ _ | refine blk_drew ?_ | refine blk_alloc ?_ _));exact BK773.out)) : gb773 ≠ gb774));have n6_ := Aside0.mk ((by rw [hg];exact Nat.ne_of_gt (blk_lt (g := gb773) (o := .cells #[.int .u8 a1_0,.int .i64 a1_1,.int .i64 a1_2,.int .i64 a1_3] 78 (0,0)) (by (with_reducible repeat (first | refine blk_drewN ?_ _ | refine blk_drew ?_ | refine blk_alloc ?_ _));exact BK773.out)) : gb774 ≠ gb773));clear BK773;clear HB;have BK773 := n0_;have HB := n1_;have BK774 := n2_;have GW774 := n3_;have GE774 := n4_;have NB773_774 := n5_;have NB774_773 := n6_;clear n0_ n1_ n2_ n3_ n4_ n5_ n6_;clear hb hbox hg;have hnb41 := NB773_774.out;have hnc41 := NB774_773.out;have hcz42_0 : w40.cell? ⟨gb773,0,none⟩ = some (.int .u8 a1_0) := (blk_cell BK773.out 0).trans rfl;have hcz42_1 : w40.cell? ⟨gb773,1,none⟩ = some (.int .i64 a1_1) := (blk_cell BK773.out 1).trans rfl;have hcz42_2 : w40.cell? ⟨gb773,2,none⟩ = some (.int .i64 a1_2) := (blk_cell BK773.out 2).trans rfl;have hcz42_3 : w40.cell? ⟨gb773,3,none⟩ = some (.int .i64 a1_3) := (blk_cell BK773.out 3).trans rfl;have hfz42_0 := blk_frozen BK773.out 0;have hfz42_1 := blk_frozen BK773.out 1;have hfz42_2 := blk_frozen BK773.out 2;have hfz42_3 := blk_frozen BK773.out 3) | ((with_reducible refine gate_callee (f := 71) rfl ?_);refine goesL_ (some 24) rfl rfl Try.func71 (by kernel_rfl) rfl #[.agg #[.int .u8 a1_0,.int .i64 a1_1,.int .i64 a1_2,.int .i64 a1_3]] rfl (by (try simp only [List.map_toArray,List.map_cons,List.map_nil]);first | done | rfl | (simp only [List.length_drop,List.length_take];rfl)) ?_;(with_reducible refine (model_Op_Span.calls k a1_0 a1_1 a1_2 a1_3 t775 t776 false _ A3.out).mono ?_);rintro e w43 ⟨rfl,hb⟩;refine ⟨_,rfl,?_⟩;have n0_ := Aside0.mk (blk_below (g := gb773) (o := .cells #[.int .u8 a1_0,.int .i64 a1_1,.int .i64 a1_2,.int .i64 a1_3] 78 (0,0)) (by (with_reducible repeat (first | refine blk_drewN ?_ _ | refine blk_drew ?_ | refine blk_alloc ?_ _));exact BK773.out) hb);have n1_ := Aside0.mk (blk_below (g := gb774) (o := .cells #[.int .i64 0,.bool false,.int .i64 0,.int .i64 0,.slice none 0 0,.bool false] 84 (0,0)) (by (with_reducible repeat (first | refine blk_drewN ?_ _ | refine blk_drew ?_ | refine blk_alloc ?_ _));exact BK774.out) hb);have n2_ := Aside0.mk (below_step (by repeat (first | (with_reducible first | exact HB.out | apply below_alloc | apply pw_below_drewN | apply below_drew1 | refine below_set ?_ GE773.out | refine below_set ?_ GE774.out) | exact HB.out)) hb);clear BK773;clear BK774;clear HB;have BK773 := n0_;have BK774 := n1_;have HB := n2_;clear n0_ n1_ n2_;(try clear hb);(try clear hb2);(try clear hk);(try clear hi);have hcz44_0 : w43.cell? ⟨gb773,0,none⟩ = some (.int .u8 a1_0) := (blk_cell BK773.out 0).trans rfl;have hcz44_1 : w43.cell? ⟨gb773,1,none⟩ = some (.int .i64 a1_1) := (blk_cell BK773.out 1).trans rfl;have hcz44_2 : w43.cell? ⟨gb773,2,none⟩ = some (.int .i64 a1_2) := (blk_cell BK773.out 2).trans rfl;have hcz44_3 : w43.cell? ⟨gb773,3,none⟩ = some (.int .i64 a1_3) := (blk_cell BK773.out 3).trans rfl;have hfz44_0 := blk_frozen BK773.out 0;have hfz44_1 := blk_frozen BK773.out 1;have hfz44_2 := blk_frozen BK773.out 2;have hfz44_3 := blk_frozen BK773.out 3) | ((with_reducible refine gate_callee (f := 68) rfl ?_);refine goesL_ (some 61) rfl rfl Try.func68 (by kernel_rfl) rfl #[.slice A0 l0.length c0,.int .i64 a1_1,.int .i64 a1_3] rfl (by (try simp only [List.map_toArray,List.map_cons,List.map_nil]);first | done | rfl | (simp only [List.length_drop,List.length_take];rfl)) ?_;(with_reducible refine (leaf_Leaf_Put.calls _ _ l0 a1_1 a1_3 t797 t798 t799 _ ?side1 ?side2 A38.out).mono ?_);(case side1 => repeat (first | exact (Kd.C_below HR0.out HB.out) | (with_reducible refine Kd.C_alloc ?_ _) | (with_reducible refine Kd.C_drewN ?_ _) | (with_reducible refine Kd.C_drew ?_)));(case side2 => exact HC0.out);rintro e w45 ⟨v800,rfl,ho0,hb⟩;refine ⟨_,rfl,?_⟩;have n0_ := Aside0.mk (Kd.R_lower ho0 (below_size (by repeat (first | (with_reducible first | exact HB.out | apply below_alloc | apply pw_below_drewN | apply below_drew1 | refine below_set ?_ GE773.out | refine below_set ?_ GE774.out) | exact HB.out))));have n1_ := Aside0.mk (blk_below (g := gb773) (o := .cells #[.int .u8 a1_0,.int .i64 a1_1,.int .i64 a1_2,.int .i64 a1_3] 78 (0,0)) (by (with_reducible repeat (first | refine blk_drewN ?_ _ | refine blk_drew ?_ | refine blk_alloc ?_ _));exact BK773.out) hb);have n2_ := Aside0.mk (blk_below (g := gb774) (o := .cells #[.int .i64 0,.bool false,.int .i64 0,.int .i64 0,.slice none 0 0,.bool false] 84 (0,0)) (by (with_reducible repeat (first | refine blk_drewN ?_ _ | refine blk_drew ?_ | refine blk_alloc ?_ _));exact BK774.out) hb);have n3_ := Aside0.mk (below_step (by repeat (first | (with_reducible first | exact HB.out | apply below_alloc | apply pw_below_drewN | apply below_drew1 | refine below_set ?_ GE773.out | refine below_set ?_ GE774.out) | exact HB.out)) hb);clear BK773;clear BK774;clear HB;have HO801 := n0_;have BK773 := n1_;have BK774 := n2_;have HB := n3_;clear n0_ n1_ n2_ n3_;(try clear hb);(try clear hb2);(try clear hk);(try clear hi);(try clear ho0);have hcz46_0 : w45.cell? ⟨gb774,0,none⟩ = some (.int .i64 0) := (blk_cell BK774.out 0).trans rfl;have hcz46_1 : w45.cell? ⟨gb774,1,none⟩ = some (.bool false) := (blk_cell BK774.out 1).trans rfl;have hcz46_2 : w45.cell? ⟨gb774,2,none⟩ = some (.int .i64 0) := (blk_cell BK774.out 2).trans rfl;have hcz46_3 : w45.cell? ⟨gb774,3,none⟩ = some (.int .i64 0) := (blk_cell BK774.out 3).trans rfl;have hcz46_4 : w45.cell? ⟨gb774,4,none⟩ = some (.slice none 0 0) := (blk_cell BK774.out 4).trans rfl;have hcz46_5 : w45.cell? ⟨gb774,5,none⟩ = some (.bool false) := (blk_cell BK774.out 5).trans rfl;have hfz46_0 := blk_frozen BK774.out 0;have hfz46_1 := blk_frozen BK774.out 1;have hfz46_2 := blk_frozen BK774.out 2;have hfz46_3 := blk_frozen BK774.out 3;have hfz46_4 := blk_frozen BK774.out 4;have hfz46_5 := blk_frozen BK774.out 5))
        refine bodyPost_ret (results_tc rfl _ _ gb774 84 #[.int .i64 0,.bool t799,.int .i64 0,.int .i64 t798,.slice none 0 0,.bool false] (0,0) _ rfl (by (with_reducible repeat (first | refine blk_drewN ?_ _ | refine blk_drew ?_ | refine blk_alloc ?_ _));refine blk_put (cs := #[.int .i64 0,.bool t799,.int .i64 0,.int .i64 t798,.slice none 0 0,.bool false]) ?_ 5 _ rfl;(with_reducible repeat (first | refine blk_drewN ?_ _ | refine blk_drew ?_ | refine blk_alloc ?_ _));refine blk_put (cs := #[.int .i64 0,.bool t799,.int .i64 0,.int .i64 t798,.slice none 0 0,.bool false]) ?_ 4 _ rfl;(with_reducible repeat (first | refine blk_drewN ?_ _ | refine blk_drew ?_ | refine blk_alloc ?_ _));refine blk_put (cs := #[.int .i64 0,.bool t799,.int .i64 0,.int .i64 0,.slice none 0 0,.bool false]) ?_ 3 _ rfl;(with_reducible repeat (first | refine blk_drewN ?_ _ | refine blk_drew ?_ | refine blk_alloc ?_ _));refine blk_put (cs := #[.int .i64 0,.bool t799,.int .i64 0,.int .i64 0,.slice none 0 0,.bool false]) ?_ 2 _ rfl;(with_reducible repeat (first | refine blk_drewN ?_ _ | refine blk_drew ?_ | refine blk_alloc ?_ _));refine blk_put (cs := #[.int .i64 0,.bool false,.int .i64 0,.int .i64 0,.slice none 0 0,.bool false]) ?_ 1 _ rfl;(with_reducible repeat (first | refine blk_drewN ?_ _ | refine blk_drew ?_ | refine blk_alloc ?_ _));refine blk_put (cs := #[.int .i64 0,.bool false,.int .i64 0,.int .i64 0,.slice none 0 0,.bool false]) ?_ 0 _ rfl;(with_reducible repeat (first | refine blk_drewN ?_ _ | refine blk_drew ?_ | refine blk_alloc ?_ _));exact BK774.out) Try.underlying84 rfl (by kernel_rfl)) rfl ?_
        exact ⟨_,_,by first | rfl | (simp [errW_none,errW_some] <;> rfl) | (simp [*,errW_none,errW_some] <;> rfl),by (with_reducible repeat (first | apply Kd.R_alloc | apply Kd.R_drewN | apply Kd.R_drew));exact Kd.R_mono (Kd.R_far (p := ⟨gb774,5,none⟩) (Kd.R_far (p := ⟨gb774,4,none⟩) (Kd.R_far (p := ⟨gb774,3,none⟩) (Kd.R_far (p := ⟨gb774,2,none⟩) (Kd.R_far (p := ⟨gb774,1,none⟩) (Kd.R_far (p := ⟨gb774,0,none⟩) (Kd.R_types HO801.out BK774.out (by decide)) (fun _ hk => hk.2) (.int .i64 0)) (fun _ hk => hk.2) (.bool t799)) (fun _ hk => hk.2) (.int .i64 0)) (fun _ hk => hk.2) (.int .i64 t798)) (fun _ hk => hk.2) (.slice none 0 0)) (fun _ hk => hk.2) (.bool false)) (fun _ hk => (by simp [Value.ownBlock])),by first | exact Kd.R_nil _ _ _ _ _ | exact Kd.N_nil _ _ _ _ _ | exact Kd.V_nil _ _ _ _ _ | exact Kd.Q_nil _ _ _ _ _ | exact Kd.S_nil _ _ _ _ _,by repeat (first | (with_reducible first | exact HB.out | apply below_alloc | apply pw_below_drewN | apply below_drew1 | refine below_set ?_ GE773.out | refine below_set ?_ GE774.out) | exact HB.out)⟩
      · rw [if_neg c37] at H
        have c37b0 : (a1_0 == 1) = false := beq_eq_false_iff_ne.mpr c37
        have c37b1 : (a1_0 != 1) = true := bne_iff_ne.mpr c37
        by_cases c47 : a1_0 = 2
        · rw [if_pos c47] at H
          have c47b0 : (a1_0 == 2) = true := beq_iff_eq.mpr c47
          have c47b1 : (a1_0 != 2) = false := bne_eq_false_iff_eq.mpr c47
          clear c47
          replace H := Option.bind_eq_some_iff.mp H
          obtain ⟨⟨t802,t803⟩,A480,H⟩ := H
          replace H : (if t803 = true then ((leaf_Pair_99.f l0).bind fun t804 => (some (t804,0,true,0,t802,([] : List (S40)),false))) else ((leaf_Leaf_Put.f l0 a1_1 a1_3).bind fun bt807 => (some (bt807.1,0,false,0,0,([] : List (S40)),false)))) = some (r1,r2,r3,r4,r5,r6,r7) := H
          have A48 := Aside0.mk A480
          clear A480
          by_cases c49 : t803 = true
          · subst c49
            have H1 : ((leaf_Pair_99.f l0).bind fun t804 => (some (t804,0,true,0,t802,([] : List (S40)),false))) = some (r1,r2,r3,r4,r5,r6,r7) := by rw [if_pos rfl] at H;exact H
            clear H
            have H := H1
            clear H1
            replace H := Option.bind_eq_some_iff.mp H
            obtain ⟨t804,A500,H⟩ := H
            replace H : (some (t804,0,true,0,t802,([] : List (S40)),false)) = some (r1,r2,r3,r4,r5,r6,r7) := H
            have A50 := Aside0.mk A500
            clear A500
            simp only [Option.some.injEq,Prod.mk.injEq] at H
            obtain ⟨rfl,rfl,rfl,rfl,rfl,rfl,rfl⟩ := H
            go_enter Try.func74,Try.ntmps74
            go_wp2_with (first | ((with_reducible refine gate_dst (N := 3) rfl ?_);refine box_event ?hg (N := 3) ?hd (cs := #[.int .u8 a1_0,.int .i64 a1_1,.int .i64 a1_2,.int .i64 a1_3]) (t := 78) ?hr ?_;(case hd => rfl);(case hg => rfl);(case hr => first | (go_simp;done) | (go_simp;rfl));intro gb773 hg w51 hbox hb;have n0_ := Aside0.mk (below_step (by repeat (first | (with_reducible first | exact HB.out | apply below_alloc | apply pw_below_drewN | apply below_drew1) | exact HB.out)) hb);have n1_ := Aside0.mk (hbox);have n2_ := Aside0.mk ((by rw [hg];exact (below_size (by repeat (first | (with_reducible first | exact HB.out | apply below_alloc | apply pw_below_drewN | apply below_drew1) | exact HB.out))) : w.heap.size ≤ gb773));have n3_ := Aside0.mk ((by rw [hg];exact (below_size (by repeat (first | (with_reducible first | exact HB.out | apply below_alloc | apply pw_below_drewN | apply below_drew1) | exact HB.out))) : w.heap.size ≤ gb773));clear HB;have HB := n0_;have BK773 := n1_;have GW773 := n2_;have GE773 := n3_;clear n0_ n1_ n2_ n3_;clear hb hbox hg) | ((with_reducible refine gate_dst (N := 5) rfl ?_);refine box_event ?hg (N := 5) ?hd (cs := #[.int .i64 0,.bool false,.int .i64 0,.int .i64 0,.slice none 0 0,.bool false]) (t := 84) ?hr ?_;(case hd => rfl);(case hg => rfl);(case hr => first | (go_simp;done) | (go_simp;rfl));intro gb774 hg w52 hbox hb;have n0_ := Aside0.mk (blk_below (g := gb773) (o := .cells #[.int .u8 a1_0,.int .i64 a1_1,.int .i64 a1_2,.int .i64 a1_3] 78 (0,0)) (by (with_reducible repeat (first | refine blk_drewN ?_ _ | refine blk_drew ?_ | refine blk_alloc ?_ _));exact BK773.out) hb);have n1_ := Aside0.mk (below_step (by repeat (first | (with_reducible first | exact HB.out | apply below_alloc | apply pw_below_drewN | apply below_drew1 | refine below_set ?_ GE773.out) | exact HB.out)) hb);have n2_ := Aside0.mk (hbox);have n3_ := Aside0.mk ((by rw [hg];exact (below_size (by repeat (first | (with_reducible first | exact HB.out | apply below_alloc | apply pw_below_drewN | apply below_drew1 | refine below_set ?_ GE773.out) | exact HB.out))) : w.heap.size ≤ gb774));have n4_ := Aside0.mk ((by rw [hg];exact (below_size (by repeat (first | (with_reducible first | exact HB.out | apply below_alloc | apply pw_below_drewN | apply below_drew1 | refine below_set ?_ GE773.out) | exact HB.out))) : w.heap.size ≤ gb774));have n5_ := Aside0.mk ((by rw [hg];exact Nat.ne_of_lt (blk_lt (g := gb773) (o := .cells #[.int .u8 a1_0,.int .i64 a1_1,.int .i64 a1_2,.int .i64 a1_3] 78 (0,0)) (by (with_reducible repeat (first | refine blk_drewN ?_ _ | refine blk_drew ?_ | refine blk_alloc ?_ _));exact BK773.out)) : gb773 ≠ gb774));have n6_ := Aside0.mk ((by rw [hg];exact Nat.ne_of_gt (blk_lt (g := gb773) (o := .cells #[.int .u8 a1_0,.int .i64 a1_1,.int .i64 a1_2,.int .i64 a1_3] 78 (0,0)) (by (with_reducible repeat (first | refine blk_drewN ?_ _ | refine blk_drew ?_ | refine blk_alloc ?_ _));exact BK773.out)) : gb774 ≠ gb773));clear BK773;clear HB;have BK773 := n0_;have HB := n1_;have BK774 := n2_;have GW774 := n3_;have GE774 := n4_;have NB773_774 := n5_;have NB774_773 := n6_;clear n0_ n1_ n2_ n3_ n4_ n5_ n6_;clear hb hbox hg;have hnb53 := NB773_774.out;have hnc53 := NB774_773.out;have hcz54_0 : w52.cell? ⟨gb773,0,none⟩ = some (.int .u8 a1_0) := (blk_cell BK773.out 0).trans rfl;have hcz54_1 : w52.cell? ⟨gb773,1,none⟩ = some (.int .i64 a1_1) := (blk_cell BK773.out 1).trans rfl;have hcz54_2 : w52.cell? ⟨gb773,2,none⟩ = some (.int .i64 a1_2) := (blk_cell BK773.out 2).trans rfl;have hcz54_3 : w52.cell? ⟨gb773,3,none⟩ = some (.int .i64 a1_3) := (blk_cell BK773.out 3).trans rfl;have hfz54_0 := blk_frozen BK773.out 0;have hfz54_1 := blk_frozen BK773.out 1;have hfz54_2 := blk_frozen BK773.out 2;have hfz54_3 := blk_frozen BK773.out 3) | ((with_reducible refine gate_callee (f := 71) rfl ?_);refine goesL_ (some 24) rfl rfl Try.func71 (by kernel_rfl) rfl #[.agg #[.int .u8 a1_0,.int .i64 a1_1,.int .i64 a1_2,.int .i64 a1_3]] rfl (by (try simp only [List.map_toArray,List.map_cons,List.map_nil]);first | done | rfl | (simp only [List.length_drop,List.length_take];rfl)) ?_;(with_reducible refine (model_Op_Span.calls k a1_0 a1_1 a1_2 a1_3 t775 t776 false _ A3.out).mono ?_);rintro e w55 ⟨rfl,hb⟩;refine ⟨_,rfl,?_⟩;have n0_ := Aside0.mk (blk_below (g := gb773) (o := .cells #[.int .u8 a1_0,.int .i64 a1_1,.int .i64 a1_2,.int .i64 a1_3] 78 (0,0)) (by (with_reducible repeat (first | refine blk_drewN ?_ _ | refine blk_drew ?_ | refine blk_alloc ?_ _));exact BK773.out) hb);have n1_ := Aside0.mk (blk_below (g := gb774) (o := .cells #[.int .i64 0,.bool false,.int .i64 0,.int .i64 0,.slice none 0 0,.bool false] 84 (0,0)) (by (with_reducible repeat (first | refine blk_drewN ?_ _ | refine blk_drew ?_ | refine blk_alloc ?_ _));exact BK774.out) hb);have n2_ := Aside0.mk (below_step (by repeat (first | (with_reducible first | exact HB.out | apply below_alloc | apply pw_below_drewN | apply below_drew1 | refine below_set ?_ GE773.out | refine below_set ?_ GE774.out) | exact HB.out)) hb);clear BK773;clear BK774;clear HB;have BK773 := n0_;have BK774 := n1_;have HB := n2_;clear n0_ n1_ n2_;(try clear hb);(try clear hb2);(try clear hk);(try clear hi);have hcz56_0 : w55.cell? ⟨gb773,0,none⟩ = some (.int .u8 a1_0) := (blk_cell BK773.out 0).trans rfl;have hcz56_1 : w55.cell? ⟨gb773,1,none⟩ = some (.int .i64 a1_1) := (blk_cell BK773.out 1).trans rfl;have hcz56_2 : w55.cell? ⟨gb773,2,none⟩ = some (.int .i64 a1_2) := (blk_cell BK773.out 2).trans rfl;have hcz56_3 : w55.cell? ⟨gb773,3,none⟩ = some (.int .i64 a1_3) := (blk_cell BK773.out 3).trans rfl;have hfz56_0 := blk_frozen BK773.out 0;have hfz56_1 := blk_frozen BK773.out 1;have hfz56_2 := blk_frozen BK773.out 2;have hfz56_3 := blk_frozen BK773.out 3) | ((with_reducible refine gate_callee (f := 45) rfl ?_);refine goesL_ (some 75) rfl rfl Try.func45 (by kernel_rfl) rfl #[.slice A0 l0.length c0,.int .i64 a1_1] rfl (by (try simp only [List.map_toArray,List.map_cons,List.map_nil]);first | done | rfl | (simp only [List.length_drop,List.length_take];rfl)) ?_;(with_reducible refine (leaf_Leaf_Get.calls _ _ l0 a1_1 t802 true _ ?side1 ?side2 A48.out).mono ?_);(case side1 => repeat (first | exact (Kd.C_below HR0.out HB.out) | (with_reducible refine Kd.C_alloc ?_ _) | (with_reducible refine Kd.C_drewN ?_ _) | (with_reducible refine Kd.C_drew ?_)));(case side2 => exact HC0.out);rintro e w57 ⟨rfl,hb⟩;refine ⟨_,rfl,?_⟩;have n0_ := Aside0.mk (blk_below (g := gb773) (o := .cells #[.int .u8 a1_0,.int .i64 a1_1,.int .i64 a1_2,.int .i64 a1_3] 78 (0,0)) (by (with_reducible repeat (first | refine blk_drewN ?_ _ | refine blk_drew ?_ | refine blk_alloc ?_ _));exact BK773.out) hb);have n1_ := Aside0.mk (blk_below (g := gb774) (o := .cells #[.int .i64 0,.bool false,.int .i64 0,.int .i64 0,.slice none 0 0,.bool false] 84 (0,0)) (by (with_reducible repeat (first | refine blk_drewN ?_ _ | refine blk_drew ?_ | refine blk_alloc ?_ _));exact BK774.out) hb);have n2_ := Aside0.mk (below_step (by repeat (first | (with_reducible first | exact HB.out | apply below_alloc | apply pw_below_drewN | apply below_drew1 | refine below_set ?_ GE773.out | refine below_set ?_ GE774.out) | exact HB.out)) hb);clear BK773;clear BK774;clear HB;have BK773 := n0_;have BK774 := n1_;have HB := n2_;clear n0_ n1_ n2_;(try clear hb);(try clear hb2);(try clear hk);(try clear hi)) | ((with_reducible refine gate_callee (f := 99) rfl ?_);refine goesL_ (some 80) rfl rfl Try.func99 (by kernel_rfl) rfl #[.slice A0 l0.length c0] rfl (by (try simp only [List.map_toArray,List.map_cons,List.map_nil]);first | done | rfl | (simp only [List.length_drop,List.length_take];rfl)) ?_;(with_reducible refine (leaf_Pair_99.calls _ _ l0 t804 _ ?side1 ?side2 A50.out).mono ?_);(case side1 => repeat (first | exact (Kd.C_below HR0.out HB.out) | (with_reducible refine Kd.C_alloc ?_ _) | (with_reducible refine Kd.C_drewN ?_ _) | (with_reducible refine Kd.C_drew ?_)));(case side2 => exact HC0.out);rintro e w58 ⟨v805,rfl,ho0,hb⟩;refine ⟨_,rfl,?_⟩;have n0_ := Aside0.mk (Kd.R_lower ho0 (below_size (by repeat (first | (with_reducible first | exact HB.out | apply below_alloc | apply pw_below_drewN | apply below_drew1 | refine below_set ?_ GE773.out | refine below_set ?_ GE774.out) | exact HB.out))));have n1_ := Aside0.mk (blk_below (g := gb773) (o := .cells #[.int .u8 a1_0,.int .i64 a1_1,.int .i64 a1_2,.int .i64 a1_3] 78 (0,0)) (by (with_reducible repeat (first | refine blk_drewN ?_ _ | refine blk_drew ?_ | refine blk_alloc ?_ _));exact BK773.out) hb);have n2_ := Aside0.mk (blk_below (g := gb774) (o := .cells #[.int .i64 0,.bool false,.int .i64 0,.int .i64 0,.slice none 0 0,.bool false] 84 (0,0)) (by (with_reducible repeat (first | refine blk_drewN ?_ _ | refine blk_drew ?_ | refine blk_alloc ?_ _));exact BK774.out) hb);have n3_ := Aside0.mk (below_step (by repeat (first | (with_reducible first | exact HB.out | apply below_alloc | apply pw_below_drewN | apply below_drew1 | refine below_set ?_ GE773.out | refine below_set ?_ GE774.out) | exact HB.out)) hb);clear BK773;clear BK774;clear HB;have HO806 := n0_;have BK773 := n1_;have BK774 := n2_;have HB := n3_;clear n0_ n1_ n2_ n3_;(try clear hb);(try clear hb2);(try clear hk);(try clear hi);(try clear ho0);have hcz59_0 : w58.cell? ⟨gb774,0,none⟩ = some (.int .i64 0) := (blk_cell BK774.out 0).trans rfl;have hcz59_1 : w58.cell? ⟨gb774,1,none⟩ = some (.bool false) := (blk_cell BK774.out 1).trans rfl;have hcz59_2 : w58.cell? ⟨gb774,2,none⟩ = some (.int .i64 0) := (blk_cell BK774.out 2).trans rfl;have hcz59_3 : w58.cell? ⟨gb774,3,none⟩ = some (.int .i64 0) := (blk_cell BK774.out 3).trans rfl;have hcz59_4 : w58.cell? ⟨gb774,4,none⟩ = some (.slice none 0 0) := (blk_cell BK774.out 4).trans rfl;have hcz59_5 : w58.cell? ⟨gb774,5,none⟩ = some (.bool false) := (blk_cell BK774.out 5).trans rfl;have hfz59_0 := blk_frozen BK774.out 0;have hfz59_1 := blk_frozen BK774.out 1;have hfz59_2 := blk_frozen BK774.out 2;have hfz59_3 := blk_frozen BK774.out 3;have hfz59_4 := blk_frozen BK774.out 4;have hfz59_5 := blk_frozen BK774.out 5))
            refine bodyPost_ret (results_tc rfl _ _ gb774 84 #[.int .i64 0,.bool true,.int .i64 0,.int .i64 t802,.slice none 0 0,.bool false] (0,0) _ rfl (by (with_reducible repeat (first | refine blk_drewN ?_ _ | refine blk_drew ?_ | refine blk_alloc ?_ _));refine blk_put (cs := #[.int .i64 0,.bool true,.int .i64 0,.int .i64 t802,.slice none 0 0,.bool false]) ?_ 5 _ rfl;(with_reducible repeat (first | refine blk_drewN ?_ _ | refine blk_drew ?_ | refine blk_alloc ?_ _));refine blk_put (cs := #[.int .i64 0,.bool true,.int .i64 0,.int .i64 t802,.slice none 0 0,.bool false]) ?_ 4 _ rfl;(with_reducible repeat (first | refine blk_drewN ?_ _ | refine blk_drew ?_ | refine blk_alloc ?_ _));refine blk_put (cs := #[.int .i64 0,.bool true,.int .i64 0,.int .i64 0,.slice none 0 0,.bool false]) ?_ 3 _ rfl;(with_reducible repeat (first | refine blk_drewN ?_ _ | refine blk_drew ?_ | refine blk_alloc ?_ _));refine blk_put (cs := #[.int .i64 0,.bool true,.int .i64 0,.int .i64 0,.slice none 0 0,.bool false]) ?_ 2 _ rfl;(with_reducible repeat (first | refine blk_drewN ?_ _ | refine blk_drew ?_ | refine blk_alloc ?_ _));refine blk_put (cs := #[.int .i64 0,.bool false,.int .i64 0,.int .i64 0,.slice none 0 0,.bool false]) ?_ 1 _ rfl;(with_reducible repeat (first | refine blk_drewN ?_ _ | refine blk_drew ?_ | refine blk_alloc ?_ _));refine blk_put (cs := #[.int .i64 0,.bool false,.int .i64 0,.int .i64 0,.slice none 0 0,.bool false]) ?_ 0 _ rfl;(with_reducible repeat (first | refine blk_drewN ?_ _ | refine blk_drew ?_ | refine blk_alloc ?_ _));exact BK774.out) Try.underlying84 rfl (by kernel_rfl)) rfl ?_
            exact ⟨_,_,by first | rfl | (simp [errW_none,errW_some] <;> rfl) | (simp [*,errW_none,errW_some] <;> rfl),by (with_reducible repeat (first | apply Kd.R_alloc | apply Kd.R_drewN | apply Kd.R_drew));exact Kd.R_mono (Kd.R_far (p := ⟨gb774,5,none⟩) (Kd.R_far (p := ⟨gb774,4,none⟩) (Kd.R_far (p := ⟨gb774,3,none⟩) (Kd.R_far (p := ⟨gb774,2,none⟩) (Kd.R_far (p := ⟨gb774,1,none⟩) (Kd.R_far (p := ⟨gb774,0,none⟩) (Kd.R_types HO806.out BK774.out (by decide)) (fun _ hk => hk.2) (.int .i64 0)) (fun _ hk => hk.2) (.bool true)) (fun _ hk => hk.2) (.int .i64 0)) (fun _ hk => hk.2) (.int .i64 t802)) (fun _ hk => hk.2) (.slice none 0 0)) (fun _ hk => hk.2) (.bool false)) (fun _ hk => (by simp [Value.ownBlock])),by first | exact Kd.R_nil _ _ _ _ _ | exact Kd.N_nil _ _ _ _ _ | exact Kd.V_nil _ _ _ _ _ | exact Kd.Q_nil _ _ _ _ _ | exact Kd.S_nil _ _ _ _ _,by repeat (first | (with_reducible first | exact HB.out | apply below_alloc | apply pw_below_drewN | apply below_drew1 | refine below_set ?_ GE773.out | refine below_set ?_ GE774.out) | exact HB.out)⟩
          · replace c49 := Bool.eq_false_iff.mpr c49
            subst c49
            have H1 : ((leaf_Leaf_Put.f l0 a1_1 a1_3).bind fun bt807 => (some (bt807.1,0,false,0,0,([] : List (S40)),false))) = some (r1,r2,r3,r4,r5,r6,r7) := by rw [if_neg (show ¬ (false = true) by decide)] at H;exact H
            clear H
            have H := H1
            clear H1
            replace H := Option.bind_eq_some_iff.mp H
            obtain ⟨⟨t807,t808,t809⟩,A600,H⟩ := H
            replace H : (some (t807,0,false,0,0,([] : List (S40)),false)) = some (r1,r2,r3,r4,r5,r6,r7) := H
            have A60 := Aside0.mk A600
            clear A600
            simp only [Option.some.injEq,Prod.mk.injEq] at H
            obtain ⟨rfl,rfl,rfl,rfl,rfl,rfl,rfl⟩ := H
            go_enter Try.func74,Try.ntmps74
            go_wp2_with (first | ((with_reducible refine gate_dst (N := 3) rfl ?_);refine box_event ?hg (N := 3) ?hd (cs := #[.int .u8 a1_0,.int .i64 a1_1,.int .i64 a1_2,.int .i64 a1_3]) (t := 78) ?hr ?_;(case hd => rfl);(case hg => rfl);(case hr => first | (go_simp;done) | (go_simp;rfl));intro gb773 hg w61 hbox hb;have n0_ := Aside0.mk (below_step (by repeat (first | (with_reducible first | exact HB.out | apply below_alloc | apply pw_below_drewN | apply below_drew1) | exact HB.out)) hb);have n1_ := Aside0.mk (hbox);have n2_ := Aside0.mk ((by rw [hg];exact (below_size (by repeat (first | (with_reducible first | exact HB.out | apply below_alloc | apply pw_below_drewN | apply below_drew1) | exact HB.out))) : w.heap.size ≤ gb773));have n3_ := Aside0.mk ((by rw [hg];exact (below_size (by repeat (first | (with_reducible first | exact HB.out | apply below_alloc | apply pw_below_drewN | apply below_drew1) | exact HB.out))) : w.heap.size ≤ gb773));clear HB;have HB := n0_;have BK773 := n1_;have GW773 := n2_;have GE773 := n3_;clear n0_ n1_ n2_ n3_;clear hb hbox hg) | ((with_reducible refine gate_dst (N := 5) rfl ?_);refine box_event ?hg (N := 5) ?hd (cs := #[.int .i64 0,.bool false,.int .i64 0,.int .i64 0,.slice none 0 0,.bool false]) (t := 84) ?hr ?_;(case hd => rfl);(case hg => rfl);(case hr => first | (go_simp;done) | (go_simp;rfl));intro gb774 hg w62 hbox hb;have n0_ := Aside0.mk (blk_below (g := gb773) (o := .cells #[.int .u8 a1_0,.int .i64 a1_1,.int .i64 a1_2,.int .i64 a1_3] 78 (0,0)) (by (with_reducible repeat (first | refine blk_drewN ?_ _ | refine blk_drew ?_ | refine blk_alloc ?_ _));exact BK773.out) hb);have n1_ := Aside0.mk (below_step (by repeat (first | (with_reducible first | exact HB.out | apply below_alloc | apply pw_below_drewN | apply below_drew1 | refine below_set ?_ GE773.out) | exact HB.out)) hb);have n2_ := Aside0.mk (hbox);have n3_ := Aside0.mk ((by rw [hg];exact (below_size (by repeat (first | (with_reducible first | exact HB.out | apply below_alloc | apply pw_below_drewN | apply below_drew1 | refine below_set ?_ GE773.out) | exact HB.out))) : w.heap.size ≤ gb774));have n4_ := Aside0.mk ((by rw [hg];exact (below_size (by repeat (first | (with_reducible first | exact HB.out | apply below_alloc | apply pw_below_drewN | apply below_drew1 | refine below_set ?_ GE773.out) | exact HB.out))) : w.heap.size ≤ gb774));have n5_ := Aside0.mk ((by rw [hg];exact Nat.ne_of_lt (blk_lt (g := gb773) (o := .cells #[.int .u8 a1_0,.int .i64 a1_1,.int .i64 a1_2,.int .i64 a1_3] 78 (0,0)) (by (with_reducible repeat (first | refine blk_drewN ?_ _ | refine blk_drew ?_ | refine blk_alloc ?_ _));exact BK773.out)) : gb773 ≠ gb774));have n6_ := Aside0.mk ((by rw [hg];exact Nat.ne_of_gt (blk_lt (g := gb773) (o := .cells #[.int .u8 a1_0,.int .i64 a1_1,.int .i64 a1_2,.int .i64 a1_3] 78 (0,0)) (by (with_reducible repeat (first | refine blk_drewN ?_ _ | refine blk_drew ?_ | refine blk_alloc ?_ _));exact BK773.out)) : gb774 ≠ gb773));clear BK773;clear HB;have BK773 := n0_;have HB := n1_;have BK774 := n2_;have GW774 := n3_;have GE774 := n4_;have NB773_774 := n5_;have NB774_773 := n6_;clear n0_ n1_ n2_ n3_ n4_ n5_ n6_;clear hb hbox hg;have hnb63 := NB773_774.out;have hnc63 := NB774_773.out;have hcz64_0 : w62.cell? ⟨gb773,0,none⟩ = some (.int .u8 a1_0) := (blk_cell BK773.out 0).trans rfl;have hcz64_1 : w62.cell? ⟨gb773,1,none⟩ = some (.int .i64 a1_1) := (blk_cell BK773.out 1).trans rfl;have hcz64_2 : w62.cell? ⟨gb773,2,none⟩ = some (.int .i64 a1_2) := (blk_cell BK773.out 2).trans rfl;have hcz64_3 : w62.cell? ⟨gb773,3,none⟩ = some (.int .i64 a1_3) := (blk_cell BK773.out 3).trans rfl;have hfz64_0 := blk_frozen BK773.out 0;have hfz64_1 := blk_frozen BK773.out 1;have hfz64_2 := blk_frozen BK773.out 2;have hfz64_3 := blk_frozen BK773.out 3) | ((with_reducible refine gate_callee (f := 71) rfl ?_);refine goesL_ (some 24) rfl rfl Try.func71 (by kernel_rfl) rfl #[.agg #[.int .u8 a1_0,.int .i64 a1_1,.int .i64 a1_2,.int .i64 a1_3]] rfl (by (try simp only [List.map_toArray,List.map_cons,List.map_nil]);first | done | rfl | (simp only [List.length_drop,List.length_take];rfl)) ?_;(with_reducible refine (model_Op_Span.calls k a1_0 a1_1 a1_2 a1_3 t775 t776 false _ A3.out).mono ?_);rintro e w65 ⟨rfl,hb⟩;refine ⟨_,rfl,?_⟩;have n0_ := Aside0.mk (blk_below (g := gb773) (o := .cells #[.int .u8 a1_0,.int .i64 a1_1,.int .i64 a1_2,.int .i64 a1_3] 78 (0,0)) (by (with_reducible repeat (first | refine blk_drewN ?_ _ | refine blk_drew ?_ | refine blk_alloc ?_ _));exact BK773.out) hb);have n1_ := Aside0.mk (blk_below (g := gb774) (o := .cells #[.int .i64 0,.bool false,.int .i64 0,.int .i64 0,.slice none 0 0,.bool false] 84 (0,0)) (by (with_reducible repeat (first | refine blk_drewN ?_ _ | refine blk_drew ?_ | refine blk_alloc ?_ _));exact BK774.out) hb);have n2_ := Aside0.mk (below_step (by repeat (first | (with_reducible first | exact HB.out | apply below_alloc | apply pw_below_drewN | apply below_drew1 | refine below_set ?_ GE773.out | refine below_set ?_ GE774.out) | exact HB.out)) hb);clear BK773;clear BK774;clear HB;have BK773 := n0_;have BK774 := n1_;have HB := n2_;clear n0_ n1_ n2_;(try clear hb);(try clear hb2);(try clear hk);(try clear hi);have hcz66_0 : w65.cell? ⟨gb773,0,none⟩ = some (.int .u8 a1_0) := (blk_cell BK773.out 0).trans rfl;have hcz66_1 : w65.cell? ⟨gb773,1,none⟩ = some (.int .i64 a1_1) := (blk_cell BK773.out 1).trans rfl;have hcz66_2 : w65.cell? ⟨gb773,2,none⟩ = some (.int .i64 a1_2) := (blk_cell BK773.out 2).trans rfl;have hcz66_3 : w65.cell? ⟨gb773,3,none⟩ = some (.int .i64 a1_3) := (blk_cell BK773.out 3).trans rfl;have hfz66_0 := blk_frozen BK773.out 0;have hfz66_1 := blk_frozen BK773.out 1;have hfz66_2 := blk_frozen BK773.out 2;have hfz66_3 := blk_frozen BK773.out 3) | ((with_reducible refine gate_callee (f := 45) rfl ?_);refine goesL_ (some 75) rfl rfl Try.func45 (by kernel_rfl) rfl #[.slice A0 l0.length c0,.int .i64 a1_1] rfl (by (try simp only [List.map_toArray,List.map_cons,List.map_nil]);first | done | rfl | (simp only [List.length_drop,List.length_take];rfl)) ?_;(with_reducible refine (leaf_Leaf_Get.calls _ _ l0 a1_1 t802 false _ ?side1 ?side2 A48.out).mono ?_);(case side1 => repeat (first | exact (Kd.C_below HR0.out HB.out) | (with_reducible refine Kd.C_alloc ?_ _) | (with_reducible refine Kd.C_drewN ?_ _) | (with_reducible refine Kd.C_drew ?_)));(case side2 => exact HC0.out);rintro e w67 ⟨rfl,hb⟩;refine ⟨_,rfl,?_⟩;have n0_ := Aside0.mk (blk_below (g := gb773) (o := .cells #[.int .u8 a1_0,.int .i64 a1_1,.int .i64 a1_2,.int .i64 a1_3] 78 (0,0)) (by (with_reducible repeat (first | refine blk_drewN ?_ _ | refine blk_drew ?_ | refine blk_alloc ?_ _));exact BK773.out) hb);have n1_ := Aside0.mk (blk_below (g := gb774) (o := .cells #[.int .i64 0,.bool false,.int .i64 0,.int .i64 0,.slice none 0 0,.bool false] 84 (0,0)) (by (with_reducible repeat (first | refine blk_drewN ?_ _ | refine blk_drew ?_ | refine blk_alloc ?_ _));exact BK774.out) hb);have n2_ := Aside0.mk (below_step (by repeat (first | (with_reducible first | exact HB.out | apply below_alloc | apply pw_below_drewN | apply below_drew1 | refine below_set ?_ GE773.out | refine below_set ?_ GE774.out) | exact HB.out)) hb);clear BK773;clear BK774;clear HB;have BK773 := n0_;have BK774 := n1_;have HB := n2_;clear n0_ n1_ n2_;(try clear hb);(try clear hb2);(try clear hk);(try clear hi);have hcz68_0 : w67.cell? ⟨gb773,0,none⟩ = some (.int .u8 a1_0) := (blk_cell BK773.out 0).trans rfl;have hcz68_1 : w67.cell? ⟨gb773,1,none⟩ = some (.int .i64 a1_1) := (blk_cell BK773.out 1).trans rfl;have hcz68_2 : w67.cell? ⟨gb773,2,none⟩ = some (.int .i64 a1_2) := (blk_cell BK773.out 2).trans rfl;have hcz68_3 : w67.cell? ⟨gb773,3,none⟩ = some (.int .i64 a1_3) := (blk_cell BK773.out 3).trans rfl;have hfz68_0 := blk_frozen BK773.out 0;have hfz68_1 := blk_frozen BK773.out 1;have hfz68_2 := blk_frozen BK773.out 2;have hfz68_3 := blk_frozen BK773.out 3) | ((with_reducible refine gate_callee (f := 68) rfl ?_);refine goesL_ (some 89) rfl rfl Try.func68 (by kernel_rfl) rfl #[.slice A0 l0.length c0,.int .i64 a1_1,.int .i64 a1_3] rfl (by (try simp only [List.map_toArray,List.map_cons,List.map_nil]);first | done | rfl | (simp only [List.length_drop,List.length_take];rfl)) ?_;(with_reducible refine (leaf_Leaf_Put.calls _ _ l0 a1_1 a1_3 t807 t808 t809 _ ?side1 ?side2 A60.out).mono ?_);(case side1 => repeat (first | exact (Kd.C_below HR0.out HB.out) | (with_reducible refine Kd.C_alloc ?_ _) | (with_reducible refine Kd.C_drewN ?_ _) | (with_reducible refine Kd.C_drew ?_)));(case side2 => exact HC0.out);rintro e w69 ⟨v810,rfl,ho0,hb⟩;refine ⟨_,rfl,?_⟩;have n0_ := Aside0.mk (Kd.R_lower ho0 (below_size (by repeat (first | (with_reducible first | exact HB.out | apply below_alloc | apply pw_below_drewN | apply below_drew1 | refine below_set ?_ GE773.out | refine below_set ?_ GE774.out) | exact HB.out))));have n1_ := Aside0.mk (blk_below (g := gb773) (o := .cells #[.int .u8 a1_0,.int .i64 a1_1,.int .i64 a1_2,.int .i64 a1_3] 78 (0,0)) (by (with_reducible repeat (first | refine blk_drewN ?_ _ | refine blk_drew ?_ | refine blk_alloc ?_ _));exact BK773.out) hb);have n2_ := Aside0.mk (blk_below (g := gb774) (o := .cells #[.int .i64 0,.bool false,.int .i64 0,.int .i64 0,.slice none 0 0,.bool false] 84 (0,0)) (by (with_reducible repeat (first | refine blk_drewN ?_ _ | refine blk_drew ?_ | refine blk_alloc ?_ _));exact BK774.out) hb);have n3_ := Aside0.mk (below_step (by repeat (first | (with_reducible first | exact HB.out | apply below_alloc | apply pw_below_drewN | apply below_drew1 | refine below_set ?_ GE773.out | refine below_set ?_ GE774.out) | exact HB.out)) hb);clear BK773;clear BK774;clear HB;have HO811 := n0_;have BK773 := n1_;have BK774 := n2_;have HB := n3_;clear n0_ n1_ n2_ n3_;(try clear hb);(try clear hb2);(try clear hk);(try clear hi);(try clear ho0);have hcz70_0 : w69.cell? ⟨gb774,0,none⟩ = some (.int .i64 0) := (blk_cell BK774.out 0).trans rfl;have hcz70_1 : w69.cell? ⟨gb774,1,none⟩ = some (.bool false) := (blk_cell BK774.out 1).trans rfl;have hcz70_2 : w69.cell? ⟨gb774,2,none⟩ = some (.int .i64 0) := (blk_cell BK774.out 2).trans rfl;have hcz70_3 : w69.cell? ⟨gb774,3,none⟩ = some (.int .i64 0) := (blk_cell BK774.out 3).trans rfl;have hcz70_4 : w69.cell? ⟨gb774,4,none⟩ = some (.slice none 0 0) := (blk_cell BK774.out 4).trans rfl;have hcz70_5 : w69.cell? ⟨gb774,5,none⟩ = some (.bool false) := (blk_cell BK774.out 5).trans rfl;have hfz70_0 := blk_frozen BK774.out 0;have hfz70_1 := blk_frozen BK774.out 1;have hfz70_2 := blk_frozen BK774.out 2;have hfz70_3 := blk_frozen BK774.out 3;have hfz70_4 := blk_frozen BK774.out 4;have hfz70_5 := blk_frozen BK774.out 5))
            refine bodyPost_ret (results_tc rfl _ _ gb774 84 #[.int .i64 0,.bool false,.int .i64 0,.int .i64 0,.slice none 0 0,.bool false] (0,0) _ rfl (by (with_reducible repeat (first | refine blk_drewN ?_ _ | refine blk_drew ?_ | refine blk_alloc ?_ _));refine blk_put (cs := #[.int .i64 0,.bool false,.int .i64 0,.int .i64 0,.slice none 0 0,.bool false]) ?_ 5 _ rfl;(with_reducible repeat (first | refine blk_drewN ?_ _ | refine blk_drew ?_ | refine blk_alloc ?_ _));refine blk_put (cs := #[.int .i64 0,.bool false,.int .i64 0,.int .i64 0,.slice none 0 0,.bool false]) ?_ 4 _ rfl;(with_reducible repeat (first | refine blk_drewN ?_ _ | refine blk_drew ?_ | refine blk_alloc ?_ _));refine blk_put (cs := #[.int .i64 0,.bool false,.int .i64 0,.int .i64 0,.slice none 0 0,.bool false]) ?_ 3 _ rfl;(with_reducible repeat (first | refine blk_drewN ?_ _ | refine blk_drew ?_ | refine blk_alloc ?_ _));refine blk_put (cs := #[.int .i64 0,.bool false,.int .i64 0,.int .i64 0,.slice none 0 0,.bool false]) ?_ 2 _ rfl;(with_reducible repeat (first | refine blk_drewN ?_ _ | refine blk_drew ?_ | refine blk_alloc ?_ _));refine blk_put (cs := #[.int .i64 0,.bool false,.int .i64 0,.int .i64 0,.slice none 0 0,.bool false]) ?_ 1 _ rfl;(with_reducible repeat (first | refine blk_drewN ?_ _ | refine blk_drew ?_ | refine blk_alloc ?_ _));refine blk_put (cs := #[.int .i64 0,.bool false,.int .i64 0,.int .i64 0,.slice none 0 0,.bool false]) ?_ 0 _ rfl;(with_reducible repeat (first | refine blk_drewN ?_ _ | refine blk_drew ?_ | refine blk_alloc ?_ _));exact BK774.out) Try.underlying84 rfl (by kernel_rfl)) rfl ?_
            exact ⟨_,_,by first | rfl | (simp [errW_none,errW_some] <;> rfl) | (simp [*,errW_none,errW_some] <;> rfl),by (with_reducible repeat (first | apply Kd.R_alloc | apply Kd.R_drewN | apply Kd.R_drew));exact Kd.R_mono (Kd.R_far (p := ⟨gb774,5,none⟩) (Kd.R_far (p := ⟨gb774,4,none⟩) (Kd.R_far (p := ⟨gb774,3,none⟩) (Kd.R_far (p := ⟨gb774,2,none⟩) (Kd.R_far (p := ⟨gb774,1,none⟩) (Kd.R_far (p := ⟨gb774,0,none⟩) (Kd.R_types HO811.out BK774.out (by decide)) (fun _ hk => hk.2) (.int .i64 0)) (fun _ hk => hk.2) (.bool false)) (fun _ hk => hk.2) (.int .i64 0)) (fun _ hk => hk.2) (.int .i64 0)) (fun _ hk => hk.2) (.slice none 0 0)) (fun _ hk => hk.2) (.bool false)) (fun _ hk => (by simp [Value.ownBlock])),by first | exact Kd.R_nil _ _ _ _ _ | exact Kd.N_nil _ _ _ _ _ | exact Kd.V_nil _ _ _ _ _ | exact Kd.Q_nil _ _ _ _ _ | exact Kd.S_nil _ _ _ _ _,by repeat (first | (with_reducible first | exact HB.out | apply below_alloc | apply pw_below_drewN | apply below_drew1 | refine below_set ?_ GE773.out | refine below_set ?_ GE774.out) | exact HB.out)⟩
        · rw [if_neg c47] at H
          have c47b0 : (a1_0 == 2) = false := beq_eq_false_iff_ne.mpr c47
          have c47b1 : (a1_0 != 2) = true := bne_iff_ne.mpr c47
          by_cases c71 : a1_0 = 3
          · rw [if_pos c71] at H
            have c71b0 : (a1_0 == 3) = true := beq_iff_eq.mpr c71
            have c71b1 : (a1_0 != 3) = false := bne_eq_false_iff_eq.mpr c71
            clear c71
            replace H := Option.bind_eq_some_iff.mp H
            obtain ⟨⟨t812,t813,t814⟩,A720,H⟩ := H
            replace H : (some (t812,0,t814,0,t813,([] : List (S40)),false)) = some (r1,r2,r3,r4,r5,r6,r7) := H
            have A72 := Aside0.mk A720
            clear A720
            simp only [Option.some.injEq,Prod.mk.injEq] at H
            obtain ⟨rfl,rfl,rfl,rfl,rfl,rfl,rfl⟩ := H
            go_enter Try.func74,Try.ntmps74
            go_wp2_with (first | ((with_reducible refine gate_dst (N := 3) rfl ?_);refine box_event ?hg (N := 3) ?hd (cs := #[.int .u8 a1_0,.int .i64 a1_1,.int .i64 a1_2,.int .i64 a1_3]) (t := 78) ?hr ?_;(case hd => rfl);(case hg => rfl);(case hr => first | (go_simp;done) | (go_simp;rfl));intro gb773 hg w73 hbox hb;have n0_ := Aside0.mk (below_step (by repeat (first | (with_reducible first | exact HB.out | apply below_alloc | apply pw_below_drewN | apply below_drew1) | exact HB.out)) hb);have n1_ := Aside0.mk (hbox);have n2_ := Aside0.mk ((by rw [hg];exact (below_size (by repeat (first | (with_reducible first | exact HB.out | apply below_alloc | apply pw_below_drewN | apply below_drew1) | exact HB.out))) : w.heap.size ≤ gb773));have n3_ := Aside0.mk ((by rw [hg];exact (below_size (by repeat (first | (with_reducible first | exact HB.out | apply below_alloc | apply pw_below_drewN | apply below_drew1) | exact HB.out))) : w.heap.size ≤ gb773));clear HB;have HB := n0_;have BK773 := n1_;have GW773 := n2_;have GE773 := n3_;clear n0_ n1_ n2_ n3_;clear hb hbox hg) | ((with_reducible refine gate_dst (N := 5) rfl ?_);refine box_event ?hg (N := 5) ?hd (cs := #[.int .i64 0,.bool false,.int .i64 0,.int .i64 0,.slice none 0 0,.bool false]) (t := 84) ?hr ?_;(case hd => rfl);(case hg => rfl);(case hr => first | (go_simp;done) | (go_simp;rfl));intro gb774 hg w74 hbox hb;have n0_ := Aside0.mk (blk_below (g := gb773) (o := .cells #[.int .u8 a1_0,.int .i64 a1_1,.int .i64 a1_2,.int .i64 a1_3] 78 (0,0)) (by (with_reducible repeat (first | refine blk_drewN ?_ _ | refine blk_drew ?_ | refine blk_alloc ?_ _));exact BK773.out) hb);have n1_ := Aside0.mk (below_step (by repeat (first | (with_reducible first | exact HB.out | apply below_alloc | apply pw_below_drewN | apply below_drew1 | refine below_set ?_ GE773.out) | exact HB.out)) hb);have n2_ := Aside0.mk (hbox);have n3_ := Aside0.mk ((by rw [hg];exact (below_size (by repeat (first | (with_reducible first | exact HB.out | apply below_alloc | apply pw_below_drewN | apply below_drew1 | refine below_set ?_ GE773.out) | exact HB.out))) : w.heap.size ≤ gb774));have n4_ := Aside0.mk ((by rw [hg];exact (below_size (by repeat (first | (with_reducible first | exact HB.out | apply below_alloc | apply pw_below_drewN | apply below_drew1 | refine below_set ?_ GE773.out) | exact HB.out))) : w.heap.size ≤ gb774));have n5_ := Aside0.mk ((by rw [hg];exact Nat.ne_of_lt (blk_lt (g := gb773) (o := .cells #[.int .u8 a1_0,.int .i64 a1_1,.int .i64 a1_2,.int .i64 a1_3] 78 (0,0)) (by (with_reducible repeat (first | refine blk_drewN ?_ _ | refine blk_drew ?_ | refine blk_alloc ?_ _));exact BK773.out)) : gb773 ≠ gb774));have n6_ := Aside0.mk ((by rw [hg];exact Nat.ne_of_gt (blk_lt (g := gb773) (o := .cells #[.int .u8 a1_0,.int .i64 a1_1,.int .i64 a1_2,.int .i64 a1_3] 78 (0,0)) (by (with_reducible repeat (first | refine blk_drewN ?_ _ | refine blk_drew ?_ | refine blk_alloc ?_ _));exact BK773.out)) : gb774 ≠ gb773));clear BK773;clear HB;have BK773 := n0_;have HB := n1_;have BK774 := n2_;have GW774 := n3_;have GE774 := n4_;have NB773_774 := n5_;have NB774_773 := n6_;clear n0_ n1_ n2_ n3_ n4_ n5_ n6_;clear hb hbox hg;have hnb75 := NB773_774.out;have hnc75 := NB774_773.out;have hcz76_0 : w74.cell? ⟨gb773,0,none⟩ = some (.int .u8 a1_0) := (blk_cell BK773.out 0).trans rfl;have hcz76_1 : w74.cell? ⟨gb773,1,none⟩ = some (.int .i64 a1_1) := (blk_cell BK773.out 1).trans rfl;have hcz76_2 : w74.cell? ⟨gb773,2,none⟩ = some (.int .i64 a1_2) := (blk_cell BK773.out 2).trans rfl;have hcz76_3 : w74.cell? ⟨gb773,3,none⟩ = some (.int .i64 a1_3) := (blk_cell BK773.out 3).trans rfl;have hfz76_0 := blk_frozen BK773.out 0;have hfz76_1 := blk_frozen BK773.out 1;have hfz76_2 := blk_frozen BK773.out 2;have hfz76_3 := blk_frozen BK773.out 3) | ((with_reducible refine gate_callee (f := 71) rfl ?_);refine goesL_ (some 24) rfl rfl Try.func71 (by kernel_rfl) rfl #[.agg #[.int .u8 a1_0,.int .i64 a1_1,.int .i64 a1_2,.int .i64 a1_3]] rfl (by (try simp only [List.map_toArray,List.map_cons,List.map_nil]);first | done | rfl | (simp only [List.length_drop,List.length_take];rfl)) ?_;(with_reducible refine (model_Op_Span.calls k a1_0 a1_1 a1_2 a1_3 t775 t776 false _ A3.out).mono ?_);rintro e w77 ⟨rfl,hb⟩;refine ⟨_,rfl,?_⟩;have n0_ := Aside0.mk (blk_below (g := gb773) (o := .cells #[.int .u8 a1_0,.int .i64 a1_1,.int .i64 a1_2,.int .i64 a1_3] 78 (0,0)) (by (with_reducible repeat (first | refine blk_drewN ?_ _ | refine blk_drew ?_ | refine blk_alloc ?_ _));exact BK773.out) hb);have n1_ := Aside0.mk (blk_below (g := gb774) (o := .cells #[.int .i64 0,.bool false,.int .i64 0,.int .i64 0,.slice none 0 0,.bool false] 84 (0,0)) (by (with_reducible repeat (first | refine blk_drewN ?_ _ | refine blk_drew ?_ | refine blk_alloc ?_ _));exact BK774.out) hb);have n2_ := Aside0.mk (below_step (by repeat (first | (with_reducible first | exact HB.out | apply below_alloc | apply pw_below_drewN | apply below_drew1 | refine below_set ?_ GE773.out | refine below_set ?_ GE774.out) | exact HB.out)) hb);clear BK773;clear BK774;clear HB;have BK773 := n0_;have BK774 := n1_;have HB := n2_;clear n0_ n1_ n2_;(try clear hb);(try clear hb2);(try clear hk);(try clear hi);have hcz78_0 : w77.cell? ⟨gb773,0,none⟩ = some (.int .u8 a1_0) := (blk_cell BK773.out 0).trans rfl;have hcz78_1 : w77.cell? ⟨gb773,1,none⟩ = some (.int .i64 a1_1) := (blk_cell BK773.out 1).trans rfl;have hcz78_2 : w77.cell? ⟨gb773,2,none⟩ = some (.int .i64 a1_2) := (blk_cell BK773.out 2).trans rfl;have hcz78_3 : w77.cell? ⟨gb773,3,none⟩ = some (.int .i64 a1_3) := (blk_cell BK773.out 3).trans rfl;have hfz78_0 := blk_frozen BK773.out 0;have hfz78_1 := blk_frozen BK773.out 1;have hfz78_2 := blk_frozen BK773.out 2;have hfz78_3 := blk_frozen BK773.out 3) | ((with_reducible refine gate_callee (f := 66) rfl ?_);refine goesL_ (some 101) rfl rfl Try.func66 (by kernel_rfl) rfl #[.slice A0 l0.length c0,.int .i64 a1_1] rfl (by (try simp only [List.map_toArray,List.map_cons,List.map_nil]);first | done | rfl | (simp only [List.length_drop,List.length_take];rfl)) ?_;(with_reducible refine (leaf_Leaf_Cut.calls _ _ l0 a1_1 t812 t813 t814 _ ?side1 ?side2 A72.out).mono ?_);(case side1 => repeat (first | exact (Kd.C_below HR0.out HB.out) | (with_reducible refine Kd.C_alloc ?_ _) | (with_reducible refine Kd.C_drewN ?_ _) | (with_reducible refine Kd.C_drew ?_)));(case side2 => exact HC0.out);rintro e w79 ⟨v815,rfl,ho0,hb⟩;refine ⟨_,rfl,?_⟩;have n0_ := Aside0.mk (Kd.R_lower ho0 (below_size (by repeat (first | (with_reducible first | exact HB.out | apply below_alloc | apply pw_below_drewN | apply below_drew1 | refine below_set ?_ GE773.out | refine below_set ?_ GE774.out) | exact HB.out))));have n1_ := Aside0.mk (blk_below (g := gb773) (o := .cells #[.int .u8 a1_0,.int .i64 a1_1,.int .i64 a1_2,.int .i64 a1_3] 78 (0,0)) (by (with_reducible repeat (first | refine blk_drewN ?_ _ | refine blk_drew ?_ | refine blk_alloc ?_ _));exact BK773.out) hb);have n2_ := Aside0.mk (blk_below (g := gb774) (o := .cells #[.int .i64 0,.bool false,.int .i64 0,.int .i64 0,.slice none 0 0,.bool false] 84 (0,0)) (by (with_reducible repeat (first | refine blk_drewN ?_ _ | refine blk_drew ?_ | refine blk_alloc ?_ _));exact BK774.out) hb);have n3_ := Aside0.mk (below_step (by repeat (first | (with_reducible first | exact HB.out | apply below_alloc | apply pw_below_drewN | apply below_drew1 | refine below_set ?_ GE773.out | refine below_set ?_ GE774.out) | exact HB.out)) hb);clear BK773;clear BK774;clear HB;have HO816 := n0_;have BK773 := n1_;have BK774 := n2_;have HB := n3_;clear n0_ n1_ n2_ n3_;(try clear hb);(try clear hb2);(try clear hk);(try clear hi);(try clear ho0);have hcz80_0 : w79.cell? ⟨gb774,0,none⟩ = some (.int .i64 0) := (blk_cell BK774.out 0).trans rfl;have hcz80_1 : w79.cell? ⟨gb774,1,none⟩ = some (.bool false) := (blk_cell BK774.out 1).trans rfl;have hcz80_2 : w79.cell? ⟨gb774,2,none⟩ = some (.int .i64 0) := (blk_cell BK774.out 2).trans rfl;have hcz80_3 : w79.cell? ⟨gb774,3,none⟩ = some (.int .i64 0) := (blk_cell BK774.out 3).trans rfl;have hcz80_4 : w79.cell? ⟨gb774,4,none⟩ = some (.slice none 0 0) := (blk_cell BK774.out 4).trans rfl;have hcz80_5 : w79.cell? ⟨gb774,5,none⟩ = some (.bool false) := (blk_cell BK774.out 5).trans rfl;have hfz80_0 := blk_frozen BK774.out 0;have hfz80_1 := blk_frozen BK774.out 1;have hfz80_2 := blk_frozen BK774.out 2;have hfz80_3 := blk_frozen BK774.out 3;have hfz80_4 := blk_frozen BK774.out 4;have hfz80_5 := blk_frozen BK774.out 5))
            refine bodyPost_ret (results_tc rfl _ _ gb774 84 #[.int .i64 0,.bool t814,.int .i64 0,.int .i64 t813,.slice none 0 0,.bool false] (0,0) _ rfl (by (with_reducible repeat (first | refine blk_drewN ?_ _ | refine blk_drew ?_ | refine blk_alloc ?_ _));refine blk_put (cs := #[.int .i64 0,.bool t814,.int .i64 0,.int .i64 t813,.slice none 0 0,.bool false]) ?_ 5 _ rfl;(with_reducible repeat (first | refine blk_drewN ?_ _ | refine blk_drew ?_ | refine blk_alloc ?_ _));refine blk_put (cs := #[.int .i64 0,.bool t814,.int .i64 0,.int .i64 t813,.slice none 0 0,.bool false]) ?_ 4 _ rfl;(with_reducible repeat (first | refine blk_drewN ?_ _ | refine blk_drew ?_ | refine blk_alloc ?_ _));refine blk_put (cs := #[.int .i64 0,.bool t814,.int .i64 0,.int .i64 0,.slice none 0 0,.bool false]) ?_ 3 _ rfl;(with_reducible repeat (first | refine blk_drewN ?_ _ | refine blk_drew ?_ | refine blk_alloc ?_ _));refine blk_put (cs := #[.int .i64 0,.bool t814,.int .i64 0,.int .i64 0,.slice none 0 0,.bool false]) ?_ 2 _ rfl;(with_reducible repeat (first | refine blk_drewN ?_ _ | refine blk_drew ?_ | refine blk_alloc ?_ _));refine blk_put (cs := #[.int .i64 0,.bool false,.int .i64 0,.int .i64 0,.slice none 0 0,.bool false]) ?_ 1 _ rfl;(with_reducible repeat (first | refine blk_drewN ?_ _ | refine blk_drew ?_ | refine blk_alloc ?_ _));refine blk_put (cs := #[.int .i64 0,.bool false,.int .i64 0,.int .i64 0,.slice none 0 0,.bool false]) ?_ 0 _ rfl;(with_reducible repeat (first | refine blk_drewN ?_ _ | refine blk_drew ?_ | refine blk_alloc ?_ _));exact BK774.out) Try.underlying84 rfl (by kernel_rfl)) rfl ?_
            exact ⟨_,_,by first | rfl | (simp [errW_none,errW_some] <;> rfl) | (simp [*,errW_none,errW_some] <;> rfl),by (with_reducible repeat (first | apply Kd.R_alloc | apply Kd.R_drewN | apply Kd.R_drew));exact Kd.R_mono (Kd.R_far (p := ⟨gb774,5,none⟩) (Kd.R_far (p := ⟨gb774,4,none⟩) (Kd.R_far (p := ⟨gb774,3,none⟩) (Kd.R_far (p := ⟨gb774,2,none⟩) (Kd.R_far (p := ⟨gb774,1,none⟩) (Kd.R_far (p := ⟨gb774,0,none⟩) (Kd.R_types HO816.out BK774.out (by decide)) (fun _ hk => hk.2) (.int .i64 0)) (fun _ hk => hk.2) (.bool t814)) (fun _ hk => hk.2) (.int .i64 0)) (fun _ hk => hk.2) (.int .i64 t813)) (fun _ hk => hk.2) (.slice none 0 0)) (fun _ hk => hk.2) (.bool false)) (fun _ hk => (by simp [Value.ownBlock])),by first | exact Kd.R_nil _ _ _ _ _ | exact Kd.N_nil _ _ _ _ _ | exact Kd.V_nil _ _ _ _ _ | exact Kd.Q_nil _ _ _ _ _ | exact Kd.S_nil _ _ _ _ _,by repeat (first | (with_reducible first | exact HB.out | apply below_alloc | apply pw_below_drewN | apply below_drew1 | refine below_set ?_ GE773.out | refine below_set ?_ GE774.out) | exact HB.out)⟩
          · rw [if_neg c71] at H
            have c71b0 : (a1_0 == 3) = false := beq_eq_false_iff_ne.mpr c71
            have c71b1 : (a1_0 != 3) = true := bne_iff_ne.mpr c71
            replace H := Option.bind_eq_some_iff.mp H
            obtain ⟨t817,A810,H⟩ := H
            replace H : (some (t817,10,false,0,0,([] : List (S40)),false)) = some (r1,r2,r3,r4,r5,r6,r7) := H
            have A81 := Aside0.mk A810
            clear A810
            simp only [Option.some.injEq,Prod.mk.injEq] at H
            obtain ⟨rfl,rfl,rfl,rfl,rfl,rfl,rfl⟩ := H
            go_enter Try.func74,Try.ntmps74
            go_wp2_with (first | ((with_reducible refine gate_dst (N := 3) rfl ?_);refine box_event ?hg (N := 3) ?hd (cs := #[.int .u8 a1_0,.int .i64 a1_1,.int .i64 a1_2,.int .i64 a1_3]) (t := 78) ?hr ?_;(case hd => rfl);(case hg => rfl);(case hr => first | (go_simp;done) | (go_simp;rfl));intro gb773 hg w82 hbox hb;have n0_ := Aside0.mk (below_step (by repeat (first | (with_reducible first | exact HB.out | apply below_alloc | apply pw_below_drewN | apply below_drew1) | exact HB.out)) hb);have n1_ := Aside0.mk (hbox);have n2_ := Aside0.mk ((by rw [hg];exact (below_size (by repeat (first | (with_reducible first | exact HB.out | apply below_alloc | apply pw_below_drewN | apply below_drew1) | exact HB.out))) : w.heap.size ≤ gb773));have n3_ := Aside0.mk ((by rw [hg];exact (below_size (by repeat (first | (with_reducible first | exact HB.out | apply below_alloc | apply pw_below_drewN | apply below_drew1) | exact HB.out))) : w.heap.size ≤ gb773));clear HB;have HB := n0_;have BK773 := n1_;have GW773 := n2_;have GE773 := n3_;clear n0_ n1_ n2_ n3_;clear hb hbox hg) | ((with_reducible refine gate_dst (N := 5) rfl ?_);refine box_event ?hg (N := 5) ?hd (cs := #[.int .i64 0,.bool false,.int .i64 0,.int .i64 0,.slice none 0 0,.bool false]) (t := 84) ?hr ?_;(case hd => rfl);(case hg => rfl);(case hr => first | (go_simp;done) | (go_simp;rfl));intro gb774 hg w83 hbox hb;have n0_ := Aside0.mk (blk_below (g := gb773) (o := .cells #[.int .u8 a1_0,.int .i64 a1_1,.int .i64 a1_2,.int .i64 a1_3] 78 (0,0)) (by (with_reducible repeat (first | refine blk_drewN ?_ _ | refine blk_drew ?_ | refine blk_alloc ?_ _));exact BK773.out) hb);have n1_ := Aside0.mk (below_step (by repeat (first | (with_reducible first | exact HB.out | apply below_alloc | apply pw_below_drewN | apply below_drew1 | refine below_set ?_ GE773.out) | exact HB.out)) hb);have n2_ := Aside0.mk (hbox);have n3_ := Aside0.mk ((by rw [hg];exact (below_size (by repeat (first | (with_reducible first | exact HB.out | apply below_alloc | apply pw_below_drewN | apply below_drew1 | refine below_set ?_ GE773.out) | exact HB.out))) : w.heap.size ≤ gb774));have n4_ := Aside0.mk ((by rw [hg];exact (below_size (by repeat (first | (with_reducible first | exact HB.out | apply below_alloc | apply pw_below_drewN | apply below_drew1 | refine below_set ?_ GE773.out) | exact HB.out))) : w.heap.size ≤ gb774));have n5_ := Aside0.mk ((by rw [hg];exact Nat.ne_of_lt (blk_lt (g := gb773) (o := .cells #[.int .u8 a1_0,.int .i64 a1_1,.int .i64 a1_2,.int .i64 a1_3] 78 (0,0)) (by (with_reducible repeat (first | refine blk_drewN ?_ _ | refine blk_drew ?_ | refine blk_alloc ?_ _));exact BK773.out)) : gb773 ≠ gb774));have n6_ := Aside0.mk ((by rw [hg];exact Nat.ne_of_gt (blk_lt (g := gb773) (o := .cells #[.int .u8 a1_0,.int .i64 a1_1,.int .i64 a1_2,.int .i64 a1_3] 78 (0,0)) (by (with_reducible repeat (first | refine blk_drewN ?_ _ | refine blk_drew ?_ | refine blk_alloc ?_ _));exact BK773.out)) : gb774 ≠ gb773));clear BK773;clear HB;have BK773 := n0_;have HB := n1_;have BK774 := n2_;have GW774 := n3_;have GE774 := n4_;have NB773_774 := n5_;have NB774_773 := n6_;clear n0_ n1_ n2_ n3_ n4_ n5_ n6_;clear hb hbox hg;have hnb84 := NB773_774.out;have hnc84 := NB774_773.out;have hcz85_0 : w83.cell? ⟨gb773,0,none⟩ = some (.int .u8 a1_0) := (blk_cell BK773.out 0).trans rfl;have hcz85_1 : w83.cell? ⟨gb773,1,none⟩ = some (.int .i64 a1_1) := (blk_cell BK773.out 1).trans rfl;have hcz85_2 : w83.cell? ⟨gb773,2,none⟩ = some (.int .i64 a1_2) := (blk_cell BK773.out 2).trans rfl;have hcz85_3 : w83.cell? ⟨gb773,3,none⟩ = some (.int .i64 a1_3) := (blk_cell BK773.out 3).trans rfl;have hfz85_0 := blk_frozen BK773.out 0;have hfz85_1 := blk_frozen BK773.out 1;have hfz85_2 := blk_frozen BK773.out 2;have hfz85_3 := blk_frozen BK773.out 3) | ((with_reducible refine gate_callee (f := 71) rfl ?_);refine goesL_ (some 24) rfl rfl Try.func71 (by kernel_rfl) rfl #[.agg #[.int .u8 a1_0,.int .i64 a1_1,.int .i64 a1_2,.int .i64 a1_3]] rfl (by (try simp only [List.map_toArray,List.map_cons,List.map_nil]);first | done | rfl | (simp only [List.length_drop,List.length_take];rfl)) ?_;(with_reducible refine (model_Op_Span.calls k a1_0 a1_1 a1_2 a1_3 t775 t776 false _ A3.out).mono ?_);rintro e w86 ⟨rfl,hb⟩;refine ⟨_,rfl,?_⟩;have n0_ := Aside0.mk (blk_below (g := gb773) (o := .cells #[.int .u8 a1_0,.int .i64 a1_1,.int .i64 a1_2,.int .i64 a1_3] 78 (0,0)) (by (with_reducible repeat (first | refine blk_drewN ?_ _ | refine blk_drew ?_ | refine blk_alloc ?_ _));exact BK773.out) hb);have n1_ := Aside0.mk (blk_below (g := gb774) (o := .cells #[.int .i64 0,.bool false,.int .i64 0,.int .i64 0,.slice none 0 0,.bool false] 84 (0,0)) (by (with_reducible repeat (first | refine blk_drewN ?_ _ | refine blk_drew ?_ | refine blk_alloc ?_ _));exact BK774.out) hb);have n2_ := Aside0.mk (below_step (by repeat (first | (with_reducible first | exact HB.out | apply below_alloc | apply pw_below_drewN | apply below_drew1 | refine below_set ?_ GE773.out | refine below_set ?_ GE774.out) | exact HB.out)) hb);clear BK773;clear BK774;clear HB;have BK773 := n0_;have BK774 := n1_;have HB := n2_;clear n0_ n1_ n2_;(try clear hb);(try clear hb2);(try clear hk);(try clear hi);have hcz87_0 : w86.cell? ⟨gb773,0,none⟩ = some (.int .u8 a1_0) := (blk_cell BK773.out 0).trans rfl;have hcz87_1 : w86.cell? ⟨gb773,1,none⟩ = some (.int .i64 a1_1) := (blk_cell BK773.out 1).trans rfl;have hcz87_2 : w86.cell? ⟨gb773,2,none⟩ = some (.int .i64 a1_2) := (blk_cell BK773.out 2).trans rfl;have hcz87_3 : w86.cell? ⟨gb773,3,none⟩ = some (.int .i64 a1_3) := (blk_cell BK773.out 3).trans rfl;have hfz87_0 := blk_frozen BK773.out 0;have hfz87_1 := blk_frozen BK773.out 1;have hfz87_2 := blk_frozen BK773.out 2;have hfz87_3 := blk_frozen BK773.out 3) | ((with_reducible refine gate_callee (f := 99) rfl ?_);refine goesL_ (some 110) rfl rfl Try.func99 (by kernel_rfl) rfl #[.slice A0 l0.length c0] rfl (by (try simp only [List.map_toArray,List.map_cons,List.map_nil]);first | done | rfl | (simp only [List.length_drop,List.length_take];rfl)) ?_;(with_reducible refine (leaf_Pair_99.calls _ _ l0 t817 _ ?side1 ?side2 A81.out).mono ?_);(case side1 => repeat (first | exact (Kd.C_below HR0.out HB.out) | (with_reducible refine Kd.C_alloc ?_ _) | (with_reducible refine Kd.C_drewN ?_ _) | (with_reducible refine Kd.C_drew ?_)));(case side2 => exact HC0.out);rintro e w88 ⟨v818,rfl,ho0,hb⟩;refine ⟨_,rfl,?_⟩;have n0_ := Aside0.mk (Kd.R_lower ho0 (below_size (by repeat (first | (with_reducible first | exact HB.out | apply below_alloc | apply pw_below_drewN | apply below_drew1 | refine below_set ?_ GE773.out | refine below_set ?_ GE774.out) | exact HB.out))));have n1_ := Aside0.mk (blk_below (g := gb773) (o := .cells #[.int .u8 a1_0,.int .i64 a1_1,.int .i64 a1_2,.int .i64 a1_3] 78 (0,0)) (by (with_reducible repeat (first | refine blk_drewN ?_ _ | refine blk_drew ?_ | refine blk_alloc ?_ _));exact BK773.out) hb);have n2_ := Aside0.mk (blk_below (g := gb774) (o := .cells #[.int .i64 0,.bool false,.int .i64 0,.int .i64 0,.slice none 0 0,.bool false] 84 (0,0)) (by (with_reducible repeat (first | refine blk_drewN ?_ _ | refine blk_drew ?_ | refine blk_alloc ?_ _));exact BK774.out) hb);have n3_ := Aside0.mk (below_step (by repeat (first | (with_reducible first | exact HB.out | apply below_alloc | apply pw_below_drewN | apply below_drew1 | refine below_set ?_ GE773.out | refine below_set ?_ GE774.out) | exact HB.out)) hb);clear BK773;clear BK774;clear HB;have HO819 := n0_;have BK773 := n1_;have BK774 := n2_;have HB := n3_;clear n0_ n1_ n2_ n3_;(try clear hb);(try clear hb2);(try clear hk);(try clear hi);(try clear ho0);have hcz89_0 : w88.cell? ⟨gb774,0,none⟩ = some (.int .i64 0) := (blk_cell BK774.out 0).trans rfl;have hcz89_1 : w88.cell? ⟨gb774,1,none⟩ = some (.bool false) := (blk_cell BK774.out 1).trans rfl;have hcz89_2 : w88.cell? ⟨gb774,2,none⟩ = some (.int .i64 0) := (blk_cell BK774.out 2).trans rfl;have hcz89_3 : w88.cell? ⟨gb774,3,none⟩ = some (.int .i64 0) := (blk_cell BK774.out 3).trans rfl;have hcz89_4 : w88.cell? ⟨gb774,4,none⟩ = some (.slice none 0 0) := (blk_cell BK774.out 4).trans rfl;have hcz89_5 : w88.cell? ⟨gb774,5,none⟩ = some (.bool false) := (blk_cell BK774.out 5).trans rfl;have hfz89_0 := blk_frozen BK774.out 0;have hfz89_1 := blk_frozen BK774.out 1;have hfz89_2 := blk_frozen BK774.out 2;have hfz89_3 := blk_frozen BK774.out 3;have hfz89_4 := blk_frozen BK774.out 4;have hfz89_5 := blk_frozen BK774.out 5))
            refine bodyPost_ret (results_tc rfl _ _ gb774 84 #[.int .i64 10,.bool false,.int .i64 0,.int .i64 0,.slice none 0 0,.bool false] (0,0) _ rfl (by (with_reducible repeat (first | refine blk_drewN ?_ _ | refine blk_drew ?_ | refine blk_alloc ?_ _));refine blk_put (cs := #[.int .i64 10,.bool false,.int .i64 0,.int .i64 0,.slice none 0 0,.bool false]) ?_ 5 _ rfl;(with_reducible repeat (first | refine blk_drewN ?_ _ | refine blk_drew ?_ | refine blk_alloc ?_ _));refine blk_put (cs := #[.int .i64 10,.bool false,.int .i64 0,.int .i64 0,.slice none 0 0,.bool false]) ?_ 4 _ rfl;(with_reducible repeat (first | refine blk_drewN ?_ _ | refine blk_drew ?_ | refine blk_alloc ?_ _));refine blk_put (cs := #[.int .i64 10,.bool false,.int .i64 0,.int .i64 0,.slice none 0 0,.bool false]) ?_ 3 _ rfl;(with_reducible repeat (first | refine blk_drewN ?_ _ | refine blk_drew ?_ | refine blk_alloc ?_ _));refine blk_put (cs := #[.int .i64 10,.bool false,.int .i64 0,.int .i64 0,.slice none 0 0,.bool false]) ?_ 2 _ rfl;(with_reducible repeat (first | refine blk_drewN ?_ _ | refine blk_drew ?_ | refine blk_alloc ?_ _));refine blk_put (cs := #[.int .i64 10,.bool false,.int .i64 0,.int .i64 0,.slice none 0 0,.bool false]) ?_ 1 _ rfl;(with_reducible repeat (first | refine blk_drewN ?_ _ | refine blk_drew ?_ | refine blk_alloc ?_ _));refine blk_put (cs := #[.int .i64 0,.bool false,.int .i64 0,.int .i64 0,.slice none 0 0,.bool false]) ?_ 0 _ rfl;(with_reducible repeat (first | refine blk_drewN ?_ _ | refine blk_drew ?_ | refine blk_alloc ?_ _));exact BK774.out) Try.underlying84 rfl (by kernel_rfl)) rfl ?_
            exact ⟨_,_,by first | rfl | (simp [errW_none,errW_some] <;> rfl) | (simp [*,errW_none,errW_some] <;> rfl),by (with_reducible repeat (first | apply Kd.R_alloc | apply Kd.R_drewN | apply Kd.R_drew));exact Kd.R_mono (Kd.R_far (p := ⟨gb774,5,none⟩) (Kd.R_far (p := ⟨gb774,4,none⟩) (Kd.R_far (p := ⟨gb774,3,none⟩) (Kd.R_far (p := ⟨gb774,2,none⟩) (Kd.R_far (p := ⟨gb774,1,none⟩) (Kd.R_far (p := ⟨gb774,0,none⟩) (Kd.R_types HO819.out BK774.out (by decide)) (fun _ hk => hk.2) (.int .i64 10)) (fun _ hk => hk.2) (.bool false)) (fun _ hk => hk.2) (.int .i64 0)) (fun _ hk => hk.2) (.int .i64 0)) (fun _ hk => hk.2) (.slice none 0 0)) (fun _ hk => hk.2) (.bool false)) (fun _ hk => (by simp [Value.ownBlock])),by first | exact Kd.R_nil _ _ _ _ _ | exact Kd.N_nil _ _ _ _ _ | exact Kd.V_nil _ _ _ _ _ | exact Kd.Q_nil _ _ _ _ _ | exact Kd.S_nil _ _ _ _ _,by repeat (first | (with_reducible first | exact HB.out | apply below_alloc | apply pw_below_drewN | apply below_drew1 | refine below_set ?_ GE773.out | refine below_set ?_ GE774.out) | exact HB.out)⟩

end Go.Proofs.Ytkoiffkonjpoiaa.Q
namespace Go.Proofs.Ytkoiffkonjpoiaa.Q
open Go.RowKit Go.Proofs.YtkoiffkonjpoiaaW.PrintWords Go.Proofs.YtkoiffkonjpoiaaW.PrintLast Go.Proofs.YtkoiffkonjpoiaaW.PrintMore Go.Proofs.YtkoiffkonjpoiaaX
attribute [local go_sem] max2_int min2_int max_two min_two max_three min_three max_four min_four   -- for this text's walks alone
set_option linter.unusedVariables false
set_option linter.unusedSimpArgs false

end Go.Proofs.Ytkoiffkonjpoiaa.Q
namespace Go.Proofs.Ytkoiffkonjpoiaa.Q
open Go.RowKit Go.Proofs.YtkoiffkonjpoiaaW.PrintWords Go.Proofs.YtkoiffkonjpoiaaW.PrintLast Go.Proofs.YtkoiffkonjpoiaaW.PrintMore Go.Proofs.YtkoiffkonjpoiaaX
attribute [local go_sem] max2_int min2_int max_two min_two max_three min_three max_four min_four   -- for this text's walks alone
set_option linter.unusedVariables false
set_option linter.unusedSimpArgs false

def boscagelaw18_Same.f (k : Nat) (a0_0 : Int) (a0_1 : Bool) (a0_2 : Int) (a0_3 : Int) (l0_4 : List (S40)) (a0_5 : Bool) (a1_0 : Int) (a1_1 : Bool) (a1_2 : Int) (a1_3 : Int) (l1_4 : List (S40)) (a1_5 : Bool) : Option (Bool) := if a0_0 = a1_0 then (if (a0_1 == a1_1) = true then (if a0_2 = a1_2 then (if a0_3 = a1_3 then ((boscagelaw02_Same.f k l0_4 l1_4).bind fun t854 => (some t854)) else (some false)) else (some false)) else (some false)) else (some false)
set_option maxHeartbeats 8000000 in
set_option maxRecDepth 100000 in
theorem boscagelaw18_Same.calls (k : Nat) (a0_0 : Int) (a0_1 : Bool) (a0_2 : Int) (a0_3 : Int) (A0_4 : Option Addr) (c0_4 : Nat) (l0_4 : List (S40)) (a0_5 : Bool) (a1_0 : Int) (a1_1 : Bool) (a1_2 : Int) (a1_3 : Int) (A1_4 : Option Addr) (c1_4 : Nat) (l1_4 : List (S40)) (a1_5 : Bool) (r : Bool) (w : World) (hr0_4 : Kd.C k40 w A0_4 l0_4.length l0_4) (hc0_4 : l0_4.length ≤ c0_4) (hr1_4 : Kd.C k40 w A1_4 l1_4.length l1_4) (hc1_4 : l1_4.length ≤ c1_4) (h : boscagelaw18_Same.f k a0_0 a0_1 a0_2 a0_3 l0_4 a0_5 a1_0 a1_1 a1_2 a1_3 l1_4 a1_5 = some r) :
    Calls Try.prog 73 #[.agg #[.int .i64 a0_0,.bool a0_1,.int .i64 a0_2,.int .i64 a0_3,.slice A0_4 l0_4.length c0_4,.bool a0_5],.agg #[.int .i64 a1_0,.bool a1_1,.int .i64 a1_2,.int .i64 a1_3,.slice A1_4 l1_4.length c1_4,.bool a1_5]] w fun e w' => e = .returned (.bool r) ∧ Below w.heap.size w w' := by
  have hu84 := Try.underlying84
  have HR0_4 := Aside0.mk hr0_4
  have HC0_4 := Aside0.mk hc0_4
  clear hr0_4 hc0_4
  have HR1_4 := Aside0.mk hr1_4
  have HC1_4 := Aside0.mk hc1_4
  clear hr1_4 hc1_4
  have HB := Aside0.mk (Below.refl w.heap.size w)
  have H : (if a0_0 = a1_0 then (if (a0_1 == a1_1) = true then (if a0_2 = a1_2 then (if a0_3 = a1_3 then ((boscagelaw02_Same.f k l0_4 l1_4).bind fun t854 => (some t854)) else (some false)) else (some false)) else (some false)) else (some false)) = some r := h
  clear h
  by_cases c3 : a0_0 = a1_0
  · rw [if_pos c3] at H
    have c3b0 : (a0_0 == a1_0) = true := beq_iff_eq.mpr c3
    have c3b1 : (a0_0 != a1_0) = false := bne_eq_false_iff_eq.mpr c3
    clear c3
    by_cases c4 : (a0_1 == a1_1) = true
    · rw [if_pos c4] at H
      have c4b0 : (a0_1 == a1_1) = true := c4
      (try (have c4b1 : decide (a0_1 = a1_1) = true := by simpa using c4))
      (try (have c4b2 : (a0_1 == a1_1) = true := by simpa using c4))
      clear c4
      by_cases c5 : a0_2 = a1_2
      · rw [if_pos c5] at H
        have c5b0 : (a0_2 == a1_2) = true := beq_iff_eq.mpr c5
        have c5b1 : (a0_2 != a1_2) = false := bne_eq_false_iff_eq.mpr c5
        clear c5
        by_cases c6 : a0_3 = a1_3
        · rw [if_pos c6] at H
          have c6b0 : (a0_3 == a1_3) = true := beq_iff_eq.mpr c6
          have c6b1 : (a0_3 != a1_3) = false := bne_eq_false_iff_eq.mpr c6
          clear c6
          replace H := Option.bind_eq_some_iff.mp H
          obtain ⟨t854,A70,H⟩ := H
          replace H : (some t854) = some r := H
          have A7 := Aside0.mk A70
          clear A70
          obtain rfl := Option.some.inj H
          go_enter Try.func73,Try.ntmps73
          go_wp2_with (first | ((with_reducible refine gate_dst (N := 2) rfl ?_);refine box_event ?hg (N := 2) ?hd (cs := #[.int .i64 a0_0,.bool a0_1,.int .i64 a0_2,.int .i64 a0_3,.slice A0_4 l0_4.length c0_4,.bool a0_5]) (t := 84) ?hr ?_;(case hd => rfl);(case hg => rfl);(case hr => first | (go_simp;done) | (go_simp;rfl));intro gb852 hg w8 hbox hb;have n0_ := Aside0.mk (below_step (by repeat (first | (with_reducible first | exact HB.out | apply below_alloc | apply pw_below_drewN | apply below_drew1) | exact HB.out)) hb);have n1_ := Aside0.mk (hbox);have n2_ := Aside0.mk ((by rw [hg];exact (below_size (by repeat (first | (with_reducible first | exact HB.out | apply below_alloc | apply pw_below_drewN | apply below_drew1) | exact HB.out))) : w.heap.size ≤ gb852));have n3_ := Aside0.mk ((by rw [hg];exact (below_size (by repeat (first | (with_reducible first | exact HB.out | apply below_alloc | apply pw_below_drewN | apply below_drew1) | exact HB.out))) : w.heap.size ≤ gb852));clear HB;have HB := n0_;have BK852 := n1_;have GW852 := n2_;have GE852 := n3_;clear n0_ n1_ n2_ n3_;clear hb hbox hg) | ((with_reducible refine gate_dst (N := 3) rfl ?_);refine box_event ?hg (N := 3) ?hd (cs := #[.int .i64 a1_0,.bool a1_1,.int .i64 a1_2,.int .i64 a1_3,.slice A1_4 l1_4.length c1_4,.bool a1_5]) (t := 84) ?hr ?_;(case hd => rfl);(case hg => rfl);(case hr => first | (go_simp;done) | (go_simp;rfl));intro gb853 hg w9 hbox hb;have n0_ := Aside0.mk (blk_below (g := gb852) (o := .cells #[.int .i64 a0_0,.bool a0_1,.int .i64 a0_2,.int .i64 a0_3,.slice A0_4 l0_4.length c0_4,.bool a0_5] 84 (0,0)) (by (with_reducible repeat (first | refine blk_drewN ?_ _ | refine blk_drew ?_ | refine blk_alloc ?_ _));exact BK852.out) hb);have n1_ := Aside0.mk (below_step (by repeat (first | (with_reducible first | exact HB.out | apply below_alloc | apply pw_below_drewN | apply below_drew1 | refine below_set ?_ GE852.out) | exact HB.out)) hb);have n2_ := Aside0.mk (hbox);have n3_ := Aside0.mk ((by rw [hg];exact (below_size (by repeat (first | (with_reducible first | exact HB.out | apply below_alloc | apply pw_below_drewN | apply below_drew1 | refine below_set ?_ GE852.out) | exact HB.out))) : w.heap.size ≤ gb853));have n4_ := Aside0.mk ((by rw [hg];exact (below_size (by repeat (first | (with_reducible first | exact HB.out | apply below_alloc | apply pw_below_drewN | apply below_drew1 | refine below_set ?_ GE852.out) | exact HB.out))) : w.heap.size ≤ gb853));have n5_ := Aside0.mk ((by rw [hg];exact Nat.ne_of_lt (blk_lt (g := gb852) (o := .cells #[.int .i64 a0_0,.bool a0_1,.int .i64 a0_2,.int .i64 a0_3,.slice A0_4 l0_4.length c0_4,.bool a0_5] 84 (0,0)) (by (with_reducible repeat (first | refine blk_drewN ?_ _ | refine blk_drew ?_ | refine blk_alloc ?_ _));exact BK852.out)) : gb852 ≠ gb853));have n6_ := Aside0.mk ((by rw [hg];exact Nat.ne_of_gt (blk_lt (g := gb852) (o := .cells #[.int .i64 a0_0,.bool a0_1,.int .i64 a0_2,.int .i64 a0_3,.slice A0_4 l0_4.length c0_4,.bool a0_5] 84 (0,0)) (by (with_reducible repeat (first | refine blk_drewN ?_ _ | refine blk_drew ?_ | refine blk_alloc ?_ _));exact BK852.out)) : gb853 ≠ gb852));clear BK852;clear HB;have BK852 := n0_;have HB := n1_;have BK853 := n2_;have GW853 := n3_;have GE853 := n4_;have NB852_853 := n5_;have NB853_852 := n6_;clear n0_ n1_ n2_ n3_ n4_ n5_ n6_;clear hb hbox hg;have hnb10 := NB852_853.out;have hnc10 := NB853_852.out;have hcz11_0 : w9.cell? ⟨gb852,0,none⟩ = some (.int .i64 a0_0) := (blk_cell BK852.out 0).trans rfl;have hcz11_1 : w9.cell? ⟨gb852,1,none⟩ = some (.bool a0_1) := (blk_cell BK852.out 1).trans rfl;have hcz11_2 : w9.cell? ⟨gb852,2,none⟩ = some (.int .i64 a0_2) := (blk_cell BK852.out 2).trans rfl;have hcz11_3 : w9.cell? ⟨gb852,3,none⟩ = some (.int .i64 a0_3) := (blk_cell BK852.out 3).trans rfl;have hcz11_4 : w9.cell? ⟨gb852,4,none⟩ = some (.slice A0_4 l0_4.length c0_4) := (blk_cell BK852.out 4).trans rfl;have hcz11_5 : w9.cell? ⟨gb852,5,none⟩ = some (.bool a0_5) := (blk_cell BK852.out 5).trans rfl;have hfz11_0 := blk_frozen BK852.out 0;have hfz11_1 := blk_frozen BK852.out 1;have hfz11_2 := blk_frozen BK852.out 2;have hfz11_3 := blk_frozen BK852.out 3;have hfz11_4 := blk_frozen BK852.out 4;have hfz11_5 := blk_frozen BK852.out 5;have hcz12_0 : w9.cell? ⟨gb853,0,none⟩ = some (.int .i64 a1_0) := (blk_cell BK853.out 0).trans rfl;have hcz12_1 : w9.cell? ⟨gb853,1,none⟩ = some (.bool a1_1) := (blk_cell BK853.out 1).trans rfl;have hcz12_2 : w9.cell? ⟨gb853,2,none⟩ = some (.int .i64 a1_2) := (blk_cell BK853.out 2).trans rfl;have hcz12_3 : w9.cell? ⟨gb853,3,none⟩ = some (.int .i64 a1_3) := (blk_cell BK853.out 3).trans rfl;have hcz12_4 : w9.cell? ⟨gb853,4,none⟩ = some (.slice A1_4 l1_4.length c1_4) := (blk_cell BK853.out 4).trans rfl;have hcz12_5 : w9.cell? ⟨gb853,5,none⟩ = some (.bool a1_5) := (blk_cell BK853.out 5).trans rfl;have hfz12_0 := blk_frozen BK853.out 0;have hfz12_1 := blk_frozen BK853.out 1;have hfz12_2 := blk_frozen BK853.out 2;have hfz12_3 := blk_frozen BK853.out 3;have hfz12_4 := blk_frozen BK853.out 4;have hfz12_5 := blk_frozen BK853.out 5) | (go_at_call 48;(with_reducible refine (boscagelaw02_Same.calls k _ _ l0_4 _ _ l1_4 t854 _ ?side1 ?side2 ?side3 ?side4 A7.out).mono ?_);(case side1 => repeat (first | exact (Kd.C_below HR0_4.out HB.out) | (with_reducible refine Kd.C_alloc ?_ _) | (with_reducible refine Kd.C_drewN ?_ _) | (with_reducible refine Kd.C_drew ?_)));(case side2 => exact HC0_4.out);(case side3 => repeat (first | exact (Kd.C_below HR1_4.out HB.out) | (with_reducible refine Kd.C_alloc ?_ _) | (with_reducible refine Kd.C_drewN ?_ _) | (with_reducible refine Kd.C_drew ?_)));(case side4 => exact HC1_4.out);rintro e w' ⟨rfl,⟨nd,rfl⟩⟩))
          go_ret
          exact ⟨by first | rfl | (simp [errW_none,errW_some] <;> rfl) | (simp [*,errW_none,errW_some] <;> rfl),by repeat (first | (with_reducible first | exact HB.out | apply below_alloc | apply pw_below_drewN | apply below_drew1 | refine below_set ?_ GE852.out | refine below_set ?_ GE853.out) | exact HB.out)⟩
        · rw [if_neg c6] at H
          have c6b0 : (a0_3 == a1_3) = false := beq_eq_false_iff_ne.mpr c6
          have c6b1 : (a0_3 != a1_3) = true := bne_iff_ne.mpr c6
          obtain rfl := Option.some.inj H
          go_enter Try.func73,Try.ntmps73
          go_wp2_with (first | ((with_reducible refine gate_dst (N := 2) rfl ?_);refine box_event ?hg (N := 2) ?hd (cs := #[.int .i64 a0_0,.bool a0_1,.int .i64 a0_2,.int .i64 a0_3,.slice A0_4 l0_4.length c0_4,.bool a0_5]) (t := 84) ?hr ?_;(case hd => rfl);(case hg => rfl);(case hr => first | (go_simp;done) | (go_simp;rfl));intro gb852 hg w13 hbox hb;have n0_ := Aside0.mk (below_step (by repeat (first | (with_reducible first | exact HB.out | apply below_alloc | apply pw_below_drewN | apply below_drew1) | exact HB.out)) hb);have n1_ := Aside0.mk (hbox);have n2_ := Aside0.mk ((by rw [hg];exact (below_size (by repeat (first | (with_reducible first | exact HB.out | apply below_alloc | apply pw_below_drewN | apply below_drew1) | exact HB.out))) : w.heap.size ≤ gb852));have n3_ := Aside0.mk ((by rw [hg];exact (below_size (by repeat (first | (with_reducible first | exact HB.out | apply below_alloc | apply pw_below_drewN | apply below_drew1) | exact HB.out))) : w.heap.size ≤ gb852));clear HB;have HB := n0_;have BK852 := n1_;have GW852 := n2_;have GE852 := n3_;clear n0_ n1_ n2_ n3_;clear hb hbox hg) | ((with_reducible refine gate_dst (N := 3) rfl ?_);refine box_event ?hg (N := 3) ?hd (cs := #[.int .i64 a1_0,.bool a1_1,.int .i64 a1_2,.int .i64 a1_3,.slice A1_4 l1_4.length c1_4,.bool a1_5]) (t := 84) ?hr ?_;(case hd => rfl);(case hg => rfl);(case hr => first | (go_simp;done) | (go_simp;rfl));intro gb853 hg w14 hbox hb;have n0_ := Aside0.mk (blk_below (g := gb852) (o := .cells #[.int .i64 a0_0,.bool a0_1,.int .i64 a0_2,.int .i64 a0_3,.slice A0_4 l0_4.length c0_4,.bool a0_5] 84 (0,0)) (by (with_reducible repeat (first | refine blk_drewN ?_ _ | refine blk_drew ?_ | refine blk_alloc ?_ _));exact BK852.out) hb);have n1_ := Aside0.mk (below_step (by repeat (first | (with_reducible first | exact HB.out | apply below_alloc | apply pw_below_drewN | apply below_drew1 | refine below_set ?_ GE852.out) | exact HB.out)) hb);have n2_ := Aside0.mk (hbox);have n3_ := Aside0.mk ((by rw [hg];exact (below_size (by repeat (first | (with_reducible first | exact HB.out | apply below_alloc | apply pw_below_drewN | apply below_drew1 | refine below_set ?_ GE852.out) | exact HB.out))) : w.heap.size ≤ gb853));have n4_ := Aside0.mk ((by rw [hg];exact (below_size (by repeat (first | (with_reducible first | exact HB.out | apply below_alloc | apply pw_below_drewN | apply below_drew1 | refine below_set ?_ GE852.out) | exact HB.out))) : w.heap.size ≤ gb853));have n5_ := Aside0.mk ((by rw [hg];exact Nat.ne_of_lt (blk_lt (g := gb852) (o := .cells #[.int .i64 a0_0,.bool a0_1,.int .i64 a0_2,.int .i64 a0_3,.slice A0_4 l0_4.length c0_4,.bool a0_5] 84 (0,0)) (by (with_reducible repeat (first | refine blk_drewN ?_ _ | refine blk_drew ?_ | refine blk_alloc ?_ _));exact BK852.out)) : gb852 ≠ gb853));have n6_ := Aside0.mk ((by rw [hg];exact Nat.ne_of_gt (blk_lt (g := gb852) (o := .cells #[.int .i64 a0_0,.bool a0_1,.int .i64 a0_2,.int .i64 a0_3,.slice A0_4 l0_4.length c0_4,.bool a0_5] 84 (0,0)) (by (with_reducible repeat (first | refine blk_drewN ?_ _ | refine blk_drew ?_ | refine blk_alloc ?_ _));exact BK852.out)) : gb853 ≠ gb852));clear BK852;clear HB;have BK852 := n0_;have HB := n1_;have BK853 := n2_;have GW853 := n3_;have GE853 := n4_;have NB852_853 := n5_;have NB853_852 := n6_;clear n0_ n1_ n2_ n3_ n4_ n5_ n6_;clear hb hbox hg;have hnb15 := NB852_853.out;have hnc15 := NB853_852.out;have hcz16_0 : w14.cell? ⟨gb852,0,none⟩ = some (.int .i64 a0_0) := (blk_cell BK852.out 0).trans rfl;have hcz16_1 : w14.cell? ⟨gb852,1,none⟩ = some (.bool a0_1) := (blk_cell BK852.out 1).trans rfl;have hcz16_2 : w14.cell? ⟨gb852,2,none⟩ = some (.int .i64 a0_2) := (blk_cell BK852.out 2).trans rfl;have hcz16_3 : w14.cell? ⟨gb852,3,none⟩ = some (.int .i64 a0_3) := (blk_cell BK852.out 3).trans rfl;have hcz16_4 : w14.cell? ⟨gb852,4,none⟩ = some (.slice A0_4 l0_4.length c0_4) := (blk_cell BK852.out 4).trans rfl;have hcz16_5 : w14.cell? ⟨gb852,5,none⟩ = some (.bool a0_5) := (blk_cell BK852.out 5).trans rfl;have hfz16_0 := blk_frozen BK852.out 0;have hfz16_1 := blk_frozen BK852.out 1;have hfz16_2 := blk_frozen BK852.out 2;have hfz16_3 := blk_frozen BK852.out 3;have hfz16_4 := blk_frozen BK852.out 4;have hfz16_5 := blk_frozen BK852.out 5;have hcz17_0 : w14.cell? ⟨gb853,0,none⟩ = some (.int .i64 a1_0) := (blk_cell BK853.out 0).trans rfl;have hcz17_1 : w14.cell? ⟨gb853,1,none⟩ = some (.bool a1_1) := (blk_cell BK853.out 1).trans rfl;have hcz17_2 : w14.cell? ⟨gb853,2,none⟩ = some (.int .i64 a1_2) := (blk_cell BK853.out 2).trans rfl;have hcz17_3 : w14.cell? ⟨gb853,3,none⟩ = some (.int .i64 a1_3) := (blk_cell BK853.out 3).trans rfl;have hcz17_4 : w14.cell? ⟨gb853,4,none⟩ = some (.slice A1_4 l1_4.length c1_4) := (blk_cell BK853.out 4).trans rfl;have hcz17_5 : w14.cell? ⟨gb853,5,none⟩ = some (.bool a1_5) := (blk_cell BK853.out 5).trans rfl;have hfz17_0 := blk_frozen BK853.out 0;have hfz17_1 := blk_frozen BK853.out 1;have hfz17_2 := blk_frozen BK853.out 2;have hfz17_3 := blk_frozen BK853.out 3;have hfz17_4 := blk_frozen BK853.out 4;have hfz17_5 := blk_frozen BK853.out 5))
          go_ret
          exact ⟨by first | rfl | (simp [errW_none,errW_some] <;> rfl) | (simp [*,errW_none,errW_some] <;> rfl),by repeat (first | (with_reducible first | exact HB.out | apply below_alloc | apply pw_below_drewN | apply below_drew1 | refine below_set ?_ GE852.out | refine below_set ?_ GE853.out) | exact HB.out)⟩
      · rw [if_neg c5] at H
        have c5b0 : (a0_2 == a1_2) = false := beq_eq_false_iff_ne.mpr c5
        have c5b1 : (a0_2 != a1_2) = true := bne_iff_ne.mpr c5
        obtain rfl := Option.some.inj H
        go_enter Try.func73,Try.ntmps73
        go_wp2_with (first | ((with_reducible refine gate_dst (N := 2) rfl ?_);refine box_event ?hg (N := 2) ?hd (cs := #[.int .i64 a0_0,.bool a0_1,.int .i64 a0_2,.int .i64 a0_3,.slice A0_4 l0_4.length c0_4,.bool a0_5]) (t := 84) ?hr ?_;(case hd => rfl);(case hg => rfl);(case hr => first | (go_simp;done) | (go_simp;rfl));intro gb852 hg w18 hbox hb;have n0_ := Aside0.mk (below_step (by repeat (first | (with_reducible first | exact HB.out | apply below_alloc | apply pw_below_drewN | apply below_drew1) | exact HB.out)) hb);have n1_ := Aside0.mk (hbox);have n2_ := Aside0.mk ((by rw [hg];exact (below_size (by repeat (first | (with_reducible first | exact HB.out | apply below_alloc | apply pw_below_drewN | apply below_drew1) | exact HB.out))) : w.heap.size ≤ gb852));have n3_ := Aside0.mk ((by rw [hg];exact (below_size (by repeat (first | (with_reducible first | exact HB.out | apply below_alloc | apply pw_below_drewN | apply below_drew1) | exact HB.out))) : w.heap.size ≤ gb852));clear HB;have HB := n0_;have BK852 := n1_;have GW852 := n2_;have GE852 := n3_;clear n0_ n1_ n2_ n3_;clear hb hbox hg) | ((with_reducible refine gate_dst (N := 3) rfl ?_);refine box_event ?hg (N := 3) ?hd (cs := #[.int .i64 a1_0,.bool a1_1,.int .i64 a1_2,.int .i64 a1_3,.slice A1_4 l1_4.length c1_4,.bool a1_5]) (t := 84) ?hr ?_;(case hd => rfl);(case hg => rfl);(case hr => first | (go_simp;done) | (go_simp;rfl));intro gb853 hg w19 hbox hb;have n0_ := Aside0.mk (blk_below (g := gb852) (o := .cells #[.int .i64 a0_0,.bool a0_1,.int .i64 a0_2,.int .i64 a0_3,.slice A0_4 l0_4.length c0_4,.bool a0_5] 84 (0,0)) (by (with_reducible repeat (first | refine blk_drewN ?_ _ | refine blk_drew ?_ | refine blk_alloc ?_ _));exact BK852.out) hb);have n1_ := Aside0.mk (below_step (by repeat (first | (with_reducible first | exact HB.out | apply below_alloc | apply pw_below_drewN | apply below_drew1 | refine below_set ?_ GE852.out) | exact HB.out)) hb);have n2_ := Aside0.mk (hbox);have n3_ := Aside0.mk ((by rw [hg];exact (below_size (by repeat (first | (with_reducible first | exact HB.out | apply below_alloc | apply pw_below_drewN | apply below_drew1 | refine below_set ?_ GE852.out) | exact HB.out))) : w.heap.size ≤ gb853));have n4_ := Aside0.mk ((by rw [hg];exact (below_size (by repeat (first | (with_reducible first | exact HB.out | apply below_alloc | apply pw_below_drewN | apply below_drew1 | refine below_set ?_ GE852.out) | exact HB.out))) : w.heap.size ≤ gb853));have n5_ := Aside0.mk ((by rw [hg];exact Nat.ne_of_lt (blk_lt (g := gb852) (o := .cells #[.int .i64 a0_0,.bool a0_1,.int .i64 a0_2,.int .i64 a0_3,.slice A0_4 l0_4.length c0_4,.bool a0_5] 84 (0,0)) (by (with_reducible repeat (first | refine blk_drewN ?_ _ | refine blk_drew ?_ | refine blk_alloc ?_ _));exact BK852.out)) : gb852 ≠ gb853));have n6_ := Aside0.mk ((by rw [hg];exact Nat.ne_of_gt (blk_lt (g := gb852) (o := .cells #[.int .i64 a0_0,.bool a0_1,.int .i64 a0_2,.int .i64 a0_3,.slice A0_4 l0_4.length c0_4,.bool a0_5] 84 (0,0)) (by (with_reducible repeat (first | refine blk_drewN ?_ _ | refine blk_drew ?_ | refine blk_alloc ?_ _));exact BK852.out)) : gb853 ≠ gb852));clear BK852;clear HB;have BK852 := n0_;have HB := n1_;have BK853 := n2_;have GW853 := n3_;have GE853 := n4_;have NB852_853 := n5_;have NB853_852 := n6_;clear n0_ n1_ n2_ n3_ n4_ n5_ n6_;clear hb hbox hg;have hnb20 := NB852_853.out;have hnc20 := NB853_852.out;have hcz21_0 : w19.cell? ⟨gb852,0,none⟩ = some (.int .i64 a0_0) := (blk_cell BK852.out 0).trans rfl;have hcz21_1 : w19.cell? ⟨gb852,1,none⟩ = some (.bool a0_1) := (blk_cell BK852.out 1).trans rfl;have hcz21_2 : w19.cell? ⟨gb852,2,none⟩ = some (.int .i64 a0_2) := (blk_cell BK852.out 2).trans rfl;have hcz21_3 : w19.cell? ⟨gb852,3,none⟩ = some (.int .i64 a0_3) := (blk_cell BK852.out 3).trans rfl;have hcz21_4 : w19.cell? ⟨gb852,4,none⟩ = some (.slice A0_4 l0_4.length c0_4) := (blk_cell BK852.out 4).trans rfl;have hcz21_5 : w19.cell? ⟨gb852,5,none⟩ = some (.bool a0_5) := (blk_cell BK852.out 5).trans rfl;have hfz21_0 := blk_frozen BK852.out 0;have hfz21_1 := blk_frozen BK852.out 1;have hfz21_2 := blk_frozen BK852.out 2;have hfz21_3 := blk_frozen BK852.out 3;have hfz21_4 := blk_frozen BK852.out 4;have hfz21_5 := blk_frozen BK852.out 5;have hcz22_0 : w19.cell? ⟨gb853,0,none⟩ = some (.int .i64 a1_0) := (blk_cell BK853.out 0).trans rfl;have hcz22_1 : w19.cell? ⟨gb853,1,none⟩ = some (.bool a1_1) := (blk_cell BK853.out 1).trans rfl;have hcz22_2 : w19.cell? ⟨gb853,2,none⟩ = some (.int .i64 a1_2) := (blk_cell BK853.out 2).trans rfl;have hcz22_3 : w19.cell? ⟨gb853,3,none⟩ = some (.int .i64 a1_3) := (blk_cell BK853.out 3).trans rfl;have hcz22_4 : w19.cell? ⟨gb853,4,none⟩ = some (.slice A1_4 l1_4.length c1_4) := (blk_cell BK853.out 4).trans rfl;have hcz22_5 : w19.cell? ⟨gb853,5,none⟩ = some (.bool a1_5) := (blk_cell BK853.out 5).trans rfl;have hfz22_0 := blk_frozen BK853.out 0;have hfz22_1 := blk_frozen BK853.out 1;have hfz22_2 := blk_frozen BK853.out 2;have hfz22_3 := blk_frozen BK853.out 3;have hfz22_4 := blk_frozen BK853.out 4;have hfz22_5 := blk_frozen BK853.out 5))
        go_ret
        exact ⟨by first | rfl | (simp [errW_none,errW_some] <;> rfl) | (simp [*,errW_none,errW_some] <;> rfl),by repeat (first | (with_reducible first | exact HB.out | apply below_alloc | apply pw_below_drewN | apply below_drew1 | refine below_set ?_ GE852.out | refine below_set ?_ GE853.out) | exact HB.out)⟩
    · rw [if_neg c4] at H
      have c4b0 : (a0_1 == a1_1) = false := by simpa using c4
      (try (have c4b1 : decide (a0_1 = a1_1) = false := by simpa using c4))
      (try (have c4b2 : (a0_1 == a1_1) = false := by simpa using c4))
      (try (have c4b3 : ¬ (a0_1 = a1_1) := by simpa using c4))
      clear c4
      obtain rfl := Option.some.inj H
      go_enter Try.func73,Try.ntmps73
      go_wp2_with (first | ((with_reducible refine gate_dst (N := 2) rfl ?_);refine box_event ?hg (N := 2) ?hd (cs := #[.int .i64 a0_0,.bool a0_1,.int .i64 a0_2,.int .i64 a0_3,.slice A0_4 l0_4.length c0_4,.bool a0_5]) (t := 84) ?hr ?_;(case hd => rfl);(case hg => rfl);(case hr => first | (go_simp;done) | (go_simp;rfl));intro gb852 hg w23 hbox hb;have n0_ := Aside0.mk (below_step (by repeat (first | (with_reducible first | exact HB.out | apply below_alloc | apply pw_below_drewN | apply below_drew1) | exact HB.out)) hb);have n1_ := Aside0.mk (hbox);have n2_ := Aside0.mk ((by rw [hg];exact (below_size (by repeat (first | (with_reducible first | exact HB.out | apply below_alloc | apply pw_below_drewN | apply below_drew1) | exact HB.out))) : w.heap.size ≤ gb852));have n3_ := Aside0.mk ((by rw [hg];exact (below_size (by repeat (first | (with_reducible first | exact HB.out | apply below_alloc | apply pw_below_drewN | apply below_drew1) | exact HB.out))) : w.heap.size ≤ gb852));clear HB;have HB := n0_;have BK852 := n1_;have GW852 := n2_;have GE852 := n3_;clear n0_ n1_ n2_ n3_;clear hb hbox hg) | ((with_reducible refine gate_dst (N := 3) rfl ?_);refine box_event ?hg (N := 3) ?hd (cs := #[.int .i64 a1_0,.bool a1_1,.int .i64 a1_2,.int .i64 a1_3,.slice A1_4 l1_4.length c1_4,.bool a1_5]) (t := 84) ?hr ?_;(case hd => rfl);(case hg => rfl);(case hr => first | (go_simp;done) | (go_simp;rfl));intro gb853 hg w24 hbox hb;have n0_ := Aside0.mk (blk_below (g := gb852) (o := .cells #[.int .i64 a0_0,.bool a0_1,.int .i64 a0_2,.int .i64 a0_3,.slice A0_4 l0_4.length c0_4,.bool a0_5] 84 (0,0)) (by (with_reducible repeat (first | refine blk_drewN ?_ _ | refine blk_drew ?_ | refine blk_alloc ?_ _));exact BK852.out) hb);have n1_ := Aside0.mk (below_step (by repeat (first | (with_reducible first | exact HB.out | apply below_alloc | apply pw_below_drewN | apply below_drew1 | refine below_set ?_ GE852.out) | exact HB.out)) hb);have n2_ := Aside0.mk (hbox);have n3_ := Aside0.mk ((by rw [hg];exact (below_size (by repeat (first | (with_reducible first | exact HB.out | apply below_alloc | apply pw_below_drewN | apply below_drew1 | refine below_set ?_ GE852.out) | exact HB.out))) : w.heap.size ≤ gb853));have n4_ := Aside0.mk ((by rw [hg];exact (below_size (by repeat (first | (with_reducible first | exact HB.out | apply below_alloc | apply pw_below_drewN | apply below_drew1 | refine below_set ?_ GE852.out) | exact HB.out))) : w.heap.size ≤ gb853));have n5_ := Aside0.mk ((by rw [hg];exact Nat.ne_of_lt (blk_lt (g := gb852) (o := .cells #[.int .i64 a0_0,.bool a0_1,.int .i64 a0_2,.int .i64 a0_3,.slice A0_4 l0_4.length c0_4,.bool a0_5] 84 (0,0)) (by (with_reducible repeat (first | refine blk_drewN ?_ _ | refine blk_drew ?_ | refine blk_alloc ?_ _));exact BK852.out)) : gb852 ≠ gb853));have n6_ := Aside0.mk ((by rw [hg];exact Nat.ne_of_gt (blk_lt (g := gb852) (o := .cells #[.int .i64 a0_0,.bool a0_1,.int .i64 a0_2,.int .i64 a0_3,.slice A0_4 l0_4.length c0_4,.bool a0_5] 84 (0,0)) (by (with_reducible repeat (first | refine blk_drewN ?_ _ | refine blk_drew ?_ | refine blk_alloc ?_ _));exact BK852.out)) : gb853 ≠ gb852));clear BK852;clear HB;have BK852 := n0_;have HB := n1_;have BK853 := n2_;have GW853 := n3_;have GE853 := n4_;have NB852_853 := n5_;have NB853_852 := n6_;clear n0_ n1_ n2_ n3_ n4_ n5_ n6_;clear hb hbox hg;have hnb25 := NB852_853.out;have hnc25 := NB853_852.out;have hcz26_0 : w24.cell? ⟨gb852,0,none⟩ = some (.int .i64 a0_0) := (blk_cell BK852.out 0).trans rfl;have hcz26_1 : w24.cell? ⟨gb852,1,none⟩ = some (.bool a0_1) := (blk_cell BK852.out 1).trans rfl;have hcz26_2 : w24.cell? ⟨gb852,2,none⟩ = some (.int .i64 a0_2) := (blk_cell BK852.out 2).trans rfl;have hcz26_3 : w24.cell? ⟨gb852,3,none⟩ = some (.int .i64 a0_3) := (blk_cell BK852.out 3).trans rfl;have hcz26_4 : w24.cell? ⟨gb852,4,none⟩ = some (.slice A0_4 l0_4.length c0_4) := (blk_cell BK852.out 4).trans rfl;have hcz26_5 : w24.cell? ⟨gb852,5,none⟩ = some (.bool a0_5) := (blk_cell BK852.out 5).trans rfl;have hfz26_0 := blk_frozen BK852.out 0;have hfz26_1 := blk_frozen BK852.out 1;have hfz26_2 := blk_frozen BK852.out 2;have hfz26_3 := blk_frozen BK852.out 3;have hfz26_4 := blk_frozen BK852.out 4;have hfz26_5 := blk_frozen BK852.out 5;have hcz27_0 : w24.cell? ⟨gb853,0,none⟩ = some (.int .i64 a1_0) := (blk_cell BK853.out 0).trans rfl;have hcz27_1 : w24.cell? ⟨gb853,1,none⟩ = some (.bool a1_1) := (blk_cell BK853.out 1).trans rfl;have hcz27_2 : w24.cell? ⟨gb853,2,none⟩ = some (.int .i64 a1_2) := (blk_cell BK853.out 2).trans rfl;have hcz27_3 : w24.cell? ⟨gb853,3,none⟩ = some (.int .i64 a1_3) := (blk_cell BK853.out 3).trans rfl;have hcz27_4 : w24.cell? ⟨gb853,4,none⟩ = some (.slice A1_4 l1_4.length c1_4) := (blk_cell BK853.out 4).trans rfl;have hcz27_5 : w24.cell? ⟨gb853,5,none⟩ = some (.bool a1_5) := (blk_cell BK853.out 5).trans rfl;have hfz27_0 := blk_frozen BK853.out 0;have hfz27_1 := blk_frozen BK853.out 1;have hfz27_2 := blk_frozen BK853.out 2;have hfz27_3 := blk_frozen BK853.out 3;have hfz27_4 := blk_frozen BK853.out 4;have hfz27_5 := blk_frozen BK853.out 5))
      go_ret
      exact ⟨by first | rfl | (simp [errW_none,errW_some] <;> rfl) | (simp [*,errW_none,errW_some] <;> rfl),by repeat (first | (with_reducible first | exact HB.out | apply below_alloc | apply pw_below_drewN | apply below_drew1 | refine below_set ?_ GE852.out | refine below_set ?_ GE853.out) | exact HB.out)⟩
  · rw [if_neg c3] at H
    have c3b0 : (a0_0 == a1_0) = false := beq_eq_false_iff_ne.mpr c3
    have c3b1 : (a0_0 != a1_0) = true := bne_iff_ne.mpr c3
    obtain rfl := Option.some.inj H
    go_enter Try.func73,Try.ntmps73
    go_wp2_with (first | ((with_reducible refine gate_dst (N := 2) rfl ?_);refine box_event ?hg (N := 2) ?hd (cs := #[.int .i64 a0_0,.bool a0_1,.int .i64 a0_2,.int .i64 a0_3,.slice A0_4 l0_4.length c0_4,.bool a0_5]) (t := 84) ?hr ?_;(case hd => rfl);(case hg => rfl);(case hr => first | (go_simp;done) | (go_simp;rfl));intro gb852 hg w28 hbox hb;have n0_ := Aside0.mk (below_step (by repeat (first | (with_reducible first | exact HB.out | apply below_alloc | apply pw_below_drewN | apply below_drew1) | exact HB.out)) hb);have n1_ := Aside0.mk (hbox);have n2_ := Aside0.mk ((by rw [hg];exact (below_size (by repeat (first | (with_reducible first | exact HB.out | apply below_alloc | apply pw_below_drewN | apply below_drew1) | exact HB.out))) : w.heap.size ≤ gb852));have n3_ := Aside0.mk ((by rw [hg];exact (below_size (by repeat (first | (with_reducible first | exact HB.out | apply below_alloc | apply pw_below_drewN | apply below_drew1) | exact HB.out))) : w.heap.size ≤ gb852));clear HB;have HB := n0_;have BK852 := n1_;have GW852 := n2_;have GE852 := n3_;clear n0_ n1_ n2_ n3_;clear hb hbox hg) | ((with_reducible refine gate_dst (N := 3) rfl ?_);refine box_event ?hg (N := 3) ?hd (cs := #[.int .i64 a1_0,.bool a1_1,.int .i64 a1_2,.int .i64 a1_3,.slice A1_4 l1_4.length c1_4,.bool a1_5]) (t := 84) ?hr ?_;(case hd => rfl);(case hg => rfl);(case hr => first | (go_simp;done) | (go_simp;rfl));intro gb853 hg w29 hbox hb;have n0_ := Aside0.mk (blk_below (g := gb852) (o := .cells #[.int .i64 a0_0,.bool a0_1,.int .i64 a0_2,.int .i64 a0_3,.slice A0_4 l0_4.length c0_4,.bool a0_5] 84 (0,0)) (by (with_reducible repeat (first | refine blk_drewN ?_ _ | refine blk_drew ?_ | refine blk_alloc ?_ _));exact BK852.out) hb);have n1_ := Aside0.mk (below_step (by repeat (first | (with_reducible first | exact HB.out | apply below_alloc | apply pw_below_drewN | apply below_drew1 | refine below_set ?_ GE852.out) | exact HB.out)) hb);have n2_ := Aside0.mk (hbox);have n3_ := Aside0.mk ((by rw [hg];exact (below_size (by repeat (first | (with_reducible first | exact HB.out | apply below_alloc | apply pw_below_drewN | apply below_drew1 | refine below_set ?_ GE852.out) | exact HB.out))) : w.heap.size ≤ gb853));have n4_ := Aside0.mk ((by rw [hg];exact (below_size (by repeat (first | (with_reducible first | exact HB.out | apply below_alloc | apply pw_below_drewN | apply below_drew1 | refine below_set ?_ GE852.out) | exact HB.out))) : w.heap.size ≤ gb853));have n5_ := Aside0.mk ((by rw [hg];exact Nat.ne_of_lt (blk_lt (g := gb852) (o := .cells #[.int .i64 a0_0,.bool a0_1,.int .i64 a0_2,.int .i64 a0_3,.slice A0_4 l0_4.length c0_4,.bool a0_5] 84 (0,0)) (by (with_reducible repeat (first | refine blk_drewN ?_ _ | refine blk_drew ?_ | refine blk_alloc ?_ _));exact BK852.out)) : gb852 ≠ gb853));have n6_ := Aside0.mk ((by rw [hg];exact Nat.ne_of_gt (blk_lt (g := gb852) (o := .cells #[.int .i64 a0_0,.bool a0_1,.int .i64 a0_2,.int .i64 a0_3,.slice A0_4 l0_4.length c0_4,.bool a0_5] 84 (0,0)) (by (with_reducible repeat (first | refine blk_drewN ?_ _ | refine blk_drew ?_ | refine blk_alloc ?_ _));exact BK852.out)) : gb853 ≠ gb852));clear BK852;clear HB;have BK852 := n0_;have HB := n1_;have BK853 := n2_;have GW853 := n3_;have GE853 := n4_;have NB852_853 := n5_;have NB853_852 := n6_;clear n0_ n1_ n2_ n3_ n4_ n5_ n6_;clear hb hbox hg;have hnb30 := NB852_853.out;have hnc30 := NB853_852.out;have hcz31_0 : w29.cell? ⟨gb852,0,none⟩ = some (.int .i64 a0_0) := (blk_cell BK852.out 0).trans rfl;have hcz31_1 : w29.cell? ⟨gb852,1,none⟩ = some (.bool a0_1) := (blk_cell BK852.out 1).trans rfl;have hcz31_2 : w29.cell? ⟨gb852,2,none⟩ = some (.int .i64 a0_2) := (blk_cell BK852.out 2).trans rfl;have hcz31_3 : w29.cell? ⟨gb852,3,none⟩ = some (.int .i64 a0_3) := (blk_cell BK852.out 3).trans rfl;have hcz31_4 : w29.cell? ⟨gb852,4,none⟩ = some (.slice A0_4 l0_4.length c0_4) := (blk_cell BK852.out 4).trans rfl;have hcz31_5 : w29.cell? ⟨gb852,5,none⟩ = some (.bool a0_5) := (blk_cell BK852.out 5).trans rfl;have hfz31_0 := blk_frozen BK852.out 0;have hfz31_1 := blk_frozen BK852.out 1;have hfz31_2 := blk_frozen BK852.out 2;have hfz31_3 := blk_frozen BK852.out 3;have hfz31_4 := blk_frozen BK852.out 4;have hfz31_5 := blk_frozen BK852.out 5;have hcz32_0 : w29.cell? ⟨gb853,0,none⟩ = some (.int .i64 a1_0) := (blk_cell BK853.out 0).trans rfl;have hcz32_1 : w29.cell? ⟨gb853,1,none⟩ = some (.bool a1_1) := (blk_cell BK853.out 1).trans rfl;have hcz32_2 : w29.cell? ⟨gb853,2,none⟩ = some (.int .i64 a1_2) := (blk_cell BK853.out 2).trans rfl;have hcz32_3 : w29.cell? ⟨gb853,3,none⟩ = some (.int .i64 a1_3) := (blk_cell BK853.out 3).trans rfl;have hcz32_4 : w29.cell? ⟨gb853,4,none⟩ = some (.slice A1_4 l1_4.length c1_4) := (blk_cell BK853.out 4).trans rfl;have hcz32_5 : w29.cell? ⟨gb853,5,none⟩ = some (.bool a1_5) := (blk_cell BK853.out 5).trans rfl;have hfz32_0 := blk_frozen BK853.out 0;have hfz32_1 := blk_frozen BK853.out 1;have hfz32_2 := blk_frozen BK853.out 2;have hfz32_3 := blk_frozen BK853.out 3;have hfz32_4 := blk_frozen BK853.out 4;have hfz32_5 := blk_frozen BK853.out 5))
    go_ret
    exact ⟨by first | rfl | (simp [errW_none,errW_some] <;> rfl) | (simp [*,errW_none,errW_some] <;> rfl),by repeat (first | (with_reducible first | exact HB.out | apply below_alloc | apply pw_below_drewN | apply below_drew1 | refine below_set ?_ GE852.out | refine below_set ?_ GE853.out) | exact HB.out)⟩

end Go.Proofs.Ytkoiffkonjpoiaa.Q
namespace Go.Proofs.Ytkoiffkonjpoiaa.Q
open Go.RowKit Go.Proofs.YtkoiffkonjpoiaaW.PrintWords Go.Proofs.YtkoiffkonjpoiaaW.PrintLast Go.Proofs.YtkoiffkonjpoiaaW.PrintMore Go.Proofs.YtkoiffkonjpoiaaX
attribute [local go_sem] max2_int min2_int max_two min_two max_three min_three max_four min_four   -- for this text's walks alone
set_option linter.unusedVariables false
set_option linter.unusedSimpArgs false

def boscagelaw18_below.l0 : Nat → Int → Int → List (S40) → Int → Int → Option (Int)
  | 0,_,_,_,_,_ => none
  | k + 1,x1,x5,x8,x9,x10 => if x10 < x9 then (if 0 ≤ x10 then (if x10 < (x8.length : Int) then (if ((rd_T40 x8 x10).f0) < x1 then (boscagelaw18_below.l0 k x1 (wrap64 (x5 + 1)) x8 x9 (wrap64 (x10 + 1))) else (boscagelaw18_below.l0 k x1 x5 x8 x9 (wrap64 (x10 + 1)))) else (none)) else (none)) else (some x5)
def boscagelaw18_below.f (k : Nat) (l0 : List (S40)) (a1 : Int) : Option (Int) := boscagelaw18_below.l0 k a1 0 l0 (l0.length : Int) 0
set_option maxHeartbeats 8000000 in
set_option maxRecDepth 100000 in
theorem boscagelaw18_below.calls (k : Nat) (A0 : Option Addr) (c0 : Nat) (l0 : List (S40)) (a1 : Int) (r : Int) (w : World) (hr0 : Kd.C k40 w A0 l0.length l0) (hc0 : l0.length ≤ c0) (h : boscagelaw18_below.f k l0 a1 = some r) :
    Calls Try.prog 111 #[.slice A0 l0.length c0,.int .i64 a1] w fun e w' => e = .returned (.int .i64 r) ∧ Below w.heap.size w w' := by
  have hu40 := Try.underlying40
  have HR0 := Aside0.mk hr0
  have HC0 := Aside0.mk hc0
  clear hr0 hc0
  have HB := Aside0.mk (Below.refl w.heap.size w)
  have H : (boscagelaw18_below.l0 k a1 0 l0 (l0.length : Int) 0) = some r := h
  clear h
  have H' := Aside0.mk H
  clear H
  go_enter Try.func111,Try.ntmps111
  go_wp2
  go_loopg [5,10] k (fun kq v5 v10 w' => ∃ (x5_1 : Int) (x10_1 : Int),v5 = .int .i64 x5_1 ∧ v10 = .int .i64 x10_1 ∧ Aside0 (boscagelaw18_below.l0 kq a1 x5_1 l0 (l0.length : Int) x10_1 = some r) ∧ Aside0 (kq ≤ k) ∧ Aside0 (Below w.heap.size w w'))
  case atStart => exact ⟨(0),(0),(by first | rfl | (simp;done) | (simp [*];done)),(by first | rfl | (simp;done) | (simp [*];done)),H',⟨Nat.le_refl _⟩,⟨by repeat (first | (with_reducible first | exact HB.out | apply below_alloc | apply pw_below_drewN | apply below_drew1) | exact HB.out)⟩⟩
  case round =>
    clear H'
    try clear c1
    try clear p2
    obtain ⟨x5_1,x10_1,rfl,rfl,HA,HK1,HB⟩ := hrel
    cases gk with
    | zero => exact absurd HA.out (by simp [boscagelaw18_below.l0])
    | succ k1 =>
      have H := HA.out
      clear HA
      simp only [boscagelaw18_below.l0] at H
      by_cases c3 : x10_1 < (l0.length : Int)
      · rw [if_pos c3] at H
        have c3b0 : decide (x10_1 < (l0.length : Int)) = true := decide_eq_true c3
        clear c3
        by_cases c4 : 0 ≤ x10_1
        · rw [if_pos c4] at H
          have c4b0 : decide (0 ≤ x10_1) = true := decide_eq_true c4
          clear c4
          by_cases c5 : x10_1 < (l0.length : Int)
          · rw [if_pos c5] at H
            have c5b0 : decide (x10_1 < (l0.length : Int)) = true := decide_eq_true c5
            clear c5
            by_cases c6 : ((rd_T40 l0 x10_1).f0) < a1
            · rw [if_pos c6] at H
              have c6b0 : decide (((rd_T40 l0 x10_1).f0) < a1) = true := decide_eq_true c6
              clear c6
              have H' := Aside0.mk H
              clear H
              have p902 : 0 ≤ (x10_1 : Int) := of_decide_eq_true (by first | (with_reducible assumption) | assumption)
              have q902 : x10_1 < (l0.length : Int) := of_decide_eq_true (by first | (with_reducible assumption) | assumption)
              obtain ⟨ad902,e902,hx902_0,hx902_1⟩ := at_T40 HR0.out x10_1 p902 q902
              cases e902
              replace hx902_0 := (HB.out.cell (World.block_lt_of_cell? w _ hx902_0)).trans hx902_0
              replace hx902_1 := (HB.out.cell (World.block_lt_of_cell? w _ hx902_1)).trans hx902_1
              replace p902 := eq_true p902
              replace q902 := eq_true q902
              go_wp2_with (first | ((with_reducible refine gate_dst (N := 7) rfl ?_);refine box_event ?hg (N := 7) ?hd (cs := #[.int .i64 0,.int .i64 0]) (t := 40) ?hr ?_;(case hd => rfl);(case hg => rfl);(case hr => first | (go_simp;done) | (go_simp;rfl));intro gb903 hg w7 hbox hb;have n0_ := Aside0.mk (below_step (by repeat (first | (with_reducible first | exact HB.out | apply below_alloc | apply pw_below_drewN | apply below_drew1) | exact HB.out)) hb);have n1_ := Aside0.mk (hbox);have n2_ := Aside0.mk ((by rw [hg];exact (below_size (by repeat (first | (with_reducible first | exact HB.out | apply below_alloc | apply pw_below_drewN | apply below_drew1) | exact HB.out))) : w.heap.size ≤ gb903));have n3_ := Aside0.mk ((by rw [hg];exact (below_size (by repeat (first | (with_reducible first | exact HB.out | apply below_alloc | apply pw_below_drewN | apply below_drew1) | exact HB.out))) : w.heap.size ≤ gb903));clear HB;have HB := n0_;have BK903 := n1_;have GW903 := n2_;have GE903 := n3_;clear n0_ n1_ n2_ n3_;clear hb hbox hg;have hcz8_0 : w7.cell? ⟨gb903,0,none⟩ = some (.int .i64 0) := (blk_cell BK903.out 0).trans rfl;have hcz8_1 : w7.cell? ⟨gb903,1,none⟩ = some (.int .i64 0) := (blk_cell BK903.out 1).trans rfl;have hfz8_0 := blk_frozen BK903.out 0;have hfz8_1 := blk_frozen BK903.out 1))
              go_roundg k1
              case measure => have := HK1.out;omega
              case rel => exact ⟨(wrap64 (x5_1 + 1)),(wrap64 (x10_1 + 1)),(by first | rfl | (simp;done) | (simp [*];done)),(by first | rfl | (simp;done) | (simp [*];done)),H',⟨by have := HK1.out;omega⟩,⟨by repeat (first | (with_reducible first | exact HB.out | apply below_alloc | apply pw_below_drewN | apply below_drew1 | refine below_set ?_ GE903.out) | exact HB.out)⟩⟩
            · rw [if_neg c6] at H
              have c6b0 : decide (((rd_T40 l0 x10_1).f0) < a1) = false := decide_eq_false c6
              clear c6
              have H' := Aside0.mk H
              clear H
              have p902 : 0 ≤ (x10_1 : Int) := of_decide_eq_true (by first | (with_reducible assumption) | assumption)
              have q902 : x10_1 < (l0.length : Int) := of_decide_eq_true (by first | (with_reducible assumption) | assumption)
              obtain ⟨ad902,e902,hx902_0,hx902_1⟩ := at_T40 HR0.out x10_1 p902 q902
              cases e902
              replace hx902_0 := (HB.out.cell (World.block_lt_of_cell? w _ hx902_0)).trans hx902_0
              replace hx902_1 := (HB.out.cell (World.block_lt_of_cell? w _ hx902_1)).trans hx902_1
              replace p902 := eq_true p902
              replace q902 := eq_true q902
              go_wp2_with (first | ((with_reducible refine gate_dst (N := 7) rfl ?_);refine box_event ?hg (N := 7) ?hd (cs := #[.int .i64 0,.int .i64 0]) (t := 40) ?hr ?_;(case hd => rfl);(case hg => rfl);(case hr => first | (go_simp;done) | (go_simp;rfl));intro gb903 hg w9 hbox hb;have n0_ := Aside0.mk (below_step (by repeat (first | (with_reducible first | exact HB.out | apply below_alloc | apply pw_below_drewN | apply below_drew1) | exact HB.out)) hb);have n1_ := Aside0.mk (hbox);have n2_ := Aside0.mk ((by rw [hg];exact (below_size (by repeat (first | (with_reducible first | exact HB.out | apply below_alloc | apply pw_below_drewN | apply below_drew1) | exact HB.out))) : w.heap.size ≤ gb903));have n3_ := Aside0.mk ((by rw [hg];exact (below_size (by repeat (first | (with_reducible first | exact HB.out | apply below_alloc | apply pw_below_drewN | apply below_drew1) | exact HB.out))) : w.heap.size ≤ gb903));clear HB;have HB := n0_;have BK903 := n1_;have GW903 := n2_;have GE903 := n3_;clear n0_ n1_ n2_ n3_;clear hb hbox hg;have hcz10_0 : w9.cell? ⟨gb903,0,none⟩ = some (.int .i64 0) := (blk_cell BK903.out 0).trans rfl;have hcz10_1 : w9.cell? ⟨gb903,1,none⟩ = some (.int .i64 0) := (blk_cell BK903.out 1).trans rfl;have hfz10_0 := blk_frozen BK903.out 0;have hfz10_1 := blk_frozen BK903.out 1))
              go_roundg k1
              case measure => have := HK1.out;omega
              case rel => exact ⟨(x5_1),(wrap64 (x10_1 + 1)),(by first | rfl | (simp;done) | (simp [*];done)),(by first | rfl | (simp;done) | (simp [*];done)),H',⟨by have := HK1.out;omega⟩,⟨by repeat (first | (with_reducible first | exact HB.out | apply below_alloc | apply pw_below_drewN | apply below_drew1 | refine below_set ?_ GE903.out) | exact HB.out)⟩⟩
          · rw [if_neg c5] at H
            exact absurd H (by simp)
        · rw [if_neg c4] at H
          exact absurd H (by simp)
      · rw [if_neg c3] at H
        have c3b0 : decide (x10_1 < (l0.length : Int)) = false := decide_eq_false c3
        clear c3
        obtain rfl := Option.some.inj H
        go_wp2
        go_ret
        exact ⟨by first | rfl | (simp [errW_none,errW_some] <;> rfl) | (simp [*,errW_none,errW_some] <;> rfl),by repeat (first | (with_reducible first | exact HB.out | apply below_alloc | apply pw_below_drewN | apply below_drew1) | exact HB.out)⟩

end Go.Proofs.Ytkoiffkonjpoiaa.Q
