/- What the methods of an event answer, by hand: told by plain functions of the event. No condition. -/
import Derived.Test.YtkoiffkonjpoiaaQ0
namespace Go.Proofs.Ytkoiffkonjpoiaa.Q
open Go.RowKit Go.Proofs.YtkoiffkonjpoiaaW.PrintWords Go.Proofs.YtkoiffkonjpoiaaW.PrintLast Go.Proofs.YtkoiffkonjpoiaaW.PrintMore Go.Proofs.YtkoiffkonjpoiaaX
attribute [local go_sem] max2_int min2_int max_two min_two max_three min_three max_four min_four
set_option linter.unusedVariables false
set_option linter.unusedSimpArgs false
/-- An event's cells. -/
def evA (x : S128) (A : Option Addr) (c : Nat) : Array Value := #[.int .i64 x.f0, .int .u8 x.f1.f0, .int .i64 x.f1.f1, .int .i64 x.f1.f2, .int .i64 x.f1.f3, .int .i64 x.f2, .int .i64 x.f3, .int .i64 x.f4.f0, .bool x.f4.f1, .int .i64 x.f4.f2, .int .i64 x.f4.f3, .slice A x.f4.f4.length c, .bool x.f4.f5]
theorem ev_cells {w : World} {g : Nat} {x : S128} {A : Option Addr} {c : Nat} (h : w.heap[g]? = some (.cells (evA x A c) 128 (0, 0))) :
    w.cell? ⟨g, 0, none⟩ = some (.int .i64 x.f0) ∧ w.cell? ⟨g, 1, none⟩ = some (.int .u8 x.f1.f0) ∧ w.cell? ⟨g, 2, none⟩ = some (.int .i64 x.f1.f1) ∧ w.cell? ⟨g, 3, none⟩ = some (.int .i64 x.f1.f2) ∧ w.cell? ⟨g, 4, none⟩ = some (.int .i64 x.f1.f3) ∧ w.cell? ⟨g, 5, none⟩ = some (.int .i64 x.f2) ∧ w.cell? ⟨g, 6, none⟩ = some (.int .i64 x.f3) ∧ w.cell? ⟨g, 7, none⟩ = some (.int .i64 x.f4.f0) ∧ w.cell? ⟨g, 8, none⟩ = some (.bool x.f4.f1) ∧ w.cell? ⟨g, 9, none⟩ = some (.int .i64 x.f4.f2) ∧ w.cell? ⟨g, 10, none⟩ = some (.int .i64 x.f4.f3) ∧ w.cell? ⟨g, 11, none⟩ = some (.slice A x.f4.f4.length c) ∧ w.cell? ⟨g, 12, none⟩ = some (.bool x.f4.f5) :=
  ⟨(blk_cell h 0).trans rfl, (blk_cell h 1).trans rfl, (blk_cell h 2).trans rfl, (blk_cell h 3).trans rfl, (blk_cell h 4).trans rfl, (blk_cell h 5).trans rfl, (blk_cell h 6).trans rfl, (blk_cell h 7).trans rfl, (blk_cell h 8).trans rfl, (blk_cell h 9).trans rfl, (blk_cell h 10).trans rfl, (blk_cell h 11).trans rfl, (blk_cell h 12).trans rfl⟩
/-- It did nothing. -/
def noneE (x : S128) : Bool := decide (0 ≤ x.f3) && (x.f4.f0 == 3 || x.f4.f0 == 4)
/-- It must be in an order. -/
def mustE (x : S128) : Bool := decide (0 ≤ x.f3) && !(x.f4.f0 == 3 || x.f4.f0 == 4)
set_option maxHeartbeats 4000000 in
set_option maxRecDepth 100000 in
theorem evAns (x : S128) (A : Option Addr) (c : Nat) (w : World) : Calls Try.prog 96 #[.agg (evA x A c)] w fun e w' => e = .returned (.bool (decide (0 ≤ x.f3))) ∧ Below w.heap.size w w' := by
  have hu128 := Try.underlying128
  go_enter Try.func96, Try.ntmps96
  go_wp2_with (with_reducible refine gate_dst (N := 1) rfl ?_; refine box_event ?hg (N := 1) ?hd (cs := evA x A c) (t := 128) ?hr ?_; (case hd => rfl); (case hg => rfl); (case hr => first | (go_simp; done) | (go_simp; rfl)); intro g hg w2 hbox hb; clear hg; obtain ⟨z0, z1, z2, z3, z4, z5, z6, z7, z8, z9, z10, z11, z12⟩ := ev_cells hbox)
  go_ret
  exact ⟨by first | rfl | simp, hb⟩
set_option maxHeartbeats 4000000 in
set_option maxRecDepth 100000 in
theorem evNone (x : S128) (A : Option Addr) (c : Nat) (w : World) : Calls Try.prog 95 #[.agg (evA x A c)] w fun e w' => e = .returned (.bool (noneE x)) ∧ Below w.heap.size w w' := by
  have hu128 := Try.underlying128
  unfold noneE
  rcases Bool.eq_false_or_eq_true (decide (0 ≤ x.f3)) with h1 | h1
  · rcases Bool.eq_false_or_eq_true (x.f4.f0 == 3) with h2 | h2
    · rw [h1, h2]
      go_enter Try.func95, Try.ntmps95
      go_wp2_with (first | (with_reducible refine gate_dst (N := 1) rfl ?_; refine box_event ?hg (N := 1) ?hd (cs := evA x A c) (t := 128) ?hr ?_; (case hd => rfl); (case hg => rfl); (case hr => first | (go_simp; done) | (go_simp; rfl)); intro g hg w2 hbox hb; clear hg; obtain ⟨z0, z1, z2, z3, z4, z5, z6, z7, z8, z9, z10, z11, z12⟩ := ev_cells hbox) | (go_at_call 96; refine (evAns x A c _).mono ?_; rintro e w3 ⟨rfl, hb2⟩; rw [h1]; obtain ⟨z0', z1', z2', z3', z4', z5', z6', z7', z8', z9', z10', z11', z12'⟩ := ev_cells (blk_below hbox hb2)))
      go_ret
      exact ⟨by first | rfl | simp, below_step hb hb2⟩
    · rw [h1, h2]
      go_enter Try.func95, Try.ntmps95
      go_wp2_with (first | (with_reducible refine gate_dst (N := 1) rfl ?_; refine box_event ?hg (N := 1) ?hd (cs := evA x A c) (t := 128) ?hr ?_; (case hd => rfl); (case hg => rfl); (case hr => first | (go_simp; done) | (go_simp; rfl)); intro g hg w2 hbox hb; clear hg; obtain ⟨z0, z1, z2, z3, z4, z5, z6, z7, z8, z9, z10, z11, z12⟩ := ev_cells hbox) | (go_at_call 96; refine (evAns x A c _).mono ?_; rintro e w3 ⟨rfl, hb2⟩; rw [h1]; obtain ⟨z0', z1', z2', z3', z4', z5', z6', z7', z8', z9', z10', z11', z12'⟩ := ev_cells (blk_below hbox hb2)))
      go_ret
      exact ⟨by first | rfl | simp, below_step hb hb2⟩
  · rw [h1]
    go_enter Try.func95, Try.ntmps95
    go_wp2_with (first | (with_reducible refine gate_dst (N := 1) rfl ?_; refine box_event ?hg (N := 1) ?hd (cs := evA x A c) (t := 128) ?hr ?_; (case hd => rfl); (case hg => rfl); (case hr => first | (go_simp; done) | (go_simp; rfl)); intro g hg w2 hbox hb; clear hg; obtain ⟨z0, z1, z2, z3, z4, z5, z6, z7, z8, z9, z10, z11, z12⟩ := ev_cells hbox) | (go_at_call 96; refine (evAns x A c _).mono ?_; rintro e w3 ⟨rfl, hb2⟩; rw [h1]))
    go_ret
    exact ⟨by first | rfl | simp, below_step hb hb2⟩
set_option maxHeartbeats 4000000 in
set_option maxRecDepth 100000 in
theorem evMust (x : S128) (A : Option Addr) (c : Nat) (w : World) : Calls Try.prog 117 #[.agg (evA x A c)] w fun e w' => e = .returned (.bool (mustE x)) ∧ Below w.heap.size w w' := by
  have hu128 := Try.underlying128
  have hm : mustE x = (decide (0 ≤ x.f3) && !noneE x) := by unfold mustE noneE; cases decide (0 ≤ x.f3) <;> simp
  rw [hm]
  rcases Bool.eq_false_or_eq_true (decide (0 ≤ x.f3)) with h1 | h1
  · rw [h1]
    go_enter Try.func117, Try.ntmps117
    go_wp2_with (first | (with_reducible refine gate_dst (N := 1) rfl ?_; refine box_event ?hg (N := 1) ?hd (cs := evA x A c) (t := 128) ?hr ?_; (case hd => rfl); (case hg => rfl); (case hr => first | (go_simp; done) | (go_simp; rfl)); intro g hg w2 hbox hb; clear hg; obtain ⟨z0, z1, z2, z3, z4, z5, z6, z7, z8, z9, z10, z11, z12⟩ := ev_cells hbox) | (go_at_call 96; refine (evAns x A c _).mono ?_; rintro e w3 ⟨rfl, hb2⟩; rw [h1]; obtain ⟨z0', z1', z2', z3', z4', z5', z6', z7', z8', z9', z10', z11', z12'⟩ := ev_cells (blk_below hbox hb2)) | (go_at_call 95; refine (evNone x A c _).mono ?_; rintro e w4 ⟨rfl, hb3⟩))
    go_ret
    exact ⟨by first | rfl | simp, below_step (below_step hb hb2) hb3⟩
  · rw [h1]
    go_enter Try.func117, Try.ntmps117
    go_wp2_with (first | (with_reducible refine gate_dst (N := 1) rfl ?_; refine box_event ?hg (N := 1) ?hd (cs := evA x A c) (t := 128) ?hr ?_; (case hd => rfl); (case hg => rfl); (case hr => first | (go_simp; done) | (go_simp; rfl)); intro g hg w2 hbox hb; clear hg; obtain ⟨z0, z1, z2, z3, z4, z5, z6, z7, z8, z9, z10, z11, z12⟩ := ev_cells hbox) | (go_at_call 96; refine (evAns x A c _).mono ?_; rintro e w3 ⟨rfl, hb2⟩; rw [h1]))
    go_ret
    exact ⟨by first | rfl | simp, below_step hb hb2⟩
end Go.Proofs.Ytkoiffkonjpoiaa.Q
