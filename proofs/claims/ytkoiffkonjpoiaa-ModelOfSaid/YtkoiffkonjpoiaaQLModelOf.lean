/- Go functions of the program as plain Lean functions, and for each the contract that the call comes to its answers; written by a turned print of this session. -/
import Derived.Test.YtkoiffkonjpoiaaQC2
import Derived.Test.YtkoiffkonjpoiaaQC4
import Derived.Test.YtkoiffkonjpoiaaQC5
import Derived.Test.YtkoiffkonjpoiaaQ0
namespace Go.Proofs.Ytkoiffkonjpoiaa.Q
open Go.RowKit Go.Proofs.YtkoiffkonjpoiaaW.PrintWords Go.Proofs.YtkoiffkonjpoiaaW.PrintLast Go.Proofs.YtkoiffkonjpoiaaW.PrintMore Go.Proofs.YtkoiffkonjpoiaaX
attribute [local go_sem] max2_int min2_int max_two min_two max_three min_three max_four min_four   -- for this text's walks alone
set_option linter.unusedVariables false
set_option linter.unusedSimpArgs false

/-- Which element is asked for; -1: none. -/
def boscagelaw18_ModelOf.at0 (a0 a1 : Int) (n : Nat) : Int := if a0 = 4 ∨ a0 = 7 then (n : Int) - 1 else if a0 = 5 ∨ a0 = 6 then 0 else if a0 = 9 then (if 0 ≤ a1 ∧ a1 < (n : Int) then a1 else -1) else -1
/-- The answer that tells of all. -/
def boscagelaw18_ModelOf.w0 (a0 : Int) (l : List S40) : Bool × Int × List S40 := if a0 = 8 ∨ a0 = 10 then (true, (l.length : Int), []) else if a0 = 11 then (true, (l.length : Int), l) else (false, 0, [])
def boscagelaw18_ModelOf.want (a0 a1 : Int) (l : List S40) : Bool × Int × Int × List S40 := if 0 ≤ boscagelaw18_ModelOf.at0 a0 a1 l.length ∧ boscagelaw18_ModelOf.at0 a0 a1 l.length < (l.length : Int) then (true, (l.getD (boscagelaw18_ModelOf.at0 a0 a1 l.length).toNat ⟨0, 0⟩).f0, (l.getD (boscagelaw18_ModelOf.at0 a0 a1 l.length).toNat ⟨0, 0⟩).f1, []) else ((boscagelaw18_ModelOf.w0 a0 l).1, (boscagelaw18_ModelOf.w0 a0 l).2.1, 0, (boscagelaw18_ModelOf.w0 a0 l).2.2)
def boscagelaw18_ModelOf.f (k : Nat) (a0_0 : Int) (a0_1 : Int) (a0_2 : Int) (a0_3 : Int) (l1 : List (S40)) : Option (Bool) := (boscagelaw18_Awake.f k).bind fun t856 => (if t856 = true then (if (l1.length : Int) > 40 then (some true) else ((model_Op_Of.f a0_0 a0_1 a0_2 a0_3 l1).bind fun b => (boscagelaw18_Same.f k b.1 b.2.1 b.2.2.1 b.2.2.2.1 b.2.2.2.2.1 b.2.2.2.2.2 0 (boscagelaw18_ModelOf.want a0_0 a0_1 l1).1 (boscagelaw18_ModelOf.want a0_0 a0_1 l1).2.1 (boscagelaw18_ModelOf.want a0_0 a0_1 l1).2.2.1 (boscagelaw18_ModelOf.want a0_0 a0_1 l1).2.2.2 false).bind fun t => some (t && !b.2.2.2.2.2))) else (some false))
theorem boscagelaw18_ModelOf.put6 {w W : World} {g : Nat} {x0 x1 x2 x3 x4 x5 y0 y1 y2 y3 y4 y5 : Value} (hb : w.heap.size ≤ g) (h : W.heap[g]? = some (.cells #[x0, x1, x2, x3, x4, x5] 84 (0, 0))) {v : Value} {xs : List S40} (HO : Kd.R k40 40 W w.heap.size (fun _ => True) v xs) (HB : Below w.heap.size w W) :
    ((((((W.setCell ⟨g, 0, none⟩ y0).setCell ⟨g, 1, none⟩ y1).setCell ⟨g, 2, none⟩ y2).setCell ⟨g, 3, none⟩ y3).setCell ⟨g, 4, none⟩ y4).setCell ⟨g, 5, none⟩ y5).heap[g]? = some (.cells #[y0, y1, y2, y3, y4, y5] 84 (0, 0)) ∧
    Kd.R k40 40 ((((((W.setCell ⟨g, 0, none⟩ y0).setCell ⟨g, 1, none⟩ y1).setCell ⟨g, 2, none⟩ y2).setCell ⟨g, 3, none⟩ y3).setCell ⟨g, 4, none⟩ y4).setCell ⟨g, 5, none⟩ y5) w.heap.size (fun _ => True) v xs ∧
    Below w.heap.size w ((((((W.setCell ⟨g, 0, none⟩ y0).setCell ⟨g, 1, none⟩ y1).setCell ⟨g, 2, none⟩ y2).setCell ⟨g, 3, none⟩ y3).setCell ⟨g, 4, none⟩ y4).setCell ⟨g, 5, none⟩ y5) ∧
    ∀ g' o, g' ≠ g → W.heap[g']? = some o → ((((((W.setCell ⟨g, 0, none⟩ y0).setCell ⟨g, 1, none⟩ y1).setCell ⟨g, 2, none⟩ y2).setCell ⟨g, 3, none⟩ y3).setCell ⟨g, 4, none⟩ y4).setCell ⟨g, 5, none⟩ y5).heap[g']? = some o := by
  refine ⟨?_, ?_, ?_, fun g' o hne ho => ?_⟩
  · exact blk_put (cs := #[y0, y1, y2, y3, y4, x5]) (blk_put (cs := #[y0, y1, y2, y3, x4, x5]) (blk_put (cs := #[y0, y1, y2, x3, x4, x5]) (blk_put (cs := #[y0, y1, x2, x3, x4, x5]) (blk_put (cs := #[y0, x1, x2, x3, x4, x5]) (blk_put (cs := #[x0, x1, x2, x3, x4, x5]) h 0 _ rfl) 1 _ rfl) 2 _ rfl) 3 _ rfl) 4 _ rfl) 5 _ rfl
  · exact Kd.R_mono (Kd.R_far (p := ⟨g, 5, none⟩) (Kd.R_far (p := ⟨g, 4, none⟩) (Kd.R_far (p := ⟨g, 3, none⟩) (Kd.R_far (p := ⟨g, 2, none⟩) (Kd.R_far (p := ⟨g, 1, none⟩) (Kd.R_far (p := ⟨g, 0, none⟩) (Kd.R_types HO h (by decide)) (fun _ hk => hk.2) y0) (fun _ hk => hk.2) y1) (fun _ hk => hk.2) y2) (fun _ hk => hk.2) y3) (fun _ hk => hk.2) y4) (fun _ hk => hk.2) y5) (fun _ _ => trivial)
  · exact below_set (below_set (below_set (below_set (below_set (below_set HB hb) hb) hb) hb) hb) hb
  · have e : ∀ (X : World) (i : Nat) (u : Value), X.heap[g']? = some o → (X.setCell ⟨g, i, none⟩ u).heap[g']? = some o := fun X i u hX => (Below.heap_setCell X _ u g' hne).trans hX
    exact e _ _ _ (e _ _ _ (e _ _ _ (e _ _ _ (e _ _ _ (e _ _ _ ho)))))
theorem boscagelaw18_ModelOf.wrapm1 (n : Nat) (h : n < 1000) : wrap64 ((n : Int) - 1) = (n : Int) - 1 := by unfold wrap64; omega
theorem boscagelaw18_ModelOf.settle {p : World → Prop} {w : World} (R : World → Prop) (h : R w) (k : ∀ W, R W → p W) : p w := k w h
set_option maxHeartbeats 8000000 in
set_option maxRecDepth 100000 in
theorem boscagelaw18_ModelOf.calls (k : Nat) (a0_0 : Int) (a0_1 : Int) (a0_2 : Int) (a0_3 : Int) (A1 : Option Addr) (c1 : Nat) (l1 : List (S40)) (r : Bool) (w : World) (hr1 : Kd.C k40 w A1 l1.length l1) (hc1 : l1.length ≤ c1) (h : boscagelaw18_ModelOf.f k a0_0 a0_1 a0_2 a0_3 l1 = some r) :
    Calls Try.prog 20 #[.agg #[.int .u8 a0_0, .int .i64 a0_1, .int .i64 a0_2, .int .i64 a0_3], .slice A1 l1.length c1] w fun e w' => e = .returned (.bool r) ∧ Below w.heap.size w w' := by
  have hu78 := Try.underlying78
  have hu84 := Try.underlying84
  have HR1 := Aside0.mk hr1
  have HC1 := Aside0.mk hc1
  clear hr1 hc1
  have HB := Aside0.mk (Below.refl w.heap.size w)
  unfold boscagelaw18_ModelOf.f at h
  obtain ⟨t856, A30, H⟩ := Option.bind_eq_some_iff.mp h
  clear h
  have A3 := Aside0.mk A30
  clear A30
  by_cases c4 : t856 = true
  · subst c4
    rw [if_pos rfl] at H
    by_cases c5 : (l1.length : Int) > 40
    · rw [if_pos c5] at H
      have c5b0 : decide (40 < (l1.length : Int)) = true := decide_eq_true c5
      have c5b1 : decide (40 < l1.length) = true := decide_eq_true (by omega)
      clear c5
      obtain rfl := Option.some.inj H
      go_enter Try.func20, Try.ntmps20
      go_wp2_with (first | ((with_reducible refine gate_dst (N := 2) rfl ?_); (try (refine gate_guard (by rfl) ?_; dsimp only)); refine box_event ?hg (N := 2) ?hd (cs := #[.int .u8 a0_0, .int .i64 a0_1, .int .i64 a0_2, .int .i64 a0_3]) (t := 78) ?hr ?_; (case hd => rfl); (case hg => rfl); (case hr => first | (go_simp; done) | (go_simp; rfl)); intro gb855 hg w6 hbox hb; have n0_ := Aside0.mk (below_step (by repeat (first | (with_reducible first | exact HB.out | apply below_alloc | apply pw_below_drewN | apply below_drew1) | exact HB.out)) hb); have n1_ := Aside0.mk (hbox); have n2_ := Aside0.mk ((by rw [hg]; exact (below_size (by repeat (first | (with_reducible first | exact HB.out | apply below_alloc | apply pw_below_drewN | apply below_drew1) | exact HB.out))) : w.heap.size ≤ gb855)); have n3_ := Aside0.mk ((by rw [hg]; exact (below_size (by repeat (first | (with_reducible first | exact HB.out | apply below_alloc | apply pw_below_drewN | apply below_drew1) | exact HB.out))) : w.heap.size ≤ gb855)); clear HB; have HB := n0_; have BK855 := n1_; have GW855 := n2_; have GE855 := n3_; clear n0_ n1_ n2_ n3_; clear hb hbox hg) | ((with_reducible refine gate_callee (f := 70) rfl ?_); refine goesL_ (some 8) rfl rfl Try.func70 (by kernel_rfl) rfl #[] rfl (by (try simp only [List.map_toArray, List.map_cons, List.map_nil]); first | done | rfl | (simp only [List.length_drop, List.length_take]; rfl)) ?_; (with_reducible refine (boscagelaw18_Awake.calls k  true _ A3.out).mono ?_); rintro e w7 ⟨rfl, hb⟩; refine ⟨_, rfl, ?_⟩; have n0_ := Aside0.mk (blk_below (g := gb855) (o := .cells #[.int .u8 a0_0, .int .i64 a0_1, .int .i64 a0_2, .int .i64 a0_3] 78 (0, 0)) (by (with_reducible repeat (first | refine blk_drewN ?_ _ | refine blk_drew ?_ | refine blk_alloc ?_ _)); exact BK855.out) hb); have n1_ := Aside0.mk (below_step (by repeat (first | (with_reducible first | exact HB.out | apply below_alloc | apply pw_below_drewN | apply below_drew1 | refine below_set ?_ GE855.out) | exact HB.out)) hb); clear BK855; clear HB; have BK855 := n0_; have HB := n1_; clear n0_ n1_; (try clear hb); (try clear hb2); (try clear hk); (try clear hi)))
      go_ret
      exact ⟨by first | rfl | (simp [errW_none, errW_some] <;> rfl) | (simp [*, errW_none, errW_some] <;> rfl), by repeat (first | (with_reducible first | exact HB.out | apply below_alloc | apply pw_below_drewN | apply below_drew1 | refine below_set ?_ GE855.out) | exact HB.out)⟩
    · rw [if_neg c5] at H
      have c5b0 : decide (40 < (l1.length : Int)) = false := decide_eq_false c5
      have c5b1 : decide (40 < l1.length) = false := decide_eq_false (by omega)
      have hlen : l1.length ≤ 40 := by omega
      clear c5
      replace H := Option.bind_eq_some_iff.mp H
      obtain ⟨⟨t857, t858, t859, t860, t861, t864⟩, A80, H⟩ := H
      have A8 := Aside0.mk A80
      clear A80
      replace H := Option.bind_eq_some_iff.mp H
      obtain ⟨tS, AS0, H⟩ := H
      have AS := Aside0.mk AS0
      clear AS0
      obtain rfl := Option.some.inj H
      clear H
      go_enter Try.func20, Try.ntmps20
      go_upto_block 0 with (first | ((with_reducible refine gate_dst (N := 2) rfl ?_); (try (refine gate_guard (by rfl) ?_; dsimp only)); refine box_event ?hg (N := 2) ?hd (cs := #[.int .u8 a0_0, .int .i64 a0_1, .int .i64 a0_2, .int .i64 a0_3]) (t := 78) ?hr ?_; (case hd => rfl); (case hg => rfl); (case hr => first | (go_simp; done) | (go_simp; rfl)); intro gb855 hg w10 hbox hb; have n0_ := Aside0.mk (below_step (by repeat (first | (with_reducible first | exact HB.out | apply below_alloc | apply pw_below_drewN | apply below_drew1) | exact HB.out)) hb); have n1_ := Aside0.mk (hbox); have n2_ := Aside0.mk ((by rw [hg]; exact (below_size (by repeat (first | (with_reducible first | exact HB.out | apply below_alloc | apply pw_below_drewN | apply below_drew1) | exact HB.out))) : w.heap.size ≤ gb855)); have n3_ := Aside0.mk ((by rw [hg]; exact (below_size (by repeat (first | (with_reducible first | exact HB.out | apply below_alloc | apply pw_below_drewN | apply below_drew1) | exact HB.out))) : w.heap.size ≤ gb855)); clear HB; have HB := n0_; have BK855 := n1_; have GW855 := n2_; have GE855 := n3_; clear n0_ n1_ n2_ n3_; clear hb hbox hg) | ((with_reducible refine gate_callee (f := 70) rfl ?_); refine goesL_ (some 8) rfl rfl Try.func70 (by kernel_rfl) rfl #[] rfl (by (try simp only [List.map_toArray, List.map_cons, List.map_nil]); first | done | rfl | (simp only [List.length_drop, List.length_take]; rfl)) ?_; (with_reducible refine (boscagelaw18_Awake.calls k  true _ A3.out).mono ?_); rintro e w11 ⟨rfl, hb⟩; refine ⟨_, rfl, ?_⟩; have n0_ := Aside0.mk (blk_below (g := gb855) (o := .cells #[.int .u8 a0_0, .int .i64 a0_1, .int .i64 a0_2, .int .i64 a0_3] 78 (0, 0)) (by (with_reducible repeat (first | refine blk_drewN ?_ _ | refine blk_drew ?_ | refine blk_alloc ?_ _)); exact BK855.out) hb); have n1_ := Aside0.mk (below_step (by repeat (first | (with_reducible first | exact HB.out | apply below_alloc | apply pw_below_drewN | apply below_drew1 | refine below_set ?_ GE855.out) | exact HB.out)) hb); clear BK855; clear HB; have BK855 := n0_; have HB := n1_; clear n0_ n1_; (try clear hb); (try clear hb2); (try clear hk); (try clear hi); have hcz12_0 : w11.cell? ⟨gb855, 0, none⟩ = some (.int .u8 a0_0) := (blk_cell BK855.out 0).trans rfl; have hcz12_1 : w11.cell? ⟨gb855, 1, none⟩ = some (.int .i64 a0_1) := (blk_cell BK855.out 1).trans rfl; have hcz12_2 : w11.cell? ⟨gb855, 2, none⟩ = some (.int .i64 a0_2) := (blk_cell BK855.out 2).trans rfl; have hcz12_3 : w11.cell? ⟨gb855, 3, none⟩ = some (.int .i64 a0_3) := (blk_cell BK855.out 3).trans rfl; have hfz12_0 := blk_frozen BK855.out 0; have hfz12_1 := blk_frozen BK855.out 1; have hfz12_2 := blk_frozen BK855.out 2; have hfz12_3 := blk_frozen BK855.out 3) | ((with_reducible refine gate_callee (f := 72) rfl ?_); refine goesL_ (some 15) rfl rfl Try.func72 (by kernel_rfl) rfl #[.agg #[.int .u8 a0_0, .int .i64 a0_1, .int .i64 a0_2, .int .i64 a0_3], .slice A1 l1.length c1] rfl (by (try simp only [List.map_toArray, List.map_cons, List.map_nil]); first | done | rfl | (simp only [List.length_drop, List.length_take]; rfl)) ?_; (with_reducible refine (model_Op_Of.calls a0_0 a0_1 a0_2 a0_3 _ _ l1 t857 t858 t859 t860 t861 t864 _ ?side1 ?side2 A8.out).mono ?_); (case side1 => repeat (first | exact (Kd.C_below HR1.out HB.out) | (with_reducible refine Kd.C_alloc ?_ _) | (with_reducible refine Kd.C_drewN ?_ _) | (with_reducible refine Kd.C_drew ?_))); (case side2 => exact HC1.out); rintro e w13 ⟨v862, rfl, ho0, hb⟩; refine ⟨_, rfl, ?_⟩; have n0_ := Aside0.mk (Kd.R_lower ho0 (below_size (by repeat (first | (with_reducible first | exact HB.out | apply below_alloc | apply pw_below_drewN | apply below_drew1 | refine below_set ?_ GE855.out) | exact HB.out)))); have n1_ := Aside0.mk (blk_below (g := gb855) (o := .cells #[.int .u8 a0_0, .int .i64 a0_1, .int .i64 a0_2, .int .i64 a0_3] 78 (0, 0)) (by (with_reducible repeat (first | refine blk_drewN ?_ _ | refine blk_drew ?_ | refine blk_alloc ?_ _)); exact BK855.out) hb); have n2_ := Aside0.mk (below_step (by repeat (first | (with_reducible first | exact HB.out | apply below_alloc | apply pw_below_drewN | apply below_drew1 | refine below_set ?_ GE855.out) | exact HB.out)) hb); clear BK855; clear HB; have HO863 := n0_; have BK855 := n1_; have HB := n2_; clear n0_ n1_ n2_; (try clear hb); (try clear hb2); (try clear hk); (try clear hi); (try clear ho0)) | ((with_reducible refine gate_dst (N := 5) rfl ?_); (try (refine gate_guard (by rfl) ?_; dsimp only)); refine box_event ?hg (N := 5) ?hd (cs := #[.int .i64 0, .bool false, .int .i64 0, .int .i64 0, .slice none 0 0, .bool false]) (t := 84) ?hr ?_; (case hd => rfl); (case hg => rfl); (case hr => first | (go_simp; done) | (go_simp; rfl)); intro gb865 hg w14 hbox hb; have n0_ := Aside0.mk (Kd.R_below (by (with_reducible repeat (first | apply Kd.R_alloc | apply Kd.R_drewN | apply Kd.R_drew)); exact HO863.out) hb); have n1_ := Aside0.mk (blk_below (g := gb855) (o := .cells #[.int .u8 a0_0, .int .i64 a0_1, .int .i64 a0_2, .int .i64 a0_3] 78 (0, 0)) (by (with_reducible repeat (first | refine blk_drewN ?_ _ | refine blk_drew ?_ | refine blk_alloc ?_ _)); exact BK855.out) hb); have n2_ := Aside0.mk (below_step (by repeat (first | (with_reducible first | exact HB.out | apply below_alloc | apply pw_below_drewN | apply below_drew1 | refine below_set ?_ GE855.out) | exact HB.out)) hb); have n3_ := Aside0.mk (hbox); have n4_ := Aside0.mk ((by rw [hg]; exact (below_size (by repeat (first | (with_reducible first | exact HB.out | apply below_alloc | apply pw_below_drewN | apply below_drew1 | refine below_set ?_ GE855.out) | exact HB.out))) : w.heap.size ≤ gb865)); have n5_ := Aside0.mk ((by rw [hg]; exact (below_size (by repeat (first | (with_reducible first | exact HB.out | apply below_alloc | apply pw_below_drewN | apply below_drew1 | refine below_set ?_ GE855.out) | exact HB.out))) : w.heap.size ≤ gb865)); have n6_ := Aside0.mk ((by rw [hg]; exact Nat.ne_of_lt (blk_lt (g := gb855) (o := .cells #[.int .u8 a0_0, .int .i64 a0_1, .int .i64 a0_2, .int .i64 a0_3] 78 (0, 0)) (by (with_reducible repeat (first | refine blk_drewN ?_ _ | refine blk_drew ?_ | refine blk_alloc ?_ _)); exact BK855.out)) : gb855 ≠ gb865)); have n7_ := Aside0.mk ((by rw [hg]; exact Nat.ne_of_gt (blk_lt (g := gb855) (o := .cells #[.int .u8 a0_0, .int .i64 a0_1, .int .i64 a0_2, .int .i64 a0_3] 78 (0, 0)) (by (with_reducible repeat (first | refine blk_drewN ?_ _ | refine blk_drew ?_ | refine blk_alloc ?_ _)); exact BK855.out)) : gb865 ≠ gb855)); clear HO863; clear BK855; clear HB; have HO863 := n0_; have BK855 := n1_; have HB := n2_; have BK865 := n3_; have GW865 := n4_; have GE865 := n5_; have NB855_865 := n6_; have NB865_855 := n7_; clear n0_ n1_ n2_ n3_ n4_ n5_ n6_ n7_; clear hb hbox hg; have hnb15 := NB865_855.out; have hnc15 := NB855_865.out; have hcz16_0 : w14.cell? ⟨gb865, 0, none⟩ = some (.int .i64 0) := (blk_cell BK865.out 0).trans rfl; have hcz16_1 : w14.cell? ⟨gb865, 1, none⟩ = some (.bool false) := (blk_cell BK865.out 1).trans rfl; have hcz16_2 : w14.cell? ⟨gb865, 2, none⟩ = some (.int .i64 0) := (blk_cell BK865.out 2).trans rfl; have hcz16_3 : w14.cell? ⟨gb865, 3, none⟩ = some (.int .i64 0) := (blk_cell BK865.out 3).trans rfl; have hcz16_4 : w14.cell? ⟨gb865, 4, none⟩ = some (.slice none 0 0) := (blk_cell BK865.out 4).trans rfl; have hcz16_5 : w14.cell? ⟨gb865, 5, none⟩ = some (.bool false) := (blk_cell BK865.out 5).trans rfl; have hfz16_0 := blk_frozen BK865.out 0; have hfz16_1 := blk_frozen BK865.out 1; have hfz16_2 := blk_frozen BK865.out 2; have hfz16_3 := blk_frozen BK865.out 3; have hfz16_4 := blk_frozen BK865.out 4; have hfz16_5 := blk_frozen BK865.out 5; obtain ⟨Ao17, co17, eo17⟩ := Kd.R_slice HO863.out; subst eo17) | ((with_reducible refine gate_dst (N := 6) rfl ?_); (try (refine gate_guard (by rfl) ?_; dsimp only)); refine box_event ?hg (N := 6) ?hd (cs := #[.int .i64 0, .bool false, .int .i64 0, .int .i64 0, .slice none 0 0, .bool false]) (t := 84) ?hr ?_; (case hd => rfl); (case hg => rfl); (case hr => first | (go_simp; done) | (go_simp; rfl)); intro gb866 hg w18 hbox hb; have n0_ := Aside0.mk (Kd.R_below (by (with_reducible repeat (first | apply Kd.R_alloc | apply Kd.R_drewN | apply Kd.R_drew)); exact (Kd.R_mono (Kd.R_far (p := ⟨gb865, 5, none⟩) (Kd.R_far (p := ⟨gb865, 4, none⟩) (Kd.R_far (p := ⟨gb865, 3, none⟩) (Kd.R_far (p := ⟨gb865, 2, none⟩) (Kd.R_far (p := ⟨gb865, 1, none⟩) (Kd.R_far (p := ⟨gb865, 0, none⟩) (Kd.R_types HO863.out BK865.out (by decide)) (fun _ hk => hk.2) (.int .i64 t857)) (fun _ hk => hk.2) (.bool t858)) (fun _ hk => hk.2) (.int .i64 t859)) (fun _ hk => hk.2) (.int .i64 t860)) (fun _ hk => hk.2) (.slice Ao17 t861.length co17)) (fun _ hk => hk.2) (.bool t864)) (fun _ h_ => h_.1))) hb); have n1_ := Aside0.mk (blk_below (g := gb855) (o := .cells #[.int .u8 a0_0, .int .i64 a0_1, .int .i64 a0_2, .int .i64 a0_3] 78 (0, 0)) (by (with_reducible repeat (first | refine blk_drewN ?_ _ | refine blk_drew ?_ | refine blk_alloc ?_ _)); refine blk_far ?_ NB855_865.out _; (with_reducible repeat (first | refine blk_drewN ?_ _ | refine blk_drew ?_ | refine blk_alloc ?_ _)); refine blk_far ?_ NB855_865.out _; (with_reducible repeat (first | refine blk_drewN ?_ _ | refine blk_drew ?_ | refine blk_alloc ?_ _)); refine blk_far ?_ NB855_865.out _; (with_reducible repeat (first | refine blk_drewN ?_ _ | refine blk_drew ?_ | refine blk_alloc ?_ _)); refine blk_far ?_ NB855_865.out _; (with_reducible repeat (first | refine blk_drewN ?_ _ | refine blk_drew ?_ | refine blk_alloc ?_ _)); refine blk_far ?_ NB855_865.out _; (with_reducible repeat (first | refine blk_drewN ?_ _ | refine blk_drew ?_ | refine blk_alloc ?_ _)); refine blk_far ?_ NB855_865.out _; (with_reducible repeat (first | refine blk_drewN ?_ _ | refine blk_drew ?_ | refine blk_alloc ?_ _)); exact BK855.out) hb); have n2_ := Aside0.mk (blk_below (g := gb865) (o := .cells #[.int .i64 t857, .bool t858, .int .i64 t859, .int .i64 t860, .slice Ao17 t861.length co17, .bool t864] 84 (0, 0)) (by (with_reducible repeat (first | refine blk_drewN ?_ _ | refine blk_drew ?_ | refine blk_alloc ?_ _)); refine blk_put (cs := #[.int .i64 t857, .bool t858, .int .i64 t859, .int .i64 t860, .slice Ao17 t861.length co17, .bool false]) ?_ 5 _ rfl; (with_reducible repeat (first | refine blk_drewN ?_ _ | refine blk_drew ?_ | refine blk_alloc ?_ _)); refine blk_put (cs := #[.int .i64 t857, .bool t858, .int .i64 t859, .int .i64 t860, .slice none 0 0, .bool false]) ?_ 4 _ rfl; (with_reducible repeat (first | refine blk_drewN ?_ _ | refine blk_drew ?_ | refine blk_alloc ?_ _)); refine blk_put (cs := #[.int .i64 t857, .bool t858, .int .i64 t859, .int .i64 0, .slice none 0 0, .bool false]) ?_ 3 _ rfl; (with_reducible repeat (first | refine blk_drewN ?_ _ | refine blk_drew ?_ | refine blk_alloc ?_ _)); refine blk_put (cs := #[.int .i64 t857, .bool t858, .int .i64 0, .int .i64 0, .slice none 0 0, .bool false]) ?_ 2 _ rfl; (with_reducible repeat (first | refine blk_drewN ?_ _ | refine blk_drew ?_ | refine blk_alloc ?_ _)); refine blk_put (cs := #[.int .i64 t857, .bool false, .int .i64 0, .int .i64 0, .slice none 0 0, .bool false]) ?_ 1 _ rfl; (with_reducible repeat (first | refine blk_drewN ?_ _ | refine blk_drew ?_ | refine blk_alloc ?_ _)); refine blk_put (cs := #[.int .i64 0, .bool false, .int .i64 0, .int .i64 0, .slice none 0 0, .bool false]) ?_ 0 _ rfl; (with_reducible repeat (first | refine blk_drewN ?_ _ | refine blk_drew ?_ | refine blk_alloc ?_ _)); exact BK865.out) hb); have n3_ := Aside0.mk (below_step (by repeat (first | (with_reducible first | exact HB.out | apply below_alloc | apply pw_below_drewN | apply below_drew1 | refine below_set ?_ GE855.out | refine below_set ?_ GE865.out) | exact HB.out)) hb); have n4_ := Aside0.mk (hbox); have n5_ := Aside0.mk ((by rw [hg]; exact (below_size (by repeat (first | (with_reducible first | exact HB.out | apply below_alloc | apply pw_below_drewN | apply below_drew1 | refine below_set ?_ GE855.out | refine below_set ?_ GE865.out) | exact HB.out))) : w.heap.size ≤ gb866)); have n6_ := Aside0.mk ((by rw [hg]; exact (below_size (by repeat (first | (with_reducible first | exact HB.out | apply below_alloc | apply pw_below_drewN | apply below_drew1 | refine below_set ?_ GE855.out | refine below_set ?_ GE865.out) | exact HB.out))) : w.heap.size ≤ gb866)); have n7_ := Aside0.mk ((by rw [hg]; exact Nat.ne_of_lt (blk_lt (g := gb855) (o := .cells #[.int .u8 a0_0, .int .i64 a0_1, .int .i64 a0_2, .int .i64 a0_3] 78 (0, 0)) (by (with_reducible repeat (first | refine blk_drewN ?_ _ | refine blk_drew ?_ | refine blk_alloc ?_ _)); refine blk_far ?_ NB855_865.out _; (with_reducible repeat (first | refine blk_drewN ?_ _ | refine blk_drew ?_ | refine blk_alloc ?_ _)); refine blk_far ?_ NB855_865.out _; (with_reducible repeat (first | refine blk_drewN ?_ _ | refine blk_drew ?_ | refine blk_alloc ?_ _)); refine blk_far ?_ NB855_865.out _; (with_reducible repeat (first | refine blk_drewN ?_ _ | refine blk_drew ?_ | refine blk_alloc ?_ _)); refine blk_far ?_ NB855_865.out _; (with_reducible repeat (first | refine blk_drewN ?_ _ | refine blk_drew ?_ | refine blk_alloc ?_ _)); refine blk_far ?_ NB855_865.out _; (with_reducible repeat (first | refine blk_drewN ?_ _ | refine blk_drew ?_ | refine blk_alloc ?_ _)); refine blk_far ?_ NB855_865.out _; (with_reducible repeat (first | refine blk_drewN ?_ _ | refine blk_drew ?_ | refine blk_alloc ?_ _)); exact BK855.out)) : gb855 ≠ gb866)); have n8_ := Aside0.mk ((by rw [hg]; exact Nat.ne_of_gt (blk_lt (g := gb855) (o := .cells #[.int .u8 a0_0, .int .i64 a0_1, .int .i64 a0_2, .int .i64 a0_3] 78 (0, 0)) (by (with_reducible repeat (first | refine blk_drewN ?_ _ | refine blk_drew ?_ | refine blk_alloc ?_ _)); refine blk_far ?_ NB855_865.out _; (with_reducible repeat (first | refine blk_drewN ?_ _ | refine blk_drew ?_ | refine blk_alloc ?_ _)); refine blk_far ?_ NB855_865.out _; (with_reducible repeat (first | refine blk_drewN ?_ _ | refine blk_drew ?_ | refine blk_alloc ?_ _)); refine blk_far ?_ NB855_865.out _; (with_reducible repeat (first | refine blk_drewN ?_ _ | refine blk_drew ?_ | refine blk_alloc ?_ _)); refine blk_far ?_ NB855_865.out _; (with_reducible repeat (first | refine blk_drewN ?_ _ | refine blk_drew ?_ | refine blk_alloc ?_ _)); refine blk_far ?_ NB855_865.out _; (with_reducible repeat (first | refine blk_drewN ?_ _ | refine blk_drew ?_ | refine blk_alloc ?_ _)); refine blk_far ?_ NB855_865.out _; (with_reducible repeat (first | refine blk_drewN ?_ _ | refine blk_drew ?_ | refine blk_alloc ?_ _)); exact BK855.out)) : gb866 ≠ gb855)); have n9_ := Aside0.mk ((by rw [hg]; exact Nat.ne_of_lt (blk_lt (g := gb865) (o := .cells #[.int .i64 t857, .bool t858, .int .i64 t859, .int .i64 t860, .slice Ao17 t861.length co17, .bool t864] 84 (0, 0)) (by (with_reducible repeat (first | refine blk_drewN ?_ _ | refine blk_drew ?_ | refine blk_alloc ?_ _)); refine blk_put (cs := #[.int .i64 t857, .bool t858, .int .i64 t859, .int .i64 t860, .slice Ao17 t861.length co17, .bool false]) ?_ 5 _ rfl; (with_reducible repeat (first | refine blk_drewN ?_ _ | refine blk_drew ?_ | refine blk_alloc ?_ _)); refine blk_put (cs := #[.int .i64 t857, .bool t858, .int .i64 t859, .int .i64 t860, .slice none 0 0, .bool false]) ?_ 4 _ rfl; (with_reducible repeat (first | refine blk_drewN ?_ _ | refine blk_drew ?_ | refine blk_alloc ?_ _)); refine blk_put (cs := #[.int .i64 t857, .bool t858, .int .i64 t859, .int .i64 0, .slice none 0 0, .bool false]) ?_ 3 _ rfl; (with_reducible repeat (first | refine blk_drewN ?_ _ | refine blk_drew ?_ | refine blk_alloc ?_ _)); refine blk_put (cs := #[.int .i64 t857, .bool t858, .int .i64 0, .int .i64 0, .slice none 0 0, .bool false]) ?_ 2 _ rfl; (with_reducible repeat (first | refine blk_drewN ?_ _ | refine blk_drew ?_ | refine blk_alloc ?_ _)); refine blk_put (cs := #[.int .i64 t857, .bool false, .int .i64 0, .int .i64 0, .slice none 0 0, .bool false]) ?_ 1 _ rfl; (with_reducible repeat (first | refine blk_drewN ?_ _ | refine blk_drew ?_ | refine blk_alloc ?_ _)); refine blk_put (cs := #[.int .i64 0, .bool false, .int .i64 0, .int .i64 0, .slice none 0 0, .bool false]) ?_ 0 _ rfl; (with_reducible repeat (first | refine blk_drewN ?_ _ | refine blk_drew ?_ | refine blk_alloc ?_ _)); exact BK865.out)) : gb865 ≠ gb866)); have n10_ := Aside0.mk ((by rw [hg]; exact Nat.ne_of_gt (blk_lt (g := gb865) (o := .cells #[.int .i64 t857, .bool t858, .int .i64 t859, .int .i64 t860, .slice Ao17 t861.length co17, .bool t864] 84 (0, 0)) (by (with_reducible repeat (first | refine blk_drewN ?_ _ | refine blk_drew ?_ | refine blk_alloc ?_ _)); refine blk_put (cs := #[.int .i64 t857, .bool t858, .int .i64 t859, .int .i64 t860, .slice Ao17 t861.length co17, .bool false]) ?_ 5 _ rfl; (with_reducible repeat (first | refine blk_drewN ?_ _ | refine blk_drew ?_ | refine blk_alloc ?_ _)); refine blk_put (cs := #[.int .i64 t857, .bool t858, .int .i64 t859, .int .i64 t860, .slice none 0 0, .bool false]) ?_ 4 _ rfl; (with_reducible repeat (first | refine blk_drewN ?_ _ | refine blk_drew ?_ | refine blk_alloc ?_ _)); refine blk_put (cs := #[.int .i64 t857, .bool t858, .int .i64 t859, .int .i64 0, .slice none 0 0, .bool false]) ?_ 3 _ rfl; (with_reducible repeat (first | refine blk_drewN ?_ _ | refine blk_drew ?_ | refine blk_alloc ?_ _)); refine blk_put (cs := #[.int .i64 t857, .bool t858, .int .i64 0, .int .i64 0, .slice none 0 0, .bool false]) ?_ 2 _ rfl; (with_reducible repeat (first | refine blk_drewN ?_ _ | refine blk_drew ?_ | refine blk_alloc ?_ _)); refine blk_put (cs := #[.int .i64 t857, .bool false, .int .i64 0, .int .i64 0, .slice none 0 0, .bool false]) ?_ 1 _ rfl; (with_reducible repeat (first | refine blk_drewN ?_ _ | refine blk_drew ?_ | refine blk_alloc ?_ _)); refine blk_put (cs := #[.int .i64 0, .bool false, .int .i64 0, .int .i64 0, .slice none 0 0, .bool false]) ?_ 0 _ rfl; (with_reducible repeat (first | refine blk_drewN ?_ _ | refine blk_drew ?_ | refine blk_alloc ?_ _)); exact BK865.out)) : gb866 ≠ gb865)); clear HO863; clear BK855; clear BK865; clear HB; have HO863 := n0_; have BK855 := n1_; have BK865 := n2_; have HB := n3_; have BK866 := n4_; have GW866 := n5_; have GE866 := n6_; have NB855_866 := n7_; have NB866_855 := n8_; have NB865_866 := n9_; have NB866_865 := n10_; clear n0_ n1_ n2_ n3_ n4_ n5_ n6_ n7_ n8_ n9_ n10_; clear hb hbox hg; have hnb19 := NB866_855.out; have hnc19 := NB855_866.out; have hnb20 := NB866_865.out; have hnc20 := NB865_866.out; have hcz21_0 : w18.cell? ⟨gb866, 0, none⟩ = some (.int .i64 0) := (blk_cell BK866.out 0).trans rfl; have hcz21_1 : w18.cell? ⟨gb866, 1, none⟩ = some (.bool false) := (blk_cell BK866.out 1).trans rfl; have hcz21_2 : w18.cell? ⟨gb866, 2, none⟩ = some (.int .i64 0) := (blk_cell BK866.out 2).trans rfl; have hcz21_3 : w18.cell? ⟨gb866, 3, none⟩ = some (.int .i64 0) := (blk_cell BK866.out 3).trans rfl; have hcz21_4 : w18.cell? ⟨gb866, 4, none⟩ = some (.slice none 0 0) := (blk_cell BK866.out 4).trans rfl; have hcz21_5 : w18.cell? ⟨gb866, 5, none⟩ = some (.bool false) := (blk_cell BK866.out 5).trans rfl; have hfz21_0 := blk_frozen BK866.out 0; have hfz21_1 := blk_frozen BK866.out 1; have hfz21_2 := blk_frozen BK866.out 2; have hfz21_3 := blk_frozen BK866.out 3; have hfz21_4 := blk_frozen BK866.out 4; have hfz21_5 := blk_frozen BK866.out 5; have hcz22_0 : w18.cell? ⟨gb855, 0, none⟩ = some (.int .u8 a0_0) := (blk_cell BK855.out 0).trans rfl; have hcz22_1 : w18.cell? ⟨gb855, 1, none⟩ = some (.int .i64 a0_1) := (blk_cell BK855.out 1).trans rfl; have hcz22_2 : w18.cell? ⟨gb855, 2, none⟩ = some (.int .i64 a0_2) := (blk_cell BK855.out 2).trans rfl; have hcz22_3 : w18.cell? ⟨gb855, 3, none⟩ = some (.int .i64 a0_3) := (blk_cell BK855.out 3).trans rfl; have hfz22_0 := blk_frozen BK855.out 0; have hfz22_1 := blk_frozen BK855.out 1; have hfz22_2 := blk_frozen BK855.out 2; have hfz22_3 := blk_frozen BK855.out 3))
      refine boscagelaw18_ModelOf.settle (p := fun W => Code.wp _ _ _ _ W) (R := fun W => Aside0 (W.heap[gb866]? = some (.cells #[.int .i64 0, .bool false, .int .i64 0, .int .i64 0, .slice none 0 0, .bool false] 84 (0, 0))) ∧ Aside0 (Kd.R k40 40 W w.heap.size (fun _ => True) (.slice Ao17 t861.length co17) t861) ∧ Aside0 (Below w.heap.size w W) ∧ Aside0 (W.heap[gb855]? = some (.cells #[.int .u8 a0_0, .int .i64 a0_1, .int .i64 a0_2, .int .i64 a0_3] 78 (0, 0))) ∧ Aside0 (W.heap[gb865]? = some (.cells #[.int .i64 t857, .bool t858, .int .i64 t859, .int .i64 t860, .slice Ao17 t861.length co17, .bool t864] 84 (0, 0)))) ?_ ?_
      · obtain ⟨p1, p2, p3, p4⟩ := boscagelaw18_ModelOf.put6 (y0 := .int .i64 0) (y1 := .bool false) (y2 := .int .i64 0) (y3 := .int .i64 0) (y4 := .slice none 0 0) (y5 := .bool false) GE866.out BK866.out HO863.out HB.out
        exact ⟨⟨p1⟩, ⟨p2⟩, ⟨p3⟩, ⟨p4 _ _ NB855_866.out BK855.out⟩, ⟨p4 _ _ NB865_866.out BK865.out⟩⟩
      clear hcz12_0 hcz12_1 hcz12_2 hcz12_3 hfz12_0 hfz12_1 hfz12_2 hfz12_3 hcz16_0 hcz16_1 hcz16_2 hcz16_3 hcz16_4 hcz16_5 hfz16_0 hfz16_1 hfz16_2 hfz16_3 hfz16_4 hfz16_5 hcz21_0 hcz21_1 hcz21_2 hcz21_3 hcz21_4 hcz21_5 hfz21_0 hfz21_1 hfz21_2 hfz21_3 hfz21_4 hfz21_5 hcz22_0 hcz22_1 hcz22_2 hcz22_3 hfz22_0 hfz22_1 hfz22_2 hfz22_3 HO863 BK855 BK865 BK866 HB
      rintro W ⟨BK866, HO863, HB, BK855, BK865⟩
      go_cut [7] (fun v7 wc => ∃ (at_ : Int) (wb : Bool) (wk : Int) (Aw : Option Addr) (cw : Nat) (wl : List S40), v7 = .int .i64 at_ ∧ Aside0 (at_ = boscagelaw18_ModelOf.at0 a0_0 a0_1 l1.length ∧ (wb, wk, wl) = boscagelaw18_ModelOf.w0 a0_0 l1) ∧ Aside0 (Kd.C k40 wc Aw wl.length wl ∧ wl.length ≤ cw) ∧ Aside0 (wc.heap[gb866]? = some (.cells #[.int .i64 0, .bool wb, .int .i64 wk, .int .i64 0, .slice Aw wl.length cw, .bool false] 84 (0, 0))) ∧ Aside0 (Kd.R k40 40 wc w.heap.size (fun _ => True) (.slice Ao17 t861.length co17) t861) ∧ Aside0 (Below w.heap.size w wc) ∧ Aside0 (wc.heap[gb865]? = some (.cells #[.int .i64 t857, .bool t858, .int .i64 t859, .int .i64 t860, .slice Ao17 t861.length co17, .bool t864] 84 (0, 0))))
      case first =>
        have CN : ∀ W : World, Kd.C k40 W none 0 [] := fun W => ⟨rfl, by simp, fun h => by simp at h⟩
        by_cases d0 : a0_0 = 4
        · subst d0
          go_wp2
          go_meet
          case rel => exact ⟨_, _, _, _, _, [], rfl, ⟨by simp [boscagelaw18_ModelOf.at0, boscagelaw18_ModelOf.wrapm1 _ (show l1.length < 1000 by omega)], by simp [boscagelaw18_ModelOf.w0]⟩, ⟨CN _, by simp⟩, BK866, HO863, HB, BK865⟩
        by_cases d1 : a0_0 = 7
        · subst d1
          go_wp2
          go_meet
          case rel => exact ⟨_, _, _, _, _, [], rfl, ⟨by simp [boscagelaw18_ModelOf.at0, boscagelaw18_ModelOf.wrapm1 _ (show l1.length < 1000 by omega)], by simp [boscagelaw18_ModelOf.w0]⟩, ⟨CN _, by simp⟩, BK866, HO863, HB, BK865⟩
        by_cases d2 : a0_0 = 5
        · subst d2
          go_wp2
          go_meet
          case rel => exact ⟨_, _, _, _, _, [], rfl, ⟨by simp [boscagelaw18_ModelOf.at0], by simp [boscagelaw18_ModelOf.w0]⟩, ⟨CN _, by simp⟩, BK866, HO863, HB, BK865⟩
        by_cases d3 : a0_0 = 6
        · subst d3
          go_wp2
          go_meet
          case rel => exact ⟨_, _, _, _, _, [], rfl, ⟨by simp [boscagelaw18_ModelOf.at0], by simp [boscagelaw18_ModelOf.w0]⟩, ⟨CN _, by simp⟩, BK866, HO863, HB, BK865⟩
        by_cases d4 : a0_0 = 9
        · subst d4
          have k1 : W.cell? ⟨gb855, 1, none⟩ = some (.int .i64 a0_1) := (blk_cell BK855.out 1).trans rfl
          by_cases g1 : 0 ≤ a0_1
          · have g1b : decide (0 ≤ a0_1) = true := decide_eq_true g1
            by_cases g2 : a0_1 < (l1.length : Int)
            · have g2b : decide (a0_1 < (l1.length : Int)) = true := decide_eq_true g2
              have G := Lib.hid (And.intro g1 g2)
              clear g1 g2
              go_wp2
              go_meet
              case rel => exact ⟨_, _, _, _, _, [], rfl, ⟨by simp [boscagelaw18_ModelOf.at0, G.out], by simp [boscagelaw18_ModelOf.w0]⟩, ⟨CN _, by simp⟩, BK866, HO863, HB, BK865⟩
            · have g2b : decide (a0_1 < (l1.length : Int)) = false := decide_eq_false g2
              have G : Hid (¬ (0 ≤ a0_1 ∧ a0_1 < (l1.length : Int))) := Lib.hid (fun hh => g2 hh.2)
              clear g1 g2
              go_wp2
              go_meet
              case rel => exact ⟨_, _, _, _, _, [], rfl, ⟨by unfold boscagelaw18_ModelOf.at0; rw [if_neg (by decide), if_neg (by decide), if_pos rfl, if_neg G.out], by simp [boscagelaw18_ModelOf.w0]⟩, ⟨CN _, by simp⟩, BK866, HO863, HB, BK865⟩
          · have g1b : decide (0 ≤ a0_1) = false := decide_eq_false g1
            have G : Hid (¬ (0 ≤ a0_1 ∧ a0_1 < (l1.length : Int))) := Lib.hid (fun hh => g1 hh.1)
            clear g1
            go_wp2
            go_meet
            case rel => exact ⟨_, _, _, _, _, [], rfl, ⟨by unfold boscagelaw18_ModelOf.at0; rw [if_neg (by decide), if_neg (by decide), if_pos rfl, if_neg G.out], by simp [boscagelaw18_ModelOf.w0]⟩, ⟨CN _, by simp⟩, BK866, HO863, HB, BK865⟩
        by_cases d5 : a0_0 = 8
        · subst d5
          have e0 : W.cell? ⟨gb866, 0, none⟩ = some (.int .i64 0) := (blk_cell BK866.out 0).trans rfl
          have f0 := blk_frozen BK866.out 0
          have e1 : W.cell? ⟨gb866, 1, none⟩ = some (.bool false) := (blk_cell BK866.out 1).trans rfl
          have f1 := blk_frozen BK866.out 1
          have e2 : W.cell? ⟨gb866, 2, none⟩ = some (.int .i64 0) := (blk_cell BK866.out 2).trans rfl
          have f2 := blk_frozen BK866.out 2
          have e3 : W.cell? ⟨gb866, 3, none⟩ = some (.int .i64 0) := (blk_cell BK866.out 3).trans rfl
          have f3 := blk_frozen BK866.out 3
          have e4 : W.cell? ⟨gb866, 4, none⟩ = some (.slice none 0 0) := (blk_cell BK866.out 4).trans rfl
          have f4 := blk_frozen BK866.out 4
          have e5 : W.cell? ⟨gb866, 5, none⟩ = some (.bool false) := (blk_cell BK866.out 5).trans rfl
          have f5 := blk_frozen BK866.out 5
          go_wp2
          go_meet
          obtain ⟨p1, p2, p3, p4⟩ := boscagelaw18_ModelOf.put6 (y0 := .int .i64 0) (y1 := .bool true) (y2 := .int .i64 (l1.length : Int)) (y3 := .int .i64 0) (y4 := .slice none 0 0) (y5 := .bool false) GE866.out BK866.out HO863.out HB.out
          case rel => exact ⟨_, true, (l1.length : Int), none, 0, [], rfl, ⟨by simp [boscagelaw18_ModelOf.at0], by simp [boscagelaw18_ModelOf.w0]⟩, ⟨CN _, by simp⟩, ⟨p1⟩, ⟨p2⟩, ⟨p3⟩, ⟨p4 _ _ NB865_866.out BK865.out⟩⟩
        by_cases d6 : a0_0 = 10
        · subst d6
          have e0 : W.cell? ⟨gb866, 0, none⟩ = some (.int .i64 0) := (blk_cell BK866.out 0).trans rfl
          have f0 := blk_frozen BK866.out 0
          have e1 : W.cell? ⟨gb866, 1, none⟩ = some (.bool false) := (blk_cell BK866.out 1).trans rfl
          have f1 := blk_frozen BK866.out 1
          have e2 : W.cell? ⟨gb866, 2, none⟩ = some (.int .i64 0) := (blk_cell BK866.out 2).trans rfl
          have f2 := blk_frozen BK866.out 2
          have e3 : W.cell? ⟨gb866, 3, none⟩ = some (.int .i64 0) := (blk_cell BK866.out 3).trans rfl
          have f3 := blk_frozen BK866.out 3
          have e4 : W.cell? ⟨gb866, 4, none⟩ = some (.slice none 0 0) := (blk_cell BK866.out 4).trans rfl
          have f4 := blk_frozen BK866.out 4
          have e5 : W.cell? ⟨gb866, 5, none⟩ = some (.bool false) := (blk_cell BK866.out 5).trans rfl
          have f5 := blk_frozen BK866.out 5
          go_wp2
          go_meet
          obtain ⟨p1, p2, p3, p4⟩ := boscagelaw18_ModelOf.put6 (y0 := .int .i64 0) (y1 := .bool true) (y2 := .int .i64 (l1.length : Int)) (y3 := .int .i64 0) (y4 := .slice none 0 0) (y5 := .bool false) GE866.out BK866.out HO863.out HB.out
          case rel => exact ⟨_, true, (l1.length : Int), none, 0, [], rfl, ⟨by simp [boscagelaw18_ModelOf.at0], by simp [boscagelaw18_ModelOf.w0]⟩, ⟨CN _, by simp⟩, ⟨p1⟩, ⟨p2⟩, ⟨p3⟩, ⟨p4 _ _ NB865_866.out BK865.out⟩⟩
        by_cases d7 : a0_0 = 11
        · subst d7
          have e0 : W.cell? ⟨gb866, 0, none⟩ = some (.int .i64 0) := (blk_cell BK866.out 0).trans rfl
          have f0 := blk_frozen BK866.out 0
          have e1 : W.cell? ⟨gb866, 1, none⟩ = some (.bool false) := (blk_cell BK866.out 1).trans rfl
          have f1 := blk_frozen BK866.out 1
          have e2 : W.cell? ⟨gb866, 2, none⟩ = some (.int .i64 0) := (blk_cell BK866.out 2).trans rfl
          have f2 := blk_frozen BK866.out 2
          have e3 : W.cell? ⟨gb866, 3, none⟩ = some (.int .i64 0) := (blk_cell BK866.out 3).trans rfl
          have f3 := blk_frozen BK866.out 3
          have e4 : W.cell? ⟨gb866, 4, none⟩ = some (.slice none 0 0) := (blk_cell BK866.out 4).trans rfl
          have f4 := blk_frozen BK866.out 4
          have e5 : W.cell? ⟨gb866, 5, none⟩ = some (.bool false) := (blk_cell BK866.out 5).trans rfl
          have f5 := blk_frozen BK866.out 5
          go_wp2
          go_meet
          obtain ⟨p1, p2, p3, p4⟩ := boscagelaw18_ModelOf.put6 (y0 := .int .i64 0) (y1 := .bool true) (y2 := .int .i64 (l1.length : Int)) (y3 := .int .i64 0) (y4 := .slice A1 l1.length c1) (y5 := .bool false) GE866.out BK866.out HO863.out HB.out
          case rel => exact ⟨_, true, (l1.length : Int), A1, c1, l1, rfl, ⟨by simp [boscagelaw18_ModelOf.at0], by simp [boscagelaw18_ModelOf.w0]⟩, ⟨Kd.C_below HR1.out p3, HC1.out⟩, ⟨p1⟩, ⟨p2⟩, ⟨p3⟩, ⟨p4 _ _ NB865_866.out BK865.out⟩⟩
        have b0 : (a0_0 == 4) = false := beq_eq_false_iff_ne.mpr d0
        have b1 : (a0_0 == 7) = false := beq_eq_false_iff_ne.mpr d1
        have b2 : (a0_0 == 5) = false := beq_eq_false_iff_ne.mpr d2
        have b3 : (a0_0 == 6) = false := beq_eq_false_iff_ne.mpr d3
        have b4 : (a0_0 == 9) = false := beq_eq_false_iff_ne.mpr d4
        have b5 : (a0_0 == 8) = false := beq_eq_false_iff_ne.mpr d5
        have b6 : (a0_0 == 10) = false := beq_eq_false_iff_ne.mpr d6
        have b7 : (a0_0 == 11) = false := beq_eq_false_iff_ne.mpr d7
        have D := Lib.hid (⟨d0, d1, d2, d3, d4, d5, d6, d7⟩ : ¬ a0_0 = 4 ∧ ¬ a0_0 = 7 ∧ ¬ a0_0 = 5 ∧ ¬ a0_0 = 6 ∧ ¬ a0_0 = 9 ∧ ¬ a0_0 = 8 ∧ ¬ a0_0 = 10 ∧ ¬ a0_0 = 11)
        clear d0 d1 d2 d3 d4 d5 d6 d7
        go_wp2
        go_meet
        case rel => exact ⟨_, _, _, _, _, [], rfl, ⟨by obtain ⟨d0, d1, d2, d3, d4, d5, d6, d7⟩ := D.out; simp [boscagelaw18_ModelOf.at0, d0, d1, d2, d3, d4], by obtain ⟨d0, d1, d2, d3, d4, d5, d6, d7⟩ := D.out; simp [boscagelaw18_ModelOf.w0, d5, d6, d7]⟩, ⟨CN _, by simp⟩, BK866, HO863, HB, BK865⟩
      case rest =>
        obtain ⟨at_, wb, wk, Aw, cw, wl, rfl, H1, H2, B6, HO, HB, B5⟩ := hcut
        by_cases h1 : 0 ≤ at_ ∧ at_ < (l1.length : Int)
        · have h1a : decide (0 ≤ at_) = true := decide_eq_true h1.1
          have h1b : decide (at_ < (l1.length : Int)) = true := decide_eq_true h1.2
          obtain ⟨n, rfl⟩ := Int.eq_ofNat_of_zero_le h1.1
          have hn : n < l1.length := by omega
          obtain ⟨p, hp⟩ : ∃ p, l1[n]? = some p := ⟨_, List.getElem?_eq_getElem hn⟩
          have AS' : Aside0 (boscagelaw18_Same.f k t857 t858 t859 t860 t861 t864 0 true p.f0 p.f1 [] false = some tS) := by
            have e : boscagelaw18_ModelOf.want a0_0 a0_1 l1 = (true, p.f0, p.f1, []) := by
              unfold boscagelaw18_ModelOf.want
              rw [← H1.out.1, if_pos h1, Int.toNat_natCast]
              simp [List.getD_eq_getElem?_getD, hp]
            have := AS.out
            rw [e] at this
            exact ⟨this⟩
          have hm40 : l1.length ≤ 9223372036854775807 := by omega
          obtain ⟨b, o, hA, hx0, hx1⟩ := at40 (Kd.C_below HR1.out HB.out) (Below.refl _ _) n p hp
          cases hA
          clear h1 hp H1 H2 AS A8 A3
          generalize p.f0 = pa at *
          generalize p.f1 = pb at *
          go_upto_region 24 with (fail)
          have n0 : wc.cell? ⟨gb866, 0, none⟩ = some (.int .i64 0) := (blk_cell B6.out 0).trans rfl
          have f0 := blk_frozen B6.out 0
          have n1 : wc.cell? ⟨gb866, 1, none⟩ = some (.bool wb) := (blk_cell B6.out 1).trans rfl
          have f1 := blk_frozen B6.out 1
          have n2 : wc.cell? ⟨gb866, 2, none⟩ = some (.int .i64 wk) := (blk_cell B6.out 2).trans rfl
          have f2 := blk_frozen B6.out 2
          have n3 : wc.cell? ⟨gb866, 3, none⟩ = some (.int .i64 0) := (blk_cell B6.out 3).trans rfl
          have f3 := blk_frozen B6.out 3
          have n4 : wc.cell? ⟨gb866, 4, none⟩ = some (.slice Aw wl.length cw) := (blk_cell B6.out 4).trans rfl
          have f4 := blk_frozen B6.out 4
          have n5 : wc.cell? ⟨gb866, 5, none⟩ = some (.bool false) := (blk_cell B6.out 5).trans rfl
          have f5 := blk_frozen B6.out 5
          refine wp_region_still_tail 11 (by kernel_rfl) (by kernel_rfl) ?_
          change wpStill _ _ (World.drew wc) (fun a' => wpList _ _ _ _ a' (World.drew wc)) _ _
          change World.cell? (World.drew wc) _ = _ at hx0 hx1 n0 n1 n2 n3 n4 n5
          change World.frozen? (World.drew wc) _ = _ at f0 f1 f2 f3 f4 f5
          have HB2 : Aside0 (Below w.heap.size w (World.drew wc)) := ⟨below_drew1 HB.out⟩
          have HO2 : Aside0 (Kd.R k40 40 (World.drew wc) w.heap.size (fun _ => True) (.slice Ao17 t861.length co17) t861) := ⟨by apply Kd.R_drew; exact HO.out⟩
          have B62 : Aside0 ((World.drew wc).heap[gb866]? = _) := ⟨B6.out⟩
          have B52 : Aside0 ((World.drew wc).heap[gb865]? = _) := ⟨B5.out⟩
          clear HB HO B6 B5
          generalize World.drew wc = W0 at *
          simp only [List.take_succ_cons, List.take_zero, List.drop_succ_cons, List.drop_zero]
          repeat still_step
          refine wpStill_nil ?_
          go_upto_region 25 with (fail)
          refine boscagelaw18_ModelOf.settle (p := fun W => Code.wp _ _ _ _ W) (R := fun W => Aside0 (W.heap[gb866]? = some (.cells #[.int .i64 0, .bool true, .int .i64 pa, .int .i64 pb, .slice none 0 0, .bool false] 84 (0, 0))) ∧ Aside0 (Kd.R k40 40 W w.heap.size (fun _ => True) (.slice Ao17 t861.length co17) t861) ∧ Aside0 (Below w.heap.size w W) ∧ Aside0 (W.heap[gb865]? = some (.cells #[.int .i64 t857, .bool t858, .int .i64 t859, .int .i64 t860, .slice Ao17 t861.length co17, .bool t864] 84 (0, 0)))) ?_ ?_
          · obtain ⟨p1, p2, p3, p4⟩ := boscagelaw18_ModelOf.put6 (y0 := .int .i64 0) (y1 := .bool true) (y2 := .int .i64 pa) (y3 := .int .i64 pb) (y4 := .slice none 0 0) (y5 := .bool false) GE866.out B62.out HO2.out HB2.out
            exact ⟨⟨p1⟩, ⟨p2⟩, ⟨p3⟩, ⟨p4 _ _ NB865_866.out B52.out⟩⟩
          clear n0 n1 n2 n3 n4 n5 f0 f1 f2 f3 f4 f5 hx0 hx1 HB2 HO2 B62 B52
          rintro W ⟨B6, HO, HB, B5⟩
          have z0 : W.cell? ⟨gb865, 0, none⟩ = some (.int .i64 t857) := (blk_cell B5.out 0).trans rfl
          have z1 : W.cell? ⟨gb865, 1, none⟩ = some (.bool t858) := (blk_cell B5.out 1).trans rfl
          have z2 : W.cell? ⟨gb865, 2, none⟩ = some (.int .i64 t859) := (blk_cell B5.out 2).trans rfl
          have z3 : W.cell? ⟨gb865, 3, none⟩ = some (.int .i64 t860) := (blk_cell B5.out 3).trans rfl
          have z4 : W.cell? ⟨gb865, 4, none⟩ = some (.slice Ao17 t861.length co17) := (blk_cell B5.out 4).trans rfl
          have z5 : W.cell? ⟨gb865, 5, none⟩ = some (.bool t864) := (blk_cell B5.out 5).trans rfl
          have y0 : W.cell? ⟨gb866, 0, none⟩ = some (.int .i64 0) := (blk_cell B6.out 0).trans rfl
          have y1 : W.cell? ⟨gb866, 1, none⟩ = some (.bool true) := (blk_cell B6.out 1).trans rfl
          have y2 : W.cell? ⟨gb866, 2, none⟩ = some (.int .i64 pa) := (blk_cell B6.out 2).trans rfl
          have y3 : W.cell? ⟨gb866, 3, none⟩ = some (.int .i64 pb) := (blk_cell B6.out 3).trans rfl
          have y4 : W.cell? ⟨gb866, 4, none⟩ = some (.slice none 0 0) := (blk_cell B6.out 4).trans rfl
          have y5 : W.cell? ⟨gb866, 5, none⟩ = some (.bool false) := (blk_cell B6.out 5).trans rfl
          have K5 := Lib.hid (Kd.R_reads' HO.out)
          have KW : Aside0 (Kd.C k40 W none ([] : List S40).length [] ∧ ([] : List S40).length ≤ 0) := ⟨⟨rfl, by simp, fun h => by simp at h⟩, by simp⟩
          cases tS with
          | true =>
            go_wp2_with (first | ((with_reducible refine gate_callee (f := 73) rfl ?_); refine goesL_ (some 75) rfl rfl Try.func73 (by kernel_rfl) rfl #[.agg #[.int .i64 t857, .bool t858, .int .i64 t859, .int .i64 t860, .slice Ao17 t861.length co17, .bool t864], .agg #[.int .i64 0, .bool true, .int .i64 pa, .int .i64 pb, .slice none 0 0, .bool false]] rfl (by (try simp only [List.map_toArray, List.map_cons, List.map_nil]); first | done | rfl | (simp only [List.length_drop, List.length_take]; rfl)) ?_; refine (boscagelaw18_Same.calls k t857 t858 t859 t860 _ _ t861 t864 0 true pa pb _ _ [] false true _ ?side1 ?side2 ?side3 ?side4 AS'.out).mono ?_; (case side1 => exact K5.out.2.2); (case side2 => exact K5.out.2.1); (case side3 => exact KW.out.1); (case side4 => exact KW.out.2); rintro e w1 ⟨rfl, hb⟩; refine ⟨_, rfl, ?_⟩; have HB1 := Aside0.mk (below_step HB.out hb); have B51 := Aside0.mk (blk_below B5.out hb); clear hb; have x5 : w1.cell? ⟨gb865, 5, none⟩ = some (.bool t864) := (blk_cell B51.out 5).trans rfl))
            go_ret
            exact ⟨by simp, HB1.out⟩
          | false =>
            go_wp2_with (first | ((with_reducible refine gate_callee (f := 73) rfl ?_); refine goesL_ (some 75) rfl rfl Try.func73 (by kernel_rfl) rfl #[.agg #[.int .i64 t857, .bool t858, .int .i64 t859, .int .i64 t860, .slice Ao17 t861.length co17, .bool t864], .agg #[.int .i64 0, .bool true, .int .i64 pa, .int .i64 pb, .slice none 0 0, .bool false]] rfl (by (try simp only [List.map_toArray, List.map_cons, List.map_nil]); first | done | rfl | (simp only [List.length_drop, List.length_take]; rfl)) ?_; refine (boscagelaw18_Same.calls k t857 t858 t859 t860 _ _ t861 t864 0 true pa pb _ _ [] false false _ ?side1 ?side2 ?side3 ?side4 AS'.out).mono ?_; (case side1 => exact K5.out.2.2); (case side2 => exact K5.out.2.1); (case side3 => exact KW.out.1); (case side4 => exact KW.out.2); rintro e w1 ⟨rfl, hb⟩; refine ⟨_, rfl, ?_⟩; have HB1 := Aside0.mk (below_step HB.out hb); clear hb))
            go_ret
            exact ⟨by simp, HB1.out⟩
        · have AS' : Aside0 (boscagelaw18_Same.f k t857 t858 t859 t860 t861 t864 0 wb wk 0 wl false = some tS) := by
            have e : boscagelaw18_ModelOf.want a0_0 a0_1 l1 = (wb, wk, 0, wl) := by
              unfold boscagelaw18_ModelOf.want
              rw [← H1.out.1, if_neg h1, ← H1.out.2]
            have := AS.out
            rw [e] at this
            exact ⟨this⟩
          have hb2 : decide (0 ≤ at_) = false ∨ (decide (0 ≤ at_) = true ∧ decide (at_ < (l1.length : Int)) = false) := by
            by_cases g : 0 ≤ at_
            · exact .inr ⟨decide_eq_true g, decide_eq_false (fun hh => h1 ⟨g, hh⟩)⟩
            · exact .inl (decide_eq_false g)
          clear h1 H1 AS A8 A3
          rcases hb2 with g1 | ⟨g1, g2⟩
          · go_upto_region 25 with (fail)
            refine boscagelaw18_ModelOf.settle (p := fun W => Code.wp _ _ _ _ W) (R := fun W => Aside0 (W.heap[gb866]? = some (.cells #[.int .i64 0, .bool wb, .int .i64 wk, .int .i64 0, .slice Aw wl.length cw, .bool false] 84 (0, 0))) ∧ Aside0 (Kd.R k40 40 W w.heap.size (fun _ => True) (.slice Ao17 t861.length co17) t861) ∧ Aside0 (Below w.heap.size w W) ∧ Aside0 (W.heap[gb865]? = some (.cells #[.int .i64 t857, .bool t858, .int .i64 t859, .int .i64 t860, .slice Ao17 t861.length co17, .bool t864] 84 (0, 0))) ∧ Aside0 (Kd.C k40 W Aw wl.length wl ∧ wl.length ≤ cw)) ?_ ?_
            · exact ⟨by first | exact B6 | exact ⟨B6.out⟩, by first | exact HO | exact ⟨by apply Kd.R_drew; exact HO.out⟩, by first | exact HB | exact ⟨below_drew1 HB.out⟩, by first | exact B5 | exact ⟨B5.out⟩, by first | exact H2 | exact ⟨⟨Kd.C_drew H2.out.1 _, H2.out.2⟩⟩⟩
            clear B6 HO HB B5 H2
            rintro W ⟨B6, HO, HB, B5, KWin⟩
            have z0 : W.cell? ⟨gb865, 0, none⟩ = some (.int .i64 t857) := (blk_cell B5.out 0).trans rfl
            have z1 : W.cell? ⟨gb865, 1, none⟩ = some (.bool t858) := (blk_cell B5.out 1).trans rfl
            have z2 : W.cell? ⟨gb865, 2, none⟩ = some (.int .i64 t859) := (blk_cell B5.out 2).trans rfl
            have z3 : W.cell? ⟨gb865, 3, none⟩ = some (.int .i64 t860) := (blk_cell B5.out 3).trans rfl
            have z4 : W.cell? ⟨gb865, 4, none⟩ = some (.slice Ao17 t861.length co17) := (blk_cell B5.out 4).trans rfl
            have z5 : W.cell? ⟨gb865, 5, none⟩ = some (.bool t864) := (blk_cell B5.out 5).trans rfl
            have y0 : W.cell? ⟨gb866, 0, none⟩ = some (.int .i64 0) := (blk_cell B6.out 0).trans rfl
            have y1 : W.cell? ⟨gb866, 1, none⟩ = some (.bool wb) := (blk_cell B6.out 1).trans rfl
            have y2 : W.cell? ⟨gb866, 2, none⟩ = some (.int .i64 wk) := (blk_cell B6.out 2).trans rfl
            have y3 : W.cell? ⟨gb866, 3, none⟩ = some (.int .i64 0) := (blk_cell B6.out 3).trans rfl
            have y4 : W.cell? ⟨gb866, 4, none⟩ = some (.slice Aw wl.length cw) := (blk_cell B6.out 4).trans rfl
            have y5 : W.cell? ⟨gb866, 5, none⟩ = some (.bool false) := (blk_cell B6.out 5).trans rfl
            have K5 := Lib.hid (Kd.R_reads' HO.out)
            have KW : Aside0 (Kd.C k40 W Aw (wl : List S40).length wl ∧ (wl : List S40).length ≤ cw) := ⟨KWin.out⟩
            cases tS with
            | true =>
              go_wp2_with (first | ((with_reducible refine gate_callee (f := 73) rfl ?_); refine goesL_ (some 75) rfl rfl Try.func73 (by kernel_rfl) rfl #[.agg #[.int .i64 t857, .bool t858, .int .i64 t859, .int .i64 t860, .slice Ao17 t861.length co17, .bool t864], .agg #[.int .i64 0, .bool wb, .int .i64 wk, .int .i64 0, .slice Aw wl.length cw, .bool false]] rfl (by (try simp only [List.map_toArray, List.map_cons, List.map_nil]); first | done | rfl | (simp only [List.length_drop, List.length_take]; rfl)) ?_; refine (boscagelaw18_Same.calls k t857 t858 t859 t860 _ _ t861 t864 0 wb wk 0 _ _ wl false true _ ?side1 ?side2 ?side3 ?side4 AS'.out).mono ?_; (case side1 => exact K5.out.2.2); (case side2 => exact K5.out.2.1); (case side3 => exact KW.out.1); (case side4 => exact KW.out.2); rintro e w1 ⟨rfl, hb⟩; refine ⟨_, rfl, ?_⟩; have HB1 := Aside0.mk (below_step HB.out hb); have B51 := Aside0.mk (blk_below B5.out hb); clear hb; have x5 : w1.cell? ⟨gb865, 5, none⟩ = some (.bool t864) := (blk_cell B51.out 5).trans rfl))
              go_ret
              exact ⟨by simp, HB1.out⟩
            | false =>
              go_wp2_with (first | ((with_reducible refine gate_callee (f := 73) rfl ?_); refine goesL_ (some 75) rfl rfl Try.func73 (by kernel_rfl) rfl #[.agg #[.int .i64 t857, .bool t858, .int .i64 t859, .int .i64 t860, .slice Ao17 t861.length co17, .bool t864], .agg #[.int .i64 0, .bool wb, .int .i64 wk, .int .i64 0, .slice Aw wl.length cw, .bool false]] rfl (by (try simp only [List.map_toArray, List.map_cons, List.map_nil]); first | done | rfl | (simp only [List.length_drop, List.length_take]; rfl)) ?_; refine (boscagelaw18_Same.calls k t857 t858 t859 t860 _ _ t861 t864 0 wb wk 0 _ _ wl false false _ ?side1 ?side2 ?side3 ?side4 AS'.out).mono ?_; (case side1 => exact K5.out.2.2); (case side2 => exact K5.out.2.1); (case side3 => exact KW.out.1); (case side4 => exact KW.out.2); rintro e w1 ⟨rfl, hb⟩; refine ⟨_, rfl, ?_⟩; have HB1 := Aside0.mk (below_step HB.out hb); clear hb))
              go_ret
              exact ⟨by simp, HB1.out⟩
          · go_upto_region 25 with (fail)
            refine boscagelaw18_ModelOf.settle (p := fun W => Code.wp _ _ _ _ W) (R := fun W => Aside0 (W.heap[gb866]? = some (.cells #[.int .i64 0, .bool wb, .int .i64 wk, .int .i64 0, .slice Aw wl.length cw, .bool false] 84 (0, 0))) ∧ Aside0 (Kd.R k40 40 W w.heap.size (fun _ => True) (.slice Ao17 t861.length co17) t861) ∧ Aside0 (Below w.heap.size w W) ∧ Aside0 (W.heap[gb865]? = some (.cells #[.int .i64 t857, .bool t858, .int .i64 t859, .int .i64 t860, .slice Ao17 t861.length co17, .bool t864] 84 (0, 0))) ∧ Aside0 (Kd.C k40 W Aw wl.length wl ∧ wl.length ≤ cw)) ?_ ?_
            · exact ⟨by first | exact B6 | exact ⟨B6.out⟩, by first | exact HO | exact ⟨by apply Kd.R_drew; exact HO.out⟩, by first | exact HB | exact ⟨below_drew1 HB.out⟩, by first | exact B5 | exact ⟨B5.out⟩, by first | exact H2 | exact ⟨⟨Kd.C_drew H2.out.1 _, H2.out.2⟩⟩⟩
            clear B6 HO HB B5 H2
            rintro W ⟨B6, HO, HB, B5, KWin⟩
            have z0 : W.cell? ⟨gb865, 0, none⟩ = some (.int .i64 t857) := (blk_cell B5.out 0).trans rfl
            have z1 : W.cell? ⟨gb865, 1, none⟩ = some (.bool t858) := (blk_cell B5.out 1).trans rfl
            have z2 : W.cell? ⟨gb865, 2, none⟩ = some (.int .i64 t859) := (blk_cell B5.out 2).trans rfl
            have z3 : W.cell? ⟨gb865, 3, none⟩ = some (.int .i64 t860) := (blk_cell B5.out 3).trans rfl
            have z4 : W.cell? ⟨gb865, 4, none⟩ = some (.slice Ao17 t861.length co17) := (blk_cell B5.out 4).trans rfl
            have z5 : W.cell? ⟨gb865, 5, none⟩ = some (.bool t864) := (blk_cell B5.out 5).trans rfl
            have y0 : W.cell? ⟨gb866, 0, none⟩ = some (.int .i64 0) := (blk_cell B6.out 0).trans rfl
            have y1 : W.cell? ⟨gb866, 1, none⟩ = some (.bool wb) := (blk_cell B6.out 1).trans rfl
            have y2 : W.cell? ⟨gb866, 2, none⟩ = some (.int .i64 wk) := (blk_cell B6.out 2).trans rfl
            have y3 : W.cell? ⟨gb866, 3, none⟩ = some (.int .i64 0) := (blk_cell B6.out 3).trans rfl
            have y4 : W.cell? ⟨gb866, 4, none⟩ = some (.slice Aw wl.length cw) := (blk_cell B6.out 4).trans rfl
            have y5 : W.cell? ⟨gb866, 5, none⟩ = some (.bool false) := (blk_cell B6.out 5).trans rfl
            have K5 := Lib.hid (Kd.R_reads' HO.out)
            have KW : Aside0 (Kd.C k40 W Aw (wl : List S40).length wl ∧ (wl : List S40).length ≤ cw) := ⟨KWin.out⟩
            cases tS with
            | true =>
              go_wp2_with (first | ((with_reducible refine gate_callee (f := 73) rfl ?_); refine goesL_ (some 75) rfl rfl Try.func73 (by kernel_rfl) rfl #[.agg #[.int .i64 t857, .bool t858, .int .i64 t859, .int .i64 t860, .slice Ao17 t861.length co17, .bool t864], .agg #[.int .i64 0, .bool wb, .int .i64 wk, .int .i64 0, .slice Aw wl.length cw, .bool false]] rfl (by (try simp only [List.map_toArray, List.map_cons, List.map_nil]); first | done | rfl | (simp only [List.length_drop, List.length_take]; rfl)) ?_; refine (boscagelaw18_Same.calls k t857 t858 t859 t860 _ _ t861 t864 0 wb wk 0 _ _ wl false true _ ?side1 ?side2 ?side3 ?side4 AS'.out).mono ?_; (case side1 => exact K5.out.2.2); (case side2 => exact K5.out.2.1); (case side3 => exact KW.out.1); (case side4 => exact KW.out.2); rintro e w1 ⟨rfl, hb⟩; refine ⟨_, rfl, ?_⟩; have HB1 := Aside0.mk (below_step HB.out hb); have B51 := Aside0.mk (blk_below B5.out hb); clear hb; have x5 : w1.cell? ⟨gb865, 5, none⟩ = some (.bool t864) := (blk_cell B51.out 5).trans rfl))
              go_ret
              exact ⟨by simp, HB1.out⟩
            | false =>
              go_wp2_with (first | ((with_reducible refine gate_callee (f := 73) rfl ?_); refine goesL_ (some 75) rfl rfl Try.func73 (by kernel_rfl) rfl #[.agg #[.int .i64 t857, .bool t858, .int .i64 t859, .int .i64 t860, .slice Ao17 t861.length co17, .bool t864], .agg #[.int .i64 0, .bool wb, .int .i64 wk, .int .i64 0, .slice Aw wl.length cw, .bool false]] rfl (by (try simp only [List.map_toArray, List.map_cons, List.map_nil]); first | done | rfl | (simp only [List.length_drop, List.length_take]; rfl)) ?_; refine (boscagelaw18_Same.calls k t857 t858 t859 t860 _ _ t861 t864 0 wb wk 0 _ _ wl false false _ ?side1 ?side2 ?side3 ?side4 AS'.out).mono ?_; (case side1 => exact K5.out.2.2); (case side2 => exact K5.out.2.1); (case side3 => exact KW.out.1); (case side4 => exact KW.out.2); rintro e w1 ⟨rfl, hb⟩; refine ⟨_, rfl, ?_⟩; have HB1 := Aside0.mk (below_step HB.out hb); clear hb))
              go_ret
              exact ⟨by simp, HB1.out⟩
  · replace c4 := Bool.eq_false_iff.mpr c4
    subst c4
    have H1 : (some false) = some r := by rw [if_neg (show ¬ (false = true) by decide)] at H; exact H
    clear H
    have H := H1
    clear H1
    obtain rfl := Option.some.inj H
    go_enter Try.func20, Try.ntmps20
    go_wp2_with (first | ((with_reducible refine gate_dst (N := 2) rfl ?_); (try (refine gate_guard (by rfl) ?_; dsimp only)); refine box_event ?hg (N := 2) ?hd (cs := #[.int .u8 a0_0, .int .i64 a0_1, .int .i64 a0_2, .int .i64 a0_3]) (t := 78) ?hr ?_; (case hd => rfl); (case hg => rfl); (case hr => first | (go_simp; done) | (go_simp; rfl)); intro gb855 hg w490 hbox hb; have n0_ := Aside0.mk (below_step (by repeat (first | (with_reducible first | exact HB.out | apply below_alloc | apply pw_below_drewN | apply below_drew1) | exact HB.out)) hb); have n1_ := Aside0.mk (hbox); have n2_ := Aside0.mk ((by rw [hg]; exact (below_size (by repeat (first | (with_reducible first | exact HB.out | apply below_alloc | apply pw_below_drewN | apply below_drew1) | exact HB.out))) : w.heap.size ≤ gb855)); have n3_ := Aside0.mk ((by rw [hg]; exact (below_size (by repeat (first | (with_reducible first | exact HB.out | apply below_alloc | apply pw_below_drewN | apply below_drew1) | exact HB.out))) : w.heap.size ≤ gb855)); clear HB; have HB := n0_; have BK855 := n1_; have GW855 := n2_; have GE855 := n3_; clear n0_ n1_ n2_ n3_; clear hb hbox hg) | ((with_reducible refine gate_callee (f := 70) rfl ?_); refine goesL_ (some 8) rfl rfl Try.func70 (by kernel_rfl) rfl #[] rfl (by (try simp only [List.map_toArray, List.map_cons, List.map_nil]); first | done | rfl | (simp only [List.length_drop, List.length_take]; rfl)) ?_; (with_reducible refine (boscagelaw18_Awake.calls k  false _ A3.out).mono ?_); rintro e w491 ⟨rfl, hb⟩; refine ⟨_, rfl, ?_⟩; have n0_ := Aside0.mk (blk_below (g := gb855) (o := .cells #[.int .u8 a0_0, .int .i64 a0_1, .int .i64 a0_2, .int .i64 a0_3] 78 (0, 0)) (by (with_reducible repeat (first | refine blk_drewN ?_ _ | refine blk_drew ?_ | refine blk_alloc ?_ _)); exact BK855.out) hb); have n1_ := Aside0.mk (below_step (by repeat (first | (with_reducible first | exact HB.out | apply below_alloc | apply pw_below_drewN | apply below_drew1 | refine below_set ?_ GE855.out) | exact HB.out)) hb); clear BK855; clear HB; have BK855 := n0_; have HB := n1_; clear n0_ n1_; (try clear hb); (try clear hb2); (try clear hk); (try clear hi)))
    go_ret
    exact ⟨by first | rfl | (simp [errW_none, errW_some] <;> rfl) | (simp [*, errW_none, errW_some] <;> rfl), by repeat (first | (with_reducible first | exact HB.out | apply below_alloc | apply pw_below_drewN | apply below_drew1 | refine below_set ?_ GE855.out) | exact HB.out)⟩
end Go.Proofs.Ytkoiffkonjpoiaa.Q
